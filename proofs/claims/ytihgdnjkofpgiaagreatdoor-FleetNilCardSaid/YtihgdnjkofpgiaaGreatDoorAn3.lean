/- The example's first tree, compiled. Own text (walks printed by sx.py). -/
import Derived.Test.YtihgdnjkofpgiaaGreatDoorAn2
import Derived.Test.YtihgdnjkofpgiaaGreatDoorUj
set_option linter.unusedVariables false
set_option linter.unusedSimpArgs false
namespace Go.Proofs.YtihgdnjkofpgiaaGreatDoor
open Go.RowKit Go.Flow Go.Mem Go.Sep
open Go.In
theorem Does.lax{P:Program}{f:FuncId}{vs:List Value}{Γ1 Γ2:List Chunk}{R:Value→List Chunk→Prop}(h:Does P f vs Γ1 R)(h1:owns Γ1=[])(h2:owns Γ2=[])(hs:∀c∈Γ1,∃d∈Γ2,d=c∨∃K,d=all K∧c∈K):Does P f vs Γ2 R:=fun w hw=>by
 have hsat:sat Γ1 w:=⟨fun c hc=>by
  obtain⟨d,hd,e|⟨K,e,hK⟩⟩:=hs c hc
  ·subst e;exact hw.each _ hd
  ·subst e;exact(hw.each _ hd:sat K w).each c hK,by rw[h1];simp,by rw[h1];simp⟩
 refine(h w hsat).mono fun e w' ⟨v,Γ',e1,e2,e3⟩=>⟨v,Γ',e1,e2,⟨e3.sat,?_,fun g hg hl=>?_,fun g hg hl=>?_⟩⟩
 ·rw[h2];have:=e3.keeps;rwa[h1]at this
 ·have:=e3.own g hg hl;rw[h1]at this;cases this
 · rcases e3.rd g hg hl with h|h
   ·rw[h1]at h;cases h
   · obtain⟨c,hc,hg⟩:=mem_reads.1 h
     obtain⟨d,hd,e|⟨K,e,hK⟩⟩:=hs c hc
     ·subst e;exact .inr (mem_reads.2 ⟨_,hd,hg⟩)
     ·subst e;exact .inr (mem_reads.2 ⟨_,hd,(mem_reads.2 ⟨c,hK,hg⟩:g∈reads K)⟩)
def cAt(i:Nat):List AV:=match GL.find? fun c=>c.i==i with|some c=>c.cs|none=>[]
def GLS:List MC:=GL.filter fun c=>[0,4,6,7].contains c.i
def V2:AV:= .tup [.ptr 4657 0, .int .i64 0]
def M2F:List MC:=[⟨4657, .ro,[.slu 4777 0 2 4778 2]⟩,⟨4777, .ro,[.slu 4636 0 1 4637 1, .slu 4715 0 1 4716 1, .slu 4721 0 1 4722 1, .slu 4651 0 2 4652 2, .slu 4768 0 2 4769 2, .slu 4774 0 2 4775 2]⟩,⟨4636, .ro,[.str [104]]⟩,⟨4651, .ro,[.str [103], .str [107]]⟩]
set_option maxRecDepth 1000000 in
theorem compile_run:(match callA env noO 60 20 [F1V] (M1F++GLS) 4400 with|some (v,M,_)=>eqV v V2&&thB M2F (roM M)|none=>false)=true:=by kernel_rfl
theorem M1S_bel:belM 4400 (M1F++GLS):=by
 intro c hc
 have:∀c∈M1F++GLS,Nat.blt c.i 4400=true∧(match c.kd with| .ro=>true|_=>false)=true∧belsB 4400 c.cs=true:=by decide+kernel
 obtain⟨h1,h2,h3⟩:=this c hc
 obtain⟨i,kd,cs⟩:=c
 refine⟨Nat.le_of_ble_eq_true h1,?_,belsB_ok _ h3⟩
 cases kd<;>first|trivial|cases h2
theorem F1V_bel:bels 4400 [F1V]:=belsB_ok _ (by decide+kernel)
theorem compile1_mem(σ:Nat→Nat):Does Tryz.prog 20 [.agg (F1 σ).cells.toArray] (mem σ (M1F++GLS)) (fun v Γ'=>∃σ',v=val σ' V2∧Γ'=[all (mem σ' M2F)]):=by
 have h:=compile_run
 split at h
 · rename_i v M k' hc
   rw[Bool.and_eq_true]at h
   have ev:=eqV_ok _ _ h.1
   subst ev
   have hk:=(callA_ok (E:=env) noO_ok 60 _ _ _ _ _ _ _ hc (by decide) F1V_bel M1S_bel).does σ
   exact(Does.layM hk h.2 rfl).mono fun u Γ' ⟨σ',_,h1,h2⟩=>⟨σ',h1,h2⟩
 ·cases h
def pA(σ:Nat→Nat):PP:=⟨some ⟨σ 4636,0,none⟩,1+σ 4637,[bytesOf [104]],some ⟨σ 4715,0,none⟩,1+σ 4716,[⟨none,0,[]⟩],some ⟨σ 4721,0,none⟩,1+σ 4722,[⟨none,0,[]⟩]⟩
def pB(σ:Nat→Nat):PP:=⟨some ⟨σ 4651,0,none⟩,2+σ 4652,[bytesOf [103],bytesOf [107]],some ⟨σ 4768,0,none⟩,2+σ 4769,[⟨none,0,[]⟩,⟨none,0,[]⟩],some ⟨σ 4774,0,none⟩,2+σ 4775,[⟨none,0,[]⟩,⟨none,0,[]⟩]⟩
theorem mem2(σ:Nat→Nat):mem σ M2F=[ro (some ⟨σ 4657,0,none⟩) [.slice (some ⟨σ 4777,0,none⟩) 2 (2+σ 4778)],ros encPP (some ⟨σ 4777,0,none⟩) [pA σ,pB σ],ros encZ (pA σ).An (pA σ).names,ros encZ (pB σ).An (pB σ).names]:=by
 simp only[mem,M2F,List.map_cons,List.map_nil,ck,vals,val]
 rfl
theorem mem2_lax(σ:Nat→Nat):Lax (mem σ M2F):=by
 rw[mem2]
 intro c hc
 simp only[List.mem_cons,List.not_mem_nil,or_false]at hc
 rcases hc with rfl|rfl|rfl|rfl<;>rfl
theorem mem2_pg(σ:Nat→Nat):PgN (σ 4657) (some ⟨σ 4777,0,none⟩) (2+σ 4778) [pA σ,pB σ] (mem σ M2F):=by
 refine⟨?_,?_,fun p hp=>?_,mem2_lax σ⟩
 ·rw[mem2];exact List.mem_cons_self ..
 ·rw[mem2];exact List.mem_cons_of_mem _ (List.mem_cons_self ..)
 · rw[mem2]
   simp only[List.mem_cons,List.not_mem_nil,or_false]at hp
   rcases hp with rfl|rfl
   ·exact mog (i:=2) rfl
   ·exact mog (i:=3) rfl
set_option maxRecDepth 100000 in
theorem memS(σ:Nat→Nat):mem σ GLS=[tabC,fmC,wordsC,shC]:=by
 have h0:GLS=[⟨0, .ro,cAt 0⟩,⟨4, .ro,cAt 4⟩,⟨6, .ro,cAt 6⟩,⟨7, .ro,cAt 7⟩]:=rfl
 have h1:tabC=ck σ ⟨0, .ro,cAt 0⟩:=rfl
 have h2:fmC=ck σ ⟨4, .ro,cAt 4⟩:=rfl
 have h3:wordsC=ck σ ⟨6, .ro,cAt 6⟩:=rfl
 have h4:shC=ck σ ⟨7, .ro,cAt 7⟩:=rfl
 rw[h0,h1,h2,h3,h4];rfl
theorem mem1_sub(σ:Nat→Nat):∀c∈mem σ M1F,c∈(F1 σ).kids eX:=by
 rw[mem1]
 intro c hc
 simp only[F1,cmA,cmB,vsA,vsB,vsC,hndA,hndB,hndC,hndD,sA,eA,Fl.kids,Cm.kids,Vs.kids,Hd.kids,St.kidsL,St.kids,Ex.kidsL,Ex.kids,List.flatMap_cons,List.flatMap_nil,List.mem_append,List.mem_cons,List.append_nil,List.cons_append,List.nil_append,List.not_mem_nil,or_false,eX]at hc⊢
 rcases hc with h|h|h|h|h|h|h|h|h|h|h|h|h<;>subst h<;>simp only[true_or,or_true]
def R1(b:Nat)(G:List Chunk):Prop:=∃σ,PgN b (some ⟨σ 4777,0,none⟩) (2+σ 4778) [pA σ,pB σ] G
theorem compile1_fn(σ:Nat→Nat):Does Tryz.prog 20 [.agg (F1 σ).cells.toArray] [all ((F1 σ).kids eX),glc,p10c,tabC] (fun v Γ'=>∃(b:Nat) (G:List Chunk),v= .tuple #[pv b, .int .i64 0]∧Γ'=[all G]∧Lax G∧R1 b G):=by
 refine(Does.lax (compile1_mem σ) ?_ rfl ?_).mono fun v Γ' ⟨σ',h1,h2⟩=>⟨σ' 4657,mem σ' M2F,h1,h2,mem2_lax σ',σ',mem2_pg σ'⟩
 ·rw[mem_append,owns_append,memS,mem1];rfl
 · intro c hc
   rw[mem_append,List.mem_append]at hc
   rcases hc with hc|hc
   ·exact⟨_,List.mem_cons_self .., .inr ⟨_,rfl,mem1_sub σ c hc⟩⟩
   · rw[memS]at hc
     simp only[List.mem_cons,List.not_mem_nil,or_false]at hc
     rcases hc with rfl|rfl|rfl|rfl
     ·exact⟨_,mog (i:=3) rfl, .inl rfl⟩
     ·exact⟨glc,mog (i:=1) rfl, .inr ⟨gl,rfl,mog (i:=2) rfl⟩⟩
     ·exact⟨glc,mog (i:=1) rfl, .inr ⟨gl,rfl,mog (i:=0) rfl⟩⟩
     ·exact⟨glc,mog (i:=1) rfl, .inr ⟨gl,rfl,mog (i:=1) rfl⟩⟩
end Go.Proofs.YtihgdnjkofpgiaaGreatDoor
