/- Own text. -/
import Derived.Test.YtihgdnjkofpgiaaGreatDoorAn2
import Derived.Test.YtihgdnjkofpgiaaGreatDoorUk
set_option linter.unusedVariables false
set_option linter.unusedSimpArgs false
namespace Go.Proofs.YtihgdnjkofpgiaaGreatDoor
open Go.Proofs.Tryz
open Go.RowKit Go.Flow Go.Mem Go.Sep
open Go.In
theorem Bd.lax{P:Program}{f:FuncId}{vs:List Value}{Γ1 Γ2:List Ad}{R:Value→List Ad→Prop}(h:Bd P f vs Γ1 R)(h1:owns Γ1=[])(h2:owns Γ2=[])(hs:∀c∈Γ1,∃d∈Γ2,d=c∨∃K,d=all K∧c∈K):Bd P f vs Γ2 R:=fun w hw=>by
 have hsat:sat Γ1 w:=⟨fun c hc=>by
  obtain⟨d,hd,e|⟨K,e,hK⟩⟩:=hs c hc
  ·subst e;exact hw.each _ hd
  ·subst e;exact(hw.each _ hd:sat K w).each c hK,by rw[h1];simp,by rw[h1];simp⟩
 refine(h w hsat).mono fun e w' ⟨v,Γ',e1,e2,e3⟩=>⟨v,Γ',e1,e2,⟨e3.sat,?_,fun g hg hl=>?_,fun g hg hl=>?_⟩⟩
 ·rw[h2];have:=e3.keeps;rwa[h1]at this
 ·have:=e3.own g hg hl;rw[h1]at this;cases this
 · rcases e3.rd g hg hl with h|h
   ·rw[h1]at h;cases h
   · obtain⟨c,hc,hg⟩:=dm.1 h
     obtain⟨d,hd,e|⟨K,e,hK⟩⟩:=hs c hc
     ·subst e;exact .inr (dm.2 ⟨_,hd,hg⟩)
     ·subst e;exact .inr (dm.2 ⟨_,hd,(dm.2 ⟨c,hK,hg⟩:g∈reads K)⟩)
def cAt(i:Nat):List AV:=match GL.find? fun c=>c.i==i with|some c=>c.cs|none=>[]
def GLS:List MC:=GL.filter fun c=>[0,4,6,7].contains c.i
def V2:AV:= .tup [.ptr 4657 0, .int .i64 0]
def M2F:List MC:=[⟨4657, .ro,[.slu 4777 0 2 4778 2]⟩,⟨4777, .ro,[.slu 4636 0 1 4637 1, .slu 4715 0 1 4716 1, .slu 4721 0 1 4722 1, .slu 4651 0 2 4652 2, .slu 4768 0 2 4769 2, .slu 4774 0 2 4775 2]⟩,⟨4636, .ro,[.str [104]]⟩,⟨4651, .ro,[.str [103], .str [107]]⟩]
set_option maxRecDepth 1000000 in
theorem AU:(match bR env noO 60 20 [F1V] (M1F++GLS) 4400 with|some (v,M,_)=>eqV v V2&&thB M2F (roM M)|none=>false)=true:=by kernel_rfl
theorem aCm:Le 4400 (M1F++GLS):=by
 intro c hc;have:∀c∈M1F++GLS,Nat.blt c.i 4400=true∧(match c.kd with| .ro=>true|_=>false)=true∧bM 4400 c.cs=true:=by decide+kernel
 obtain⟨h1,h2,h3⟩:=this c hc;obtain⟨i,kd,cs⟩:=c;refine⟨aNt h1,?_,Qi _ h3⟩;cases kd<;>first|trivial|cases h2
theorem aCn:Ej 4400 [F1V]:=Qi _ (by decide+kernel)
theorem vS(σ:Nat→Nat):Dz 20 [.agg (F1 σ).cells.toArray] (mem σ (M1F++GLS)) (fun v Γ'=>∃σ',v=val σ' V2∧Γ'=[all (mem σ' M2F)]):=by
 have h:=AU;split at h
 · rename_i v M k' hc
   rw[aOc]at h;have ev:=fA _ _ h.1;subst ev;have hk:=(Xl (E:=env) SX 60 _ _ _ _ _ _ _ hc (by decide) aCn aCm).does σ;exact(qR hk h.2 rfl).mono fun u Γ' ⟨σ',_,h1,h2⟩=>⟨σ',h1,h2⟩
 ·cases h
def pA(σ:Nat→Nat):PP:=⟨some ⟨σ 4636,0,none⟩,1+σ 4637,[fT [104]],some ⟨σ 4715,0,none⟩,1+σ 4716,[⟨none,0,[]⟩],some ⟨σ 4721,0,none⟩,1+σ 4722,[⟨none,0,[]⟩]⟩
def pB(σ:Nat→Nat):PP:=⟨some ⟨σ 4651,0,none⟩,2+σ 4652,[fT [103],fT [107]],some ⟨σ 4768,0,none⟩,2+σ 4769,[⟨none,0,[]⟩,⟨none,0,[]⟩],some ⟨σ 4774,0,none⟩,2+σ 4775,[⟨none,0,[]⟩,⟨none,0,[]⟩]⟩
theorem mem2(σ:Nat→Nat):mem σ M2F=[ro (some ⟨σ 4657,0,none⟩) [.slice (some ⟨σ 4777,0,none⟩) 2 (2+σ 4778)],ros dO (some ⟨σ 4777,0,none⟩) [pA σ,pB σ],ros Da (pA σ).An (pA σ).names,ros Da (pB σ).An (pB σ).names]:=by
 simp only[mem,M2F,aOw,aPq,ck,Dm,val];rfl
theorem AX(σ:Nat→Nat):Lax (mem σ M2F):=by
 rw[mem2];intro c hc;simp only[aNx,aOe,aPh]at hc;rcases hc with rfl|rfl|rfl|rfl<;>rfl
theorem aCo(σ:Nat→Nat):PgN (σ 4657) (some ⟨σ 4777,0,none⟩) (2+σ 4778) [pA σ,pB σ] (mem σ M2F):=by
 refine⟨?_,?_,fun p hp=>?_,AX σ⟩
 ·rw[mem2];exact aNu ..
 ·rw[mem2];exact aNs _ (aNu ..)
 · rw[mem2]
   simp only[aNx,aOe,aPh]at hp;rcases hp with rfl|rfl
   ·exact sN (i:=2) rfl
   ·exact sN (i:=3) rfl
set_option maxRecDepth 100000 in
theorem aLc(σ:Nat→Nat):mem σ GLS=[Gz,fmC,fF,shC]:=by
 have h0:GLS=[⟨0, .ro,cAt 0⟩,⟨4, .ro,cAt 4⟩,⟨6, .ro,cAt 6⟩,⟨7, .ro,cAt 7⟩]:=rfl;have h1:Gz=ck σ ⟨0, .ro,cAt 0⟩:=rfl;have h2:fmC=ck σ ⟨4, .ro,cAt 4⟩:=rfl;have h3:fF=ck σ ⟨6, .ro,cAt 6⟩:=rfl;have h4:shC=ck σ ⟨7, .ro,cAt 7⟩:=rfl;rw[h0,h1,h2,h3,h4];rfl
theorem WJ(σ:Nat→Nat):∀c∈mem σ M1F,c∈(F1 σ).kids eX:=by
 rw[mem1];intro c hc;simp only[F1,cmA,cmB,vsA,vsB,vsC,aAx,aAy,aAz,aBa,sA,eA,Fl.kids,Cm.kids,Vs.kids,Hd.kids,Eh,St.kids,Ea,Ex.kids,aPl,List.flatMap_nil,aPi,aNx,aOo,aQp,aQj,aOe,aPh,eX]at hc⊢;rcases hc with h|h|h|h|h|h|h|h|h|h|h|h|h<;>subst h<;>simp only[true_or,or_true]
def R1(b:Nat)(G:List Ad):Prop:=∃σ,PgN b (some ⟨σ 4777,0,none⟩) (2+σ 4778) [pA σ,pB σ] G
theorem AY(σ:Nat→Nat):Dz 20 [.agg (F1 σ).cells.toArray] [all ((F1 σ).kids eX),ay,ax,Gz] (fun v Γ'=>∃(b:Nat) (G:List Ad),v= .tuple #[pv b, .int .i64 0]∧Γ'=[all G]∧Lax G∧R1 b G):=by
 refine(Bd.lax (vS σ) ?_ rfl ?_).mono fun v Γ' ⟨σ',h1,h2⟩=>⟨σ' 4657,mem σ' M2F,h1,h2,AX σ',σ',aCo σ'⟩
 ·rw[bu,Dk,aLc,mem1];rfl
 · intro c hc
   rw[bu,aPi]at hc;rcases hc with hc|hc
   ·exact⟨_,aNu .., .inr ⟨_,rfl,WJ σ c hc⟩⟩
   · rw[aLc]at hc
     simp only[aNx,aOe,aPh]at hc;rcases hc with rfl|rfl|rfl|rfl
     ·exact⟨_,sN (i:=3) rfl, .inl rfl⟩
     ·exact⟨ay,sN (i:=1) rfl, .inr ⟨gl,rfl,sN (i:=2) rfl⟩⟩
     ·exact⟨ay,sN (i:=1) rfl, .inr ⟨gl,rfl,sN (i:=0) rfl⟩⟩
     ·exact⟨ay,sN (i:=1) rfl, .inr ⟨gl,rfl,sN (i:=1) rfl⟩⟩
end Go.Proofs.YtihgdnjkofpgiaaGreatDoor
