/- Merged out of Al, An4 by merge.py. Own text. -/
import Derived.Test.YtihgdnjkofpgiaaGreatDoorAn1
set_option linter.unusedVariables false
set_option linter.unusedSimpArgs false
namespace Go.In
open Go.RowKit Go.Flow Go.Mem Go.Sep
theorem roM_mem{M:List MC}{d:MC}(h:d∈roM M):∃c∈M,∃cs,cellsM c=some cs∧d=⟨c.i, .ro,cs⟩:=by
 induction M with
 |nil=>cases h
 | cons c M ih=>
   unfold roM at h
   split at h
   · rename_i cs hc
     rcases List.mem_cons.1 h with rfl|h
     ·exact⟨c,List.mem_cons_self ..,cs,hc,rfl⟩
     · obtain⟨c',h1,h2⟩:=ih h
       exact⟨c',List.mem_cons_of_mem _ h1,h2⟩
   · obtain⟨c',h1,h2⟩:=ih h
     exact⟨c',List.mem_cons_of_mem _ h1,h2⟩
theorem touch_ro{σ:Nat→Nat}{c:MC}{cs:List AV}(h:cellsM c=some cs):∀g∈(ck σ ⟨c.i, .ro,cs⟩).reads,g∈(ck σ c).owns∨g∈(ck σ c).reads:=fun g hg=>by
 have hb:g=bl σ c.i:=by
  have h1:g∈rblks (some ⟨bl σ c.i,0,none⟩) (vals σ cs):=hg
  cases h2:vals σ cs with
  |nil=>rw[h2]at h1;simp[rblks]at h1
  |cons u us=>rw[h2]at h1;simpa[rblks,blks]using h1
 obtain⟨i,kd,cs'⟩:=c
 subst hb
 cases kd with
 |box t=>exact .inl (by simp[ck,Sep.box])
 |row a b c d=>exact .inl (by simp[ck,Sep.row,blks])
 | ro=>
   simp only[cellsM,Option.some.injEq]at h
   subst h
   exact .inr hg
 |maps m=>cases h
theorem ro_owns{σ:Nat→Nat}{Th:List MC}(h:Th.all isRo=true):owns (mem σ Th)=[]:=by
 induction Th with
 |nil=>rfl
 | cons c r ih=>
   simp only[List.all_cons,Bool.and_eq_true]at h
   show(ck σ c).owns++owns (mem σ r)=[]
   rw[ih h.2]
   obtain⟨i,kd,cs⟩:=c
   cases kd<;>first|rfl|exact Bool.noConfusion h.1
theorem Does.layM{P:Program}{f:FuncId}{vs:List Value}{Γ:List Chunk}{k:Nat}{σ:Nat→Nat}{V:AV}{M Th:List MC}(h:Does P f vs Γ (Outs k σ V M))(ht:thB Th (roM M)=true)(hr:Th.all isRo=true):Does P f vs Γ (fun v Γ'=>∃σ',Sup k σ σ'∧v=val σ' V∧Γ'=[all (mem σ' Th)]):=fun w hs=>
 (h w hs).mono fun e w' ⟨u,Γ',h1,⟨σ',h2,h3,h4⟩,h5⟩=>by
  subst h4
  have hok:=thB_oks (σ:=σ') ht w' (roM_oks h5.sat.each)
  have ho:=ro_owns (σ:=σ') hr
  have hoa:owns [all (mem σ' Th)]=[]:=by rw[owns_all,List.append_nil];exact ho
  refine⟨u,[all (mem σ' Th)],h1,⟨σ',h2,h3,rfl⟩,⟨⟨fun c hc=>?_,by rw[hoa];simp,by rw[hoa];simp⟩,h5.keeps,fun g hg=>(by rw[hoa]at hg;cases hg),fun g hg hl=>?_⟩⟩
  · rw[List.mem_singleton.1 hc]
    exact⟨hok,by rw[ho];simp,by rw[ho];simp⟩
  · rw[reads_all,List.append_nil]at hg
    obtain⟨c,hc,hg⟩:=mem_reads.1 hg
    obtain⟨d,hd,rfl⟩:=List.mem_map.1 hc
    obtain⟨c2,hc2,cs,hcs,e2⟩:=roM_mem (thB_mem ht d hd)
    rw[e2]at hg
    rcases touch_ro hcs g hg with h|h
    ·exact .inl (h5.own g (mem_owns.2 ⟨_,List.mem_map_of_mem hc2,h⟩) hl)
    ·exact h5.rd g (mem_reads.2 ⟨_,List.mem_map_of_mem hc2,h⟩) hl
end Go.In
namespace Go.Proofs.YtihgdnjkofpgiaaGreatDoor
open Go.In
open Go.RowKit Go.Flow Go.Mem Go.Sep
def V3:AV:= .tup [.nilp, .int .i64 0, .int .i64 9]
set_option maxRecDepth 1000000 in
theorem second_run:(match callA env orcL 60 40 [.str txt2] GL 4096 with|some (v,_,_)=>eqV v V3|none=>false)=true:=by kernel_rfl
theorem second_fn:Does Tryz.prog 40 [.string (bytesOf txt2)] gA (fun v _=>v= .tuple #[.pointer none, .int .i64 0, .int .i64 9]):=by
 have h:=second_run
 split at h
 · rename_i v M k' hc
   have ev:=eqV_ok _ _ h
   subst ev
   have hk:=(callA_ok (E:=env) orcL_ok 60 _ _ _ _ _ _ _ hc (Nat.le_refl _) (by simp only[bels,bel];exact⟨trivial,trivial⟩) GL_bel).does z0
   simp only[vals,val]at hk
   exact hk.mono fun u Γ' ⟨σ,_,h1,_⟩=>by rw[h1];simp only[V3,vals,val]
 ·cases h
end Go.Proofs.YtihgdnjkofpgiaaGreatDoor
