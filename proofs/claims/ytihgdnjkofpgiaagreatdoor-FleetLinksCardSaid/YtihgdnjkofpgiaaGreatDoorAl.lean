/- Own text. -/
import Derived.Test.YtihgdnjkofpgiaaGreatDoorA17
set_option linter.unusedVariables false
set_option linter.unusedSimpArgs false
namespace Go.In
open Go.RowKit Go.Flow Go.Mem Go.Sep
theorem aAa{M:List MC}{d:MC}(h:d∈roM M):∃c∈M,∃cs,Pi c=some cs∧d=⟨c.i, .ro,cs⟩:=by
 induction M with
 |nil=>cases h
 | cons c M ih=>
   unfold roM at h;split at h
   · rename_i cs hc
     rcases aNx.1 h with rfl|h
     ·exact⟨c,aNu ..,cs,hc,rfl⟩
     · obtain⟨c',h1,h2⟩:=ih h
       exact⟨c',aNs _ h1,h2⟩
   · obtain⟨c',h1,h2⟩:=ih h
     exact⟨c',aNs _ h1,h2⟩
theorem TF{σ:Nat→Nat}{c:MC}{cs:List AV}(h:Pi c=some cs):∀g∈(ck σ ⟨c.i, .ro,cs⟩).reads,g∈(ck σ c).owns∨g∈(ck σ c).reads:=fun g hg=>by
 have hb:g=bl σ c.i:=by
  have h1:g∈Jc (some ⟨bl σ c.i,0,none⟩) (Dm σ cs):=hg;cases h2:Dm σ cs with
  |nil=>rw[h2]at h1;simp[Jc]at h1
  |cons u us=>rw[h2]at h1;simpa[Jc,Ik]using h1
 obtain⟨i,kd,cs'⟩:=c;subst hb;cases kd with
 |box t=>exact .inl (by simp[ck,Sep.box])
 |row a b c d=>exact .inl (by simp[ck,Sep.row,Ik])
 | ro=>
   simp only[Pi,aOi]at h;subst h;exact .inr hg
 |maps m=>cases h
theorem aAb{σ:Nat→Nat}{Th:List MC}(h:Th.all RY=true):owns (mem σ Th)=[]:=by
 induction Th with
 |nil=>rfl
 | cons c r ih=>
   simp only[List.all_cons,aOc]at h;show(ck σ c).owns++owns (mem σ r)=[];rw[ih h.2];obtain⟨i,kd,cs⟩:=c;cases kd<;>first|rfl|exact Bool.noConfusion h.1
theorem qR{P:pG}{f:FuncId}{vs:List vU}{Γ:List Ad}{k:Nat}{σ:Nat→Nat}{V:AV}{M Th:List MC}(h:Bd P f vs Γ (iK k σ V M))(ht:thB Th (roM M)=true)(hr:Th.all RY=true):Bd P f vs Γ (fun v Γ'=>∃σ',Sup k σ σ'∧v=val σ' V∧Γ'=[all (mem σ' Th)]):=fun w hs=>
 (h w hs).mono fun e w' ⟨u,Γ',h1,⟨σ',h2,h3,h4⟩,h5⟩=>by
  subst h4;have hok:=Uv (σ:=σ') ht w' (uG h5.sat.each);have ho:=aAb (σ:=σ') hr;have hoa:owns [all (mem σ' Th)]=[]:=by rw[Rp,aOo];exact ho
  refine⟨u,[all (mem σ' Th)],h1,⟨σ',h2,h3,rfl⟩,⟨⟨fun c hc=>?_,by rw[hoa];simp,by rw[hoa];simp⟩,h5.keeps,fun g hg=>(by rw[hoa]at hg;cases hg),fun g hg hl=>?_⟩⟩
  · rw[aNz.1 hc]
    exact⟨hok,by rw[ho];simp,by rw[ho];simp⟩
  · rw[Tq,aOo]at hg
    obtain⟨c,hc,hg⟩:=dm.1 hg;obtain⟨d,hd,rfl⟩:=aOm.1 hc;obtain⟨c2,hc2,cs,hcs,e2⟩:=aAa (uF ht d hd);rw[e2]at hg;rcases TF hcs g hg with h|h
    ·exact .inl (h5.own g (Ri.2 ⟨_,List.mem_map_of_mem hc2,h⟩) hl)
    ·exact h5.rd g (dm.2 ⟨_,List.mem_map_of_mem hc2,h⟩) hl
end Go.In
