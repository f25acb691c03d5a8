/- Merged out of B1, B2, B3, Aqt, B4, B5, B6, B7 by merge.py. Own text. -/
import Derived.Test.YtihgdnjkofpgiaaGreatDoorGb
import Derived.Test.YtihgdnjkofpgiaaGreatDoorAc
set_option linter.unusedVariables false
set_option linter.unusedSimpArgs false
namespace Go.Proofs.YtihgdnjkofpgiaaGreatDoor
open Go.RowKit Go.Flow Go.Mem Go.Sep Go.In
structure Mr where
 ints:Nat
 tables:Nat
 flags:Nat
 own:Nat
 Aa:Option Addr
 qa:Nat
 ars:List Ar
 np:Nat
def Mr.ct(m:Mr):Ct:=⟨m.ints,m.tables,m.flags,m.own,m.ars.map Ar.l⟩
def lsS(A:Option Addr)(l:List St):List Chunk:=ros encS A l::St.kidsL encE encS l
section
variable{C:Cx}{ρ:Slots}{Γ:List Chunk}{K:Act→World→Prop}{A:Option Addr}{ty:TypeId}{q:Nat}
end
end Go.Proofs.YtihgdnjkofpgiaaGreatDoor
namespace Go.Sep
open Go.RowKit Go.Flow Go.Mem
section
variable{P:Program}{T:Tel}{l:List Oper}{Q:Act→World→Prop}
theorem opIT_tie{m p i:Nat}{a:Act}{w:World}{K:Act→World→Prop}(h:OpIT P T (tie l m p).toArray i K a w):∃o,l[i]?=some o∧CallTo T i P l.toArray o a w fun v w'=>K (a.put o.dst v) w':=by
 obtain⟨o,h1,h2⟩:=h
 simp only[List.getElem?_toArray,tie_get,Option.map_eq_some_iff]at h1
 obtain⟨o',h3,h4⟩:=h1
 refine⟨o',h3,?_⟩
 have e1:o.dst=o'.dst:=by rw[←h4];split<;>rfl
 have e2:execOp a.eval o=execOp a.eval o':=by rw[←h4];split<;>rfl
 have e3:o.guard=o'.guard:=by rw[←h4];split<;>rfl
 have e4:Region.wanted o' (yielded l.toArray a.tmps)=Region.wanted o (yielded (tie l m p).toArray a.tmps):=by rw[yielded_tie];unfold Region.wanted;rw[e3]
 have key:∀K,OpTo P (tie l m p).toArray o a w K→OpTo P l.toArray o' a w K:=fun K hk=>by
  unfold OpTo at*
  rw[e4,←e2];exact hk
 rw[e1]at h2
 unfold CallTo at*
 split
 ·rename_i hT;rw[hT]at h2;exact key _ h2
 ·rename_i t hT;rw[hT]at h2;exact⟨key _ h2.1,h2.2⟩
theorem any_tiedT{m p:Nat}:∀(fuel:Nat) (listed:Array Bool) (a:Act) (w:World),listed.getD p false=true→AnyT P T (tie l m p).toArray Q fuel listed a w→AnyT P T l.toArray Q fuel listed a w
 | 0,listed,a,w,hp,h=>by
   refine⟨List.eq_nil_iff_forall_not_mem.2 fun i hi=>?_,h.2⟩
   have h1:=ready_tie (m:=m) (p:=p).2 ⟨hi,fun _=>hp⟩
   rw[h.1]at h1;cases h1
 | fuel+1,listed,a,w,hp,h=>by
   refine⟨fun hr=>h.1 (List.eq_nil_iff_forall_not_mem.2 fun i hi=>?_),fun i hi=>?_⟩
   · have h1:=(ready_tie.1 hi).1
     rw[hr]at h1;cases h1
   · obtain⟨o,h1,h2⟩:=opIT_tie (h.2 i (ready_tie.2 ⟨hi,fun _=>hp⟩))
     exact⟨o,by simpa using h1,h2.mono fun v w' hv=>any_tiedT fuel _ _ _ (listed_set hp) hv⟩
theorem CallTo.both{i:Nat}{ops:Array Oper}{o:Oper}{a:Act}{w:World}{K K':Value→World→Prop}(hp:NoCall o∨(T i).isSome=true)(h:CallTo T i P ops o a w K)(h':CallTo T i P ops o a w K'):CallTo T i P ops o a w fun v w'=>K v w'∧K' v w':=by
 unfold CallTo at*
 split
 · rename_i hT
   rw[hT]at h h'
   rcases hp with hp|hp
   ·exact OpTo.andN hp h h'
   ·rw[hT]at hp;cases hp
 · rename_i t hT
   rw[hT]at h h'
   exact⟨h.1,fun v w' hv=>⟨h.2 v w' hv,h'.2 v w' hv⟩⟩
theorem any_splitT{m p:Nat}(hne:m≠p)(hpl:∀i o,l[i]?=some o→(NoCall o∨(T i).isSome=true)∨i=m∨i=p∨∃e∈o.after,Region.binds .any e=true∧(e.on=m∨e.on=p)):∀(fuel:Nat) (listed:Array Bool) (a:Act) (w:World),AnyT P T (tie l m p).toArray Q fuel listed a w→AnyT P T (tie l p m).toArray Q fuel listed a w→listed.getD p false=false→listed.getD m false=false→AnyT P T l.toArray Q fuel listed a w
 | 0,listed,a,w,h1,h2,hp,hm=>by
   refine⟨List.eq_nil_iff_forall_not_mem.2 fun i hi=>?_,h1.2⟩
   by_cases e:i=m
   · have:=ready_tie (m:=p) (p:=m).2 ⟨hi,fun e2=>absurd (e.symm.trans e2) hne⟩
     rw[h2.1]at this;cases this
   · have:=ready_tie (m:=m) (p:=p).2 ⟨hi,fun e2=>absurd e2 e⟩
     rw[h1.1]at this;cases this
 | fuel + 1,listed,a,w,h1,h2,hp,hm=>by
   refine⟨fun hr=>h1.1 (List.eq_nil_iff_forall_not_mem.2 fun i hi=>?_),fun i hi=>?_⟩
   · have h1:=(ready_tie.1 hi).1
     rw[hr]at h1;cases h1
   · have hl:=(ready_iff.1 hi).1
     by_cases em:i=m
     · obtain⟨o,h3,h4⟩:=opIT_tie (h2.2 i (ready_tie.2 ⟨hi,fun e2=>absurd (em.symm.trans e2) hne⟩))
       exact⟨o,by simpa using h3,h4.mono fun v w' hv=>any_tiedT fuel _ _ _ (by rw[em]at hl⊢;exact listed_own hl) hv⟩
     · by_cases ep:i=p
       · obtain⟨o,h3,h4⟩:=opIT_tie (h1.2 i (ready_tie.2 ⟨hi,fun e2=>absurd e2 em⟩))
         exact⟨o,by simpa using h3,h4.mono fun v w' hv=>any_tiedT fuel _ _ _ (by rw[ep]at hl⊢;exact listed_own hl) hv⟩
       · obtain⟨o,h3,h4⟩:=opIT_tie (h1.2 i (ready_tie.2 ⟨hi,fun e2=>absurd e2 em⟩))
         obtain⟨o',h3',h4'⟩:=opIT_tie (h2.2 i (ready_tie.2 ⟨hi,fun e2=>absurd e2 ep⟩))
         rw[h3]at h3'
         obtain rfl:=Option.some.inj h3'
         have hun:∀k,i≠k→listed.getD k false=false→(listed.setIfInBounds i true).getD k false=false:=fun k hk hf=>by
          rw[Array.getD_eq_getD_getElem?]at*
          rw[Array.getElem?_setIfInBounds,if_neg hk];exact hf
         have hpo:NoCall o∨(T i).isSome=true:=by
          rcases hpl i o h3 with hq|hq|hq|⟨e,he,hb,hq⟩
          ·exact hq
          ·exact absurd hq em
          ·exact absurd hq ep
          · obtain⟨_,o2,h5,h6⟩:=ready_iff.1 hi
            rw[h3]at h5
            obtain rfl:=Option.some.inj h5
            have h7:=h6 e he hb
            rcases hq with hq|hq<;>rw[hq]at h7
            ·rw[hm]at h7;cases h7
            ·rw[hp]at h7;cases h7
         exact⟨o,by simpa using h3,(CallTo.both hpo h4 h4').mono fun v w' ⟨hv,hv'⟩=>any_splitT hne hpl fuel _ _ _ hv hv' (hun p ep hp) (hun m em hm)⟩
def plainGoT(T:Tel)(m p:Nat):Nat→List Oper→Bool
 |_,[]=>true
 |i,o::l=>(plainOp3 o||(T i).isSome||Nat.beq i m||Nat.beq i p||tiedB m p o)&&plainGoT T m p (i+1) l
theorem plainGoT_at{m p:Nat}:∀{l:List Oper} {k i:Nat} {o:Oper},plainGoT T m p k l=true→l[i]?=some o→(plainOp3 o=true∨(T (k+i)).isSome=true)∨k+i=m∨k+i=p∨∃e∈o.after,Region.binds .any e=true∧(e.on=m∨e.on=p)
 |[],_,_,_,_,h=>by simp at h
 | o ::l,k,i,o',h,hi=>by
   rw[plainGoT,Bool.and_eq_true]at h
   cases i with
   | zero=>
     obtain rfl:o=o':=by simpa using hi
     have h1:=h.1
     simp only[Bool.or_eq_true]at h1
     rcases h1 with(((h1|h1)|h1)|h1)|h1
     ·exact .inl (.inl h1)
     ·exact .inl (.inr h1)
     ·exact .inr (.inl (Nat.eq_of_beq_eq_true h1))
     ·exact .inr (.inr (.inl (Nat.eq_of_beq_eq_true h1)))
     · obtain⟨e,he,h2⟩:=List.any_eq_true.1 h1
       simp only[Bool.and_eq_true,Bool.or_eq_true]at h2
       exact .inr (.inr (.inr ⟨e,Array.mem_toList_iff.1 he,h2.1,h2.2.imp Nat.eq_of_beq_eq_true Nat.eq_of_beq_eq_true⟩))
   | succ i=>
     have:=plainGoT_at h.2 (i:=i) (o:=o') (by simpa using hi)
     rwa[show k+1+i=k+(i+1) by omega]at this
def AnyQT(P:Program)(T:Tel)(l:List Oper)(Q:Act→World→Prop)(a:Act)(w:World):Prop:=AnyT P T l.toArray Q l.length (Array.replicate l.length false) a w
end
section
variable{P:Program}{l:List Oper}{Q:Act→World→Prop}{C:Cx}{ρ:Slots}{Γ:List Chunk}
theorem To.regionT{id:Nat}{R:Exit→Act→World→Prop}(T:Tel)(hm:P.follows .mixedOrders=true)(h:To C ρ Γ (AnyQT P T l (R .normal))):To C ρ Γ ((Code.region id l.toArray true).wp P R):=fun a w ha hp=>by
 refine wp_region_any hm (AnyI.any (fun _ _ h=>h) _ _ _ _ ?_)
 have:=h a w.drew ha (hp.ext (Ext.drew_ w))
 have:=AnyT.anyI this
 simpa using this
theorem To.flowT{T:Tel}(Θ:List Chunk)(ms:List Meta)(hB:flowB l ms=true)(hT:telB T ms=true)(hΘ:∀w,oks Γ w→oks Θ w)(h:FlowS P T l Θ Q ms C ρ Γ []):To C ρ Γ (AnyQT P T l Q):=fun a w ha hp=>by
 have hS:=hΘ w hp.sat.each
 have hfl:=h a w [] ha hp trivial
 have hx:Ext w w:=Ext.rfl_ w
 show AnyT P T l.toArray Q l.length (Array.replicate l.length false) a w
 refine any_of_inv (S:=oks Θ) (ms:=ms) (a0:=a) hB (fun _ _=>oks_ext) hT _ _ _ _ ?_ ?_
 · have hno:∀j,¬exd (Array.replicate l.length false) j:=fun j=>by
     unfold exd
     simp only[Array.getD_eq_getD_getElem?,Array.getElem?_replicate]
     split<;>simp
   exact⟨[],ms,a,w,[],fun _=>undef,fun _=>w,fun _=>w,rfl,by simp,fun i o _ hx=>(hno i hx).elim,⟨rfl,rfl,fun _ _=>rfl,fun j _ _ _ _ hx=>(hno j hx).elim⟩,
    ⟨rfl,rfl,fun _ _=>rfl,fun j _ _ _ _ hx=>by obtain⟨m,hm,_⟩:=hx;simp at hm⟩,hfl,hx,hS,fun p hp=>by simp at hp,fun j hx=>(hno j hx).elim,fun i _ hx=>(hno i hx).elim,fun p hp=>by simp at hp,fun p _ hx=>(hno _ hx).elim⟩
 ·simp[List.countP_replicate]
theorem To.splitT{T:Tel}(m p:Nat)(hne:Nat.beq m p=false)(hpl:plainGoT T m p 0 l=true)(h1:To C ρ Γ (AnyQT P T (tie l m p) Q))(h2:To C ρ Γ (AnyQT P T (tie l p m) Q)):To C ρ Γ (AnyQT P T l Q):=fun a w ha hp=>by
 have g1:=h1 a w ha hp
 have g2:=h2 a w ha hp
 unfold AnyQT at*
 rw[tie_len]at g1 g2
 have hno:∀j,(Array.replicate l.length false).getD j false=false:=fun j=>by
  simp only[Array.getD_eq_getD_getElem?,Array.getElem?_replicate]
  split<;>rfl
 refine any_splitT (fun e=>by rw[e,Nat.beq_refl]at hne;cases hne) (fun i o ho=>?_) _ _ _ _ g1 g2 (hno p) (hno m)
 have:=plainGoT_at hpl ho
 rw[Nat.zero_add]at this
 exact this.imp (fun h=>h.imp noCall_of id) id
end
end Go.Sep
namespace Go.Proofs.YtihgdnjkofpgiaaGreatDoor
open Go.RowKit Go.Flow Go.Mem Go.Sep Go.In
theorem To.hd{C:Cx}{ρ:Slots}{Γ:List Chunk}{K:Act→World→Prop}(O:List Hd)(h:Hd)(k:To C ρ (all ((O++[h]).flatMap (Hd.kids eR))::Γ) K):To C ρ (ros encZ h.Ap h.ps::all (lsS h.Ab h.body)::all (O.flatMap (Hd.kids eR))::Γ) K:=by
 refine To.allCons ?_
 refine To.perm (List.Perm.swap _ _ _) ?_
 refine To.allApp ?_
 rw[List.flatMap_append]at k
 rw[show[h].flatMap (Hd.kids eR)=ros encZ h.Ap h.ps::lsS h.Ab h.body from List.append_nil _]at k
 exact k
theorem To.vs{C:Cx}{ρ:Slots}{Γ:List Chunk}{K:Act→World→Prop}(O:List Hd)(A:Option Addr)(q:Nat){ty:TypeId}(k:To C ρ (all (Vs.kids eR ⟨A,q,O⟩)::Γ) K):To C ρ (rows encH ty 3 A q O::all (O.flatMap (Hd.kids eR))::Γ) K:=To.layRow (To.allCons k)
end Go.Proofs.YtihgdnjkofpgiaaGreatDoor
