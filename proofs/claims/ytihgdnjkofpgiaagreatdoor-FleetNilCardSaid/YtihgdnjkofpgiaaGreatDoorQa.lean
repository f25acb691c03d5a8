/- Merged out of Q0, Q1, Q2 by merge.py. Own text. -/
import Derived.Test.YtihgdnjkofpgiaaGreatDoorHa
import Derived.Test.YtihgdnjkofpgiaaGreatDoorBa
set_option linter.unusedVariables false
set_option linter.unusedSimpArgs false
namespace Go.Proofs.YtihgdnjkofpgiaaGreatDoor
open Go.RowKit Go.Flow Go.Mem Go.Sep Go.In
def lsF(f:Ex→List Value)(A:Option Addr)(l:List Ex):List Chunk:=ros f A l::Ex.kidsL f l
def lsG(f:Ex→List Value)(g:St→List Value)(A:Option Addr)(l:List St):List Chunk:=ros g A l::St.kidsL f g l
section
variable{C:Cx}{ρ:Slots}{Γ:List Chunk}{K:Act→World→Prop}{A:Option Addr}{ty:TypeId}{q:Nat}
theorem To.stF{f:Ex→List Value}{g:St→List Value}(s:St)(k:To C ρ (all (s.kids f g)::Γ) K):To C ρ (all (lsF f s.A s.exprs)::all (lsG f g s.At s.thn)::all (lsG f g s.Ae s.els)::Γ) K:=by
 refine To.perm (Γ':=all (lsG f g s.At s.thn)::all (lsG f g s.Ae s.els)::all (lsF f s.A s.exprs)::Γ) ?_ (To.allApp (To.perm (List.Perm.swap _ _ _) (To.allApp ?_)))
 ·exact(List.Perm.trans (List.Perm.cons _ (List.Perm.swap _ _ _)) (List.Perm.swap _ _ _)).symm
 ·rw[St.kids_eq]at k;exact k
end
theorem Ex.args_kids{f:Ex→List Value}(e:Ex):ros f e.A e.args∈e.kids f:=by rw[Ex.kids_eq];exact List.mem_cons_self ..
theorem Ex.mem_kids{f:Ex→List Value}{e x:Ex}{j:Nat}(h:e.args[j]?=some x):∀c∈x.kids f,c∈e.kids f:=fun c hc=>by
 rw[Ex.kids_eq,Ex.kidsL_map]
 exact List.mem_cons_of_mem _ (List.mem_flatMap.2 ⟨x,mog h,hc⟩)
theorem ls_mem{f:Ex→List Value}{A:Option Addr}{l:List Ex}{x:Ex}{j:Nat}(h:l[j]?=some x):∀c∈x.kids f,c∈lsF f A l:=fun c hc=>by
 show c∈_::Ex.kidsL f l
 rw[Ex.kidsL_map]
 exact List.mem_cons_of_mem _ (List.mem_flatMap.2 ⟨x,mog h,hc⟩)
theorem lg_mem{f:Ex→List Value}{g:St→List Value}{A:Option Addr}{l:List St}{x:St}{j:Nat}(h:l[j]?=some x):∀c∈x.kids f g,c∈lsG f g A l:=fun c hc=>by
 show c∈_::St.kidsL f g l
 rw[St.kidsL_map]
 exact List.mem_cons_of_mem _ (List.mem_flatMap.2 ⟨x,mog h,hc⟩)
theorem St.exprs_kids{f:Ex→List Value}{g:St→List Value}(s:St):∀c∈lsF f s.A s.exprs,c∈s.kids f g:=fun c hc=>by rw[St.kids_eq];exact List.mem_append_left _ hc
theorem St.thn_kids{f:Ex→List Value}{g:St→List Value}(s:St):∀c∈lsG f g s.At s.thn,c∈s.kids f g:=fun c hc=>by rw[St.kids_eq];exact List.mem_append_right _ (List.mem_append_left _ hc)
theorem St.els_kids{f:Ex→List Value}{g:St→List Value}(s:St):∀c∈lsG f g s.Ae s.els,c∈s.kids f g:=fun c hc=>by rw[St.kids_eq];exact List.mem_append_right _ (List.mem_append_right _ hc)
theorem lsF_lax(f:Ex→List Value)(A:Option Addr)(l:List Ex):Lax (lsF f A l):=Lax.cons rfl (Ex.laxL f l)
theorem lsG_lax(f:Ex→List Value)(g:St→List Value)(A:Option Addr)(l:List St):Lax (lsG f g A l):=Lax.cons rfl (St.laxL f g l)
mutual
def PE.low:PE→Prop
 |⟨o,_,_,l⟩=>o≤23∧l.length≤2∧PE.lowL l
def PE.lowL:List PE→Prop
 |[]=>True
 |e::r=>PE.low e∧PE.lowL r
end
mutual
def PS.low:PS→Prop
 |⟨k,_,_,es,t,e⟩=>k≤10∧es.length≤4∧PE.lowL es∧(t.length≤12∧PS.lowL t)∧e.length≤12∧PS.lowL e
def PS.lowL:List PS→Prop
 |[]=>True
 |e::r=>PS.low e∧PS.lowL r
end
theorem PE.lowL_mem:∀{l:List PE},PE.lowL l→∀x∈l,x.low
 |[],_,x,h=>by cases h
 | e::r,h,x,hx=>by
   rcases List.mem_cons.1 hx with rfl|hx
   ·exact h.1
   ·exact PE.lowL_mem h.2 x hx
theorem PE.lowL_of:∀{l:List PE},(∀x∈l,x.low)→PE.lowL l
 |[],_=>trivial
 |e::r,h=>⟨h e (List.mem_cons_self ..),PE.lowL_of fun x hx=>h x (List.mem_cons_of_mem _ hx)⟩
theorem PS.lowL_mem:∀{l:List PS},PS.lowL l→∀x∈l,x.low
 |[],_,x,h=>by cases h
 | e::r,h,x,hx=>by
   rcases List.mem_cons.1 hx with rfl|hx
   ·exact h.1
   ·exact PS.lowL_mem h.2 x hx
theorem PS.lowL_of:∀{l:List PS},(∀x∈l,x.low)→PS.lowL l
 |[],_=>trivial
 |e::r,h=>⟨h e (List.mem_cons_self ..),PS.lowL_of fun x hx=>h x (List.mem_cons_of_mem _ hx)⟩
theorem Ex.low_mem{e x:Ex}(h:e.pure.low)(hx:x∈e.args):x.pure.low:=by
 rw[Ex.pure_eq]at h
 refine PE.lowL_mem h.2.2 x.pure ?_
 rw[Ex.pureL_map];exact List.mem_map.2 ⟨x,hx,rfl⟩
theorem Ex.low_op{e:Ex}(h:e.pure.low):e.op≤23∧e.args.length≤2:=by
 rw[Ex.pure_eq]at h
 refine⟨h.1,?_⟩
 have:=h.2.1
 rwa[Ex.pureL_map,List.length_map]at this
theorem Ex.lowL_at{l:List Ex}(h:PE.lowL (Ex.pL l)){x:Ex}(hx:x∈l):x.pure.low:=PE.lowL_mem h x.pure (by rw[Ex.pureL_map];exact List.mem_map.2 ⟨x,hx,rfl⟩)
theorem St.lowL_at{l:List St}(h:PS.lowL (St.pL l)){x:St}(hx:x∈l):x.pure.low:=PS.lowL_mem h x.pure (by rw[St.pm];exact List.mem_map.2 ⟨x,hx,rfl⟩)
theorem St.low_at{s:St}(h:s.pure.low):s.kind≤10∧(s.exprs.length≤4∧PE.lowL (Ex.pL s.exprs))∧(s.thn.length≤12∧PS.lowL (St.pL s.thn))∧s.els.length≤12∧PS.lowL (St.pL s.els):=by
 rw[St.pq]at h
 obtain⟨h1,h2,h3,⟨h4,h5⟩,h6,h7⟩:=h
 rw[Ex.pureL_map,List.length_map]at h2
 rw[St.pm,List.length_map]at h4 h6
 exact⟨h1,⟨h2,h3⟩,⟨h4,h5⟩,h6,h7⟩
section
variable{c:Ct}{np:Nat}
theorem IntE.low{d:Nat}{e:PE}(h:IntE c np d e):e.low:=by
 induction h with
 |num d n h=>exact⟨show 1≤23 by decide,Nat.zero_le _,trivial⟩
 |var d k h=>exact⟨show 5≤23 by decide,Nat.zero_le _,trivial⟩
 |par d k h=>exact⟨show 5≤23 by decide,Nat.zero_le _,trivial⟩
 |now d=>exact⟨show 4≤23 by decide,Nat.zero_le _,trivial⟩
 |get d e ht h ih=>exact⟨show 6≤23 by decide,show 1≤2 by decide,ih,trivial⟩
 |size d ht=>exact⟨show 8≤23 by decide,Nat.zero_le _,trivial⟩
 |neg d e h ih=>exact⟨show 9≤23 by decide,show 1≤2 by decide,ih,trivial⟩
 |bin d op a b ho ha hb iha ihb=>exact⟨show op≤23 by omega,Nat.le_refl 2,iha,ihb,trivial⟩
theorem TruE.low{d:Nat}{e:PE}(h:TruE c np d e):e.low:=by
 induction h with
 |tf d op h=>exact⟨show op≤23 by omega,Nat.zero_le _,trivial⟩
 |b0 d=>exact⟨show 5≤23 by decide,Nat.zero_le _,trivial⟩
 |flag d k h=>exact⟨show 5≤23 by decide,Nat.zero_le _,trivial⟩
 |has d e ht h=>exact⟨show 7≤23 by decide,show 1≤2 by decide,h.low,trivial⟩
 |not d e h ih=>exact⟨show 10≤23 by decide,show 1≤2 by decide,ih,trivial⟩
 |two d op a b ho ha hb iha ihb=>exact⟨show op≤23 by omega,Nat.le_refl 2,iha,ihb,trivial⟩
 |cmp d op a b ho ha hb=>exact⟨show op≤23 by omega,Nat.le_refl 2,ha.low,hb.low,trivial⟩
theorem cnt_le:∀l:List PS,l.length≤PS.cntL l
 |[]=>Nat.le_refl _
 | s::r=>by
   have:=cnt_le r
   show r.length+1≤PS.cnt s+PS.cntL r
   have h1:1≤PS.cnt s:=by cases s;show 1≤1+_+_;omega
   omega
theorem cnt_mem{s:PS}:∀{l:List PS},s∈l→PS.cnt s≤PS.cntL l
 | a::r,h=>by
   show PS.cnt s≤PS.cnt a+PS.cntL r
   rcases List.mem_cons.1 h with rfl|h
   ·omega
   ·have:=cnt_mem h;omega
theorem StE.low(ok:c.Ok){d:Nat}{s:PS}(h:StE c np d s):PS.cnt s≤12→s.low:=by
 have nl:PS.lowL []:=trivial
 have len {l:List PS} (h:PS.cntL l≤12):l.length≤12:=Nat.le_trans (cnt_le l) h
 have all {l:List PS} (h:PS.cntL l≤12) (ih:∀s∈l,PS.cnt s≤12→s.low):PS.lowL l:=PS.lowL_of fun x hx=>ih x hx (Nat.le_trans (cnt_mem hx) h)
 have par {to h n:Nat} {ar:List Nat} (ha:c.ars[to]?=some ar) (hh:ar[h]?=some n):n≤2:=(ok.each ar (mog ha)).2.2 n (mog hh)
 induction h with
 |setB d e h=>exact fun _=>⟨show 1≤10 by decide,show 1≤4 by decide,⟨h.low,trivial⟩,⟨Nat.zero_le _,nl⟩,Nat.zero_le _,nl⟩
 |setX d k e hk h=>exact fun _=>⟨show 1≤10 by decide,show 1≤4 by decide,⟨h.low,trivial⟩,⟨Nat.zero_le _,nl⟩,Nat.zero_le _,nl⟩
 |put d a b ht ha hb=>exact fun _=>⟨show 2≤10 by decide,show 2≤4 by decide,⟨ha.low,hb.low,trivial⟩,⟨Nat.zero_le _,nl⟩,Nat.zero_le _,nl⟩
 |del d a ht ha=>exact fun _=>⟨show 3≤10 by decide,show 1≤4 by decide,⟨ha.low,trivial⟩,⟨Nat.zero_le _,nl⟩,Nat.zero_le _,nl⟩
 | ife d e t l h ht hl iht ihl=>
   intro hc
   have hc:1+PS.cntL t+PS.cntL l≤12:=hc
   exact⟨show 4≤10 by decide,show 1≤4 by decide,⟨h.low,trivial⟩,⟨len (by omega),all (by omega) iht⟩,len (by omega),all (by omega) ihl⟩
 | whl d e t h ht iht=>
   intro hc
   have hc:1+PS.cntL t+PS.cntL []≤12:=hc
   exact⟨show 5≤10 by decide,show 1≤4 by decide,⟨h.low,trivial⟩,⟨len (by omega),all (by omega) iht⟩,Nat.zero_le _,nl⟩
 | send d to h ar l ha hh hl=>
   have:=par ha hh
   exact fun _=>⟨show 6≤10 by decide,show l.length≤4 by omega,PE.lowL_of fun x hx=>(hl x hx).low,⟨Nat.zero_le _,nl⟩,Nat.zero_le _,nl⟩
 | after d h ar e l ha hh he hl=>
   have:=par ha hh
   exact fun _=>⟨show 7≤10 by decide,show l.length+1≤4 by omega,⟨he.low,PE.lowL_of fun x hx=>(hl x hx).low⟩,⟨Nat.zero_le _,nl⟩,Nat.zero_le _,nl⟩
 | store d a b l ha hb hl ihl=>
   intro hc
   have hc:1+PS.cntL []+PS.cntL l≤12:=hc
   exact⟨show 8≤10 by decide,show 2≤4 by decide,⟨ha.low,hb.low,trivial⟩,⟨Nat.zero_le _,nl⟩,len (by omega),all (by omega) ihl⟩
 | fetch d k e l hk h hl ihl=>
   intro hc
   have hc:1+PS.cntL []+PS.cntL l≤12:=hc
   exact⟨show 9≤10 by decide,show 1≤4 by decide,⟨h.low,trivial⟩,⟨Nat.zero_le _,nl⟩,len (by omega),all (by omega) ihl⟩
 |stop d=>exact fun _=>⟨show 10≤10 by decide,Nat.zero_le _,trivial,⟨Nat.zero_le _,nl⟩,Nat.zero_le _,nl⟩
end
end Go.Proofs.YtihgdnjkofpgiaaGreatDoor
