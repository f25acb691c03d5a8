/- Own text. -/
import Derived.Test.YtlihklladkagpaaGreatDoorHa
import Derived.Test.YtlihklladkagpaaGreatDoorBb
set_option maxHeartbeats 8000000
set_option maxRecDepth 100000
set_option linter.unusedVariables false
set_option linter.unusedSimpArgs false
namespace Go.Proofs.YtlihklladkagpaaGreatDoor
open Go.Proofs.Tryz
open Go.RowKit Go.Flow Go.Mem Go.Sep Go.In
def lsF(f:Ex→List Value)(A:OA)(l:List Ex):List Chunk:=ros f A l::Ex.kidsL f l
def lsG(f:Ex→List Value)(g:St→List Value)(A:OA)(l:List St):List Chunk:=ros g A l::St.kidsL f g l
theorem kidsF_push(f:Ex→List Value)(O:List Ex)(e:Ex):Ex.kidsL f (O++[e])=Ex.kidsL f O++e.kids f:=by
 rw[Ex.kidsL_map,Ex.kidsL_map,List.flatMap_append]
 show _++(e.kids f++[])=_
 rw[List.append_nil]
theorem kidsG_push(f:Ex→List Value)(g:St→List Value)(O:List St)(e:St):St.kidsL f g (O++[e])=St.kidsL f g O++e.kids f g:=by
 rw[St.kidsL_map,St.kidsL_map,List.flatMap_append]
 show _++(e.kids f g++[])=_
 rw[List.append_nil]
section
variable{C:Cx}{ρ:Slots}{Γ:List Chunk}{K:Act→World→Prop}{A:OA}{ty:TypeId}{q:Nat}
theorem JkidsF{f:Ex→List Value}(O:List Ex)(e:Ex)(k:To C ρ (all (Ex.kidsL f (O++[e]))::Γ) K):To C ρ (all (e.kids f)::all (Ex.kidsL f O)::Γ) K:=
 To.perm (List.Perm.swap _ _ _) (JallApp (by rw[←kidsF_push];exact k))
theorem To.kidsG{f:Ex→List Value}{g:St→List Value}(O:List St)(e:St)(k:To C ρ (all (St.kidsL f g (O++[e]))::Γ) K):To C ρ (all (e.kids f g)::all (St.kidsL f g O)::Γ) K:=
 To.perm (List.Perm.swap _ _ _) (JallApp (by rw[←kidsG_push];exact k))
theorem JlayF{f:Ex→List Value}{z:Nat}(l:List Ex)(k:To C ρ (all (lsF f A l)::Γ) K):To C ρ (rows f ty z A q l::all (Ex.kidsL f l)::Γ) K:=JlayRow (JallCons k)
theorem To.layG{f:Ex→List Value}{g:St→List Value}{z:Nat}(l:List St)(k:To C ρ (all (lsG f g A l)::Γ) K):To C ρ (rows g ty z A q l::all (St.kidsL f g l)::Γ) K:=JlayRow (JallCons k)
theorem JnilF(f:Ex→List Value)(k:To C ρ (all (Ex.kidsL f [])::Γ) K):To C ρ Γ K:=JallNil k
theorem To.nilG(f:Ex→List Value)(g:St→List Value)(k:To C ρ (all (St.kidsL f g [])::Γ) K):To C ρ Γ K:=JallNil k
theorem To.stF{f:Ex→List Value}{g:St→List Value}(s:St)(k:To C ρ (all (s.kids f g)::Γ) K):To C ρ (all (lsF f s.A s.exprs)::all (lsG f g s.At s.thn)::all (lsG f g s.Ae s.els)::Γ) K:=by
 refine To.perm (Γ':=all (lsG f g s.At s.thn)::all (lsG f g s.Ae s.els)::all (lsF f s.A s.exprs)::Γ) ?_ (JallApp (To.perm (List.Perm.swap _ _ _) (JallApp ?_)))
 ·exact(List.Perm.trans (List.Perm.cons _ (List.Perm.swap _ _ _)) (List.Perm.swap _ _ _)).symm
 ·rw[St.kids_eq]at k;exact k
end
theorem Ex.args_kids{f:Ex→List Value}(e:Ex):ros f e.A e.args∈e.kids f:=by rw[Ex.kids_eq];exact List.mem_cons_self ..
theorem Ex.mem_kids{f:Ex→List Value}{e x:Ex}{j:Nat}(h:e.args[j]?=some x):∀c∈x.kids f,c∈e.kids f:=fun c hc=>by
 rw[Ex.kids_eq,Ex.kidsL_map]
 exact List.mem_cons_of_mem _ (List.mem_flatMap.2 ⟨x,mog h,hc⟩)
theorem ls_mem{f:Ex→List Value}{A:OA}{l:List Ex}{x:Ex}{j:Nat}(h:l[j]?=some x):∀c∈x.kids f,c∈lsF f A l:=fun c hc=>by
 show c∈_::Ex.kidsL f l
 rw[Ex.kidsL_map]
 exact List.mem_cons_of_mem _ (List.mem_flatMap.2 ⟨x,mog h,hc⟩)
theorem lg_mem{f:Ex→List Value}{g:St→List Value}{A:OA}{l:List St}{x:St}{j:Nat}(h:l[j]?=some x):∀c∈x.kids f g,c∈lsG f g A l:=fun c hc=>by
 show c∈_::St.kidsL f g l
 rw[St.kidsL_map]
 exact List.mem_cons_of_mem _ (List.mem_flatMap.2 ⟨x,mog h,hc⟩)
theorem St.exprs_kids{f:Ex→List Value}{g:St→List Value}(s:St):∀c∈lsF f s.A s.exprs,c∈s.kids f g:=fun c hc=>by rw[St.kids_eq];exact List.mem_append_left _ hc
theorem St.thn_kids{f:Ex→List Value}{g:St→List Value}(s:St):∀c∈lsG f g s.At s.thn,c∈s.kids f g:=fun c hc=>by rw[St.kids_eq];exact List.mem_append_right _ (List.mem_append_left _ hc)
theorem St.els_kids{f:Ex→List Value}{g:St→List Value}(s:St):∀c∈lsG f g s.Ae s.els,c∈s.kids f g:=fun c hc=>by rw[St.kids_eq];exact List.mem_append_right _ (List.mem_append_right _ hc)
theorem lsF_lax(f:Ex→List Value)(A:OA)(l:List Ex):Lax (lsF f A l):=Lax.cons rfl (Ex.laxL f l)
theorem lsG_lax(f:Ex→List Value)(g:St→List Value)(A:OA)(l:List St):Lax (lsG f g A l):=Lax.cons rfl (St.laxL f g l)
mutual
def PE.low:PE→Prop
 |⟨o,_,_,l⟩=>o≤23∧l.length≤2∧PE.lowL l
def PE.lowL:List PE→Prop
 |[]=>True
 |e::r=>PE.low e∧PE.lowL r
end
mutual
def PS.low:PS→Prop
 |⟨k,_,_,es,t,e⟩=>k≤10∧es.length≤4∧PE.lowL es∧(t.length≤12∧PS.lowL t)∧e.length≤12∧PS.lowL e
def PS.lowL:List PS→Prop
 |[]=>True
 |e::r=>PS.low e∧PS.lowL r
end
theorem PE.lowL_mem:∀{l:List PE},PE.lowL l→∀x∈l,x.low
 |[],_,x,h=>by cases h
 | e::r,h,x,hx=>by
   rcases List.mem_cons.1 hx with rfl|hx
   ·exact h.1
   ·exact PE.lowL_mem h.2 x hx
theorem PE.lowL_of:∀{l:List PE},(∀x∈l,x.low)→PE.lowL l
 |[],_=>trivial
 |e::r,h=>⟨h e (List.mem_cons_self ..),PE.lowL_of fun x hx=>h x (List.mem_cons_of_mem _ hx)⟩
theorem PS.lowL_mem:∀{l:List PS},PS.lowL l→∀x∈l,x.low
 |[],_,x,h=>by cases h
 | e::r,h,x,hx=>by
   rcases List.mem_cons.1 hx with rfl|hx
   ·exact h.1
   ·exact PS.lowL_mem h.2 x hx
theorem PS.lowL_of:∀{l:List PS},(∀x∈l,x.low)→PS.lowL l
 |[],_=>trivial
 |e::r,h=>⟨h e (List.mem_cons_self ..),PS.lowL_of fun x hx=>h x (List.mem_cons_of_mem _ hx)⟩
theorem Ex.low_mem{e x:Ex}(h:e.pure.low)(hx:x∈e.args):x.pure.low:=by
 rw[Ex.pure_eq]at h
 refine PE.lowL_mem h.2.2 x.pure ?_
 rw[Ex.pureL_map];exact List.mem_map.2 ⟨x,hx,rfl⟩
theorem Ex.low_op{e:Ex}(h:e.pure.low):e.op≤23∧e.args.length≤2:=by
 rw[Ex.pure_eq]at h
 refine⟨h.1,?_⟩
 have:=h.2.1
 rwa[Ex.pureL_map,List.length_map]at this
theorem Ex.lowL_at{l:List Ex}(h:PE.lowL (Ex.pL l)){x:Ex}(hx:x∈l):x.pure.low:=PE.lowL_mem h x.pure (by rw[Ex.pureL_map];exact List.mem_map.2 ⟨x,hx,rfl⟩)
theorem St.lowL_at{l:List St}(h:PS.lowL (St.pL l)){x:St}(hx:x∈l):x.pure.low:=PS.lowL_mem h x.pure (by rw[St.pm];exact List.mem_map.2 ⟨x,hx,rfl⟩)
theorem St.low_at{s:St}(h:s.pure.low):s.kind≤10∧(s.exprs.length≤4∧PE.lowL (Ex.pL s.exprs))∧(s.thn.length≤12∧PS.lowL (St.pL s.thn))∧s.els.length≤12∧PS.lowL (St.pL s.els):=by
 rw[St.pq]at h
 obtain⟨h1,h2,h3,⟨h4,h5⟩,h6,h7⟩:=h
 rw[Ex.pureL_map,List.length_map]at h2
 rw[St.pm,List.length_map]at h4 h6
 exact⟨h1,⟨h2,h3⟩,⟨h4,h5⟩,h6,h7⟩
section
variable{c:Ct}{np:Nat}
theorem IntE.low{d:Nat}{e:PE}(h:IntE c np d e):e.low:=by
 induction h with
 |num d n h=>exact⟨show 1≤23 by decide,Nat.zero_le _,trivial⟩
 |var d k h=>exact⟨show 5≤23 by decide,Nat.zero_le _,trivial⟩
 |par d k h=>exact⟨show 5≤23 by decide,Nat.zero_le _,trivial⟩
 |now d=>exact⟨show 4≤23 by decide,Nat.zero_le _,trivial⟩
 |get d e ht h ih=>exact⟨show 6≤23 by decide,show 1≤2 by decide,ih,trivial⟩
 |size d ht=>exact⟨show 8≤23 by decide,Nat.zero_le _,trivial⟩
 |neg d e h ih=>exact⟨show 9≤23 by decide,show 1≤2 by decide,ih,trivial⟩
 |bin d op a b ho ha hb iha ihb=>exact⟨show op≤23 by omega,Nat.le_refl 2,iha,ihb,trivial⟩
theorem TruE.low{d:Nat}{e:PE}(h:TruE c np d e):e.low:=by
 induction h with
 |tf d op h=>exact⟨show op≤23 by omega,Nat.zero_le _,trivial⟩
 |b0 d=>exact⟨show 5≤23 by decide,Nat.zero_le _,trivial⟩
 |flag d k h=>exact⟨show 5≤23 by decide,Nat.zero_le _,trivial⟩
 |has d e ht h=>exact⟨show 7≤23 by decide,show 1≤2 by decide,h.low,trivial⟩
 |not d e h ih=>exact⟨show 10≤23 by decide,show 1≤2 by decide,ih,trivial⟩
 |two d op a b ho ha hb iha ihb=>exact⟨show op≤23 by omega,Nat.le_refl 2,iha,ihb,trivial⟩
 |cmp d op a b ho ha hb=>exact⟨show op≤23 by omega,Nat.le_refl 2,ha.low,hb.low,trivial⟩
theorem cnt_le:∀l:List PS,l.length≤PS.cntL l
 |[]=>Nat.le_refl _
 | s::r=>by
   have:=cnt_le r
   show r.length+1≤PS.cnt s+PS.cntL r
   have h1:1≤PS.cnt s:=by cases s;show 1≤1+_+_;omega
   omega
theorem cnt_mem{s:PS}:∀{l:List PS},s∈l→PS.cnt s≤PS.cntL l
 | a::r,h=>by
   show PS.cnt s≤PS.cnt a+PS.cntL r
   rcases List.mem_cons.1 h with rfl|h
   ·omega
   ·have:=cnt_mem h;omega
theorem StE.low(ok:c.Ok){d:Nat}{s:PS}(h:StE c np d s):PS.cnt s≤12→s.low:=by
 have nl:PS.lowL []:=trivial
 have len {l:List PS} (h:PS.cntL l≤12):l.length≤12:=Nat.le_trans (cnt_le l) h
 have all {l:List PS} (h:PS.cntL l≤12) (ih:∀s∈l,PS.cnt s≤12→s.low):PS.lowL l:=PS.lowL_of fun x hx=>ih x hx (Nat.le_trans (cnt_mem hx) h)
 have par {to h n:Nat} {ar:List Nat} (ha:c.ars[to]?=some ar) (hh:ar[h]?=some n):n≤2:=(ok.each ar (mog ha)).2.2 n (mog hh)
 induction h with
 |setB d e h=>exact fun _=>⟨show 1≤10 by decide,show 1≤4 by decide,⟨h.low,trivial⟩,⟨Nat.zero_le _,nl⟩,Nat.zero_le _,nl⟩
 |setX d k e hk h=>exact fun _=>⟨show 1≤10 by decide,show 1≤4 by decide,⟨h.low,trivial⟩,⟨Nat.zero_le _,nl⟩,Nat.zero_le _,nl⟩
 |put d a b ht ha hb=>exact fun _=>⟨show 2≤10 by decide,show 2≤4 by decide,⟨ha.low,hb.low,trivial⟩,⟨Nat.zero_le _,nl⟩,Nat.zero_le _,nl⟩
 |del d a ht ha=>exact fun _=>⟨show 3≤10 by decide,show 1≤4 by decide,⟨ha.low,trivial⟩,⟨Nat.zero_le _,nl⟩,Nat.zero_le _,nl⟩
 | ife d e t l h ht hl iht ihl=>
   intro hc
   have hc:1+PS.cntL t+PS.cntL l≤12:=hc
   exact⟨show 4≤10 by decide,show 1≤4 by decide,⟨h.low,trivial⟩,⟨len om,all om iht⟩,len om,all om ihl⟩
 | whl d e t h ht iht=>
   intro hc
   have hc:1+PS.cntL t+PS.cntL []≤12:=hc
   exact⟨show 5≤10 by decide,show 1≤4 by decide,⟨h.low,trivial⟩,⟨len om,all om iht⟩,Nat.zero_le _,nl⟩
 | send d to h ar l ha hh hl=>
   have:=par ha hh
   exact fun _=>⟨show 6≤10 by decide,show l.length≤4 by omega,PE.lowL_of fun x hx=>(hl x hx).low,⟨Nat.zero_le _,nl⟩,Nat.zero_le _,nl⟩
 | after d h ar e l ha hh he hl=>
   have:=par ha hh
   exact fun _=>⟨show 7≤10 by decide,show l.length+1≤4 by omega,⟨he.low,PE.lowL_of fun x hx=>(hl x hx).low⟩,⟨Nat.zero_le _,nl⟩,Nat.zero_le _,nl⟩
 | store d a b l ha hb hl ihl=>
   intro hc
   have hc:1+PS.cntL []+PS.cntL l≤12:=hc
   exact⟨show 8≤10 by decide,show 2≤4 by decide,⟨ha.low,hb.low,trivial⟩,⟨Nat.zero_le _,nl⟩,len om,all om ihl⟩
 | fetch d k e l hk h hl ihl=>
   intro hc
   have hc:1+PS.cntL []+PS.cntL l≤12:=hc
   exact⟨show 9≤10 by decide,show 1≤4 by decide,⟨h.low,trivial⟩,⟨Nat.zero_le _,nl⟩,len om,all om ihl⟩
 |stop d=>exact fun _=>⟨show 10≤10 by decide,Nat.zero_le _,trivial,⟨Nat.zero_le _,nl⟩,Nat.zero_le _,nl⟩
end
theorem qexpr_step(e:Ex)(hlow:e.pure.low)(ih:∀x∈e.args,x.pure.low→Dz 95 [.agg (encE x).toArray] [all (x.kids encE)] (fun v Γ'=>∃e':Ex,v= .agg (encX e').toArray∧Γ'=[all (e'.kids encX)]∧e'.pure=x.pure)):
    Dz 95 [.agg (encE e).toArray] [all (e.kids encE)] (fun v Γ'=>∃e':Ex,v= .agg (encX e').toArray∧Γ'=[all (e'.kids encX)]∧e'.pure=e.pure):=by
 obtain⟨hop,hal⟩:=Ex.low_op hlow
 refine Does.en func95 ntmps95 fun w0=>?_
 refine Js (To.g (Jbo fun b1=>?_))
 refine Jal fun b2=>?_
 refine Jz 6 ?_
 refine Jr (Rd.conv rfl rfl underlying3 underlying247 (IntWalk.u8_in _ om)) ?_
 refine Jz 4 ?_
 refine Jr (.bd [.int .u8 ((e.op:Nat):Int), .string e.name, .int .i64 e.n, .slice none 0 0]) ?_
 refine Jal fun b3=>?_
 refine Jz 5 ?_
 refine To.one 3 rfl (ros encE e.A e.args) rfl (Ex.args_kids e) (Jz 8 ?_)
 refine JnilRow (encX) 249 4 (JnilF encX (To.loP (fun s g mz ρ Γ=>∃(Ao:OA) (qo:Nat) (O:List Ex) (k:Nat),ρ=[s 2,s 3,s 15,s 16,(17,nv k)]∧Γ=[g 4,box b3 [.int .u8 ((e.op:Nat):Int), .string e.name, .int .i64 e.n,vs Ao O qo] 249,g 2,g 6,rows encX 249 4 Ao qo O,all (Ex.kidsL encX O)]∧mz=e.args.length-k∧(k≤e.args.length)∧(Ex.pL O=Ex.pL (e.args.take k))) ⟨⟨none,0,([]:List Ex),0,rfl,rfl,rfl,om,rfl⟩,sb⟩ ?_))
 rintro mz _ _ ⟨Ao,qo,O,k,rfl,rfl,rfl,hk,hO⟩
 have hOl:O.length≤2:=by
  have h:=congrArg List.length hO
  rw[Ex.pureL_map,List.length_map,Ex.pureL_map,List.length_map,List.length_take]at h
  omega
 refine Jz 6 ?_
 refine Jcp rfl ?_ ?_<;>intro c18
 obtain⟨x,hx⟩:=exg e.args k om
 refine Jz 8 ?_
 refine Jal fun b5=>?_
 refine Jz 3 ?_
 refine Jpart 4 rfl (x.kids encE) (Ex.lax encE x) (Ex.mem_kids hx) (JregionT (tel []) mixed.h (JsplitT 1 3 rfl (by kernel_rfl) ?_ ?_))
 refine To.fT [box b5 (encE x) 220] [0,2,503,101,204,5505,6,507] (ocs (oca 1 rfl) (ocn _)) ?_
 refine Jz 2 ?_
 refine Fw.cf [0] (ih x (mog hx) (Ex.low_mem hlow (mog hx))) ?_
 rintro _ _ ⟨e2,rfl,rfl,he2⟩
 refine⟨ocs (oca 1 rfl) (ocn _),?_⟩
 refine Jz 1 ?_
 refine Fw.sn (encX e2) fun b25=>?_
 refine Fw.ge rfl rfl rfl rfl (Ge.append1 encX_ok (i:=7) (j:=0) (el:=e2) rfl s244 rfl rfl rfl rfl rfl om om) ?_
 rintro _ _ ⟨A26,q26,rfl,rfl⟩
 refine⟨ocs (oca 2 rfl) (ocn _),?_⟩
 refine Jz 1 ?_
 refine Fw.up rfl rfl rfl (Up.store (i:=4) rfl rfl rfl c244 rfl rfl (bt1 rfl)) (ocs (oca 2 rfl) (ocn _)) ?_
 refine Jz 3 ?_
 refine Jup8 (Jup2 (JkidsF O e2 (Jz 5 ?_)))
 refine To.agP ⟨⟨A26,q26,(O++[e2]),k+1,rfl,rfl,rfl,om,(by rw[Ex.pureL_map,List.map_append,←Ex.pureL_map,hO,take_of_get hx,Ex.pureL_map,Ex.pureL_map,List.map_append];show _++[e2.pure]=_++[x.pure];rw[he2])⟩,sb⟩
 refine To.fT [box b5 (encE x) 220] [0,2,101,503,204,5505,6,507] (ocs (oca 1 rfl) (ocn _)) ?_
 refine Jz 3 ?_
 refine Fw.cf [0] (ih x (mog hx) (Ex.low_mem hlow (mog hx))) ?_
 rintro _ _ ⟨e2_2,rfl,rfl,he2_2⟩
 refine⟨ocs (oca 1 rfl) (ocn _),?_⟩
 refine Fw.sn (encX e2_2) fun b25_2=>?_
 refine Fw.ge rfl rfl rfl rfl (Ge.append1 encX_ok (i:=7) (j:=0) (el:=e2_2) rfl s244 rfl rfl rfl rfl rfl om om) ?_
 rintro _ _ ⟨A26_2,q26_2,rfl,rfl⟩
 refine⟨ocs (oca 2 rfl) (ocn _),?_⟩
 refine Jz 1 ?_
 refine Fw.up rfl rfl rfl (Up.store (i:=4) rfl rfl rfl c244 rfl rfl (bt1 rfl)) (ocs (oca 2 rfl) (ocn _)) ?_
 refine Jz 3 ?_
 refine Jup8 (Jup2 (JkidsF O e2_2 (Jz 5 ?_)))
 refine To.agP ⟨⟨A26_2,q26_2,(O++[e2_2]),k+1,rfl,rfl,rfl,om,(by rw[Ex.pureL_map,List.map_append,←Ex.pureL_map,hO,take_of_get hx,Ex.pureL_map,Ex.pureL_map,List.map_append];show _++[e2_2.pure]=_++[x.pure];rw[he2_2])⟩,sb⟩
 refine Jz 12 ?_
 refine Jup5 (Jup5 (JlayF O (To.ec [0] results95 ?_)))
 exact⟨(⟨e.op,e.name,e.n,Ao,qo,O⟩:Ex),rfl,rfl,by rw[Ex.pure_eq e];show(⟨e.op,e.name,e.n,Ex.pL O⟩:PE)=_;rw[hO,List.take_of_length_le om]⟩
theorem qexpr_fn:∀e:Ex,e.pure.low→Dz 95 [.agg (encE e).toArray] [all (e.kids encE)] (fun v Γ'=>∃e':Ex,v= .agg (encX e').toArray∧Γ'=[all (e'.kids encX)]∧e'.pure=e.pure)
 |e,h=>qexpr_step e h (fun x hx=>qexpr_fn x)
termination_by e=>SizeOf.sizeOf e
decreasing_by
 cases e with
 | mk op s n A q l=>
   have:=List.sizeOf_lt_of_mem (show x∈l from hx)
   simp only[Ex.mk.sizeOf_spec]
   omega
def QBodyR(l:List St):Value→List Chunk→Prop:=fun v Γ'=>∃(A':OA) (q':Nat) (l':List St),v=vs A' l' q'∧Γ'=[all (lsG encX encT A' l')]∧St.pL l'=St.pL l
theorem qbody_step(l:List St)(ih:∀x∈l,(∀(A:OA) (q:Nat),x.thn.length≤12→PS.lowL (St.pL x.thn)→Dz 56 [vs A x.thn q] [all (lsG encE encS A x.thn)] (QBodyR x.thn))∧(∀(A:OA) (q:Nat),x.els.length≤12→PS.lowL (St.pL x.els)→Dz 56 [vs A x.els q] [all (lsG encE encS A x.els)] (QBodyR x.els)))(A:OA)(q:Nat)(hl:l.length≤12)(hlow:PS.lowL (St.pL l)):
    Dz 56 [vs A l q] [all (lsG encE encS A l)] (QBodyR l):=by
 refine Does.en func56 ntmps56 fun w0=>?_
 refine Jz 12 ?_
 refine To.one 0 rfl (ros encS A l) rfl (List.mem_cons_self ..) (Jz 7 ?_)
 refine JnilRow (encT) 246 6 (To.nilG encX encT (To.loP (fun s g mz ρ Γ=>∃(Ao:OA) (qo:Nat) (O:List St) (k:Nat),ρ=[(3,vs Ao O qo),s 9,s 10,(11,nv k)]∧Γ=[g 2,g 3,rows encT 246 6 Ao qo O,all (St.kidsL encX encT O)]∧mz=l.length-k∧(k≤l.length)∧(St.pL O=St.pL (l.take k))) ⟨⟨none,0,([]:List St),0,rfl,rfl,rfl,om,rfl⟩,sb⟩ ?_))
 rintro mz _ _ ⟨Ao,qo,O,k,rfl,rfl,rfl,hk,hO⟩
 have hOl:O.length≤12:=by
  have h:=congrArg List.length hO
  rw[St.pm,List.length_map,St.pm,List.length_map,List.length_take]at h
  omega
 refine Jz 6 ?_
 refine Jcp rfl ?_ ?_<;>intro c12
 obtain⟨x,hx⟩:=exg l k om
 obtain⟨hxk,⟨hxe,hxl⟩,⟨hxt,hxtl⟩,hxn,hxnl⟩:=St.low_at (St.lowL_at hlow (mog hx))
 refine Jz 8 ?_
 refine Jal fun b5=>?_
 refine Jz 4 ?_
 refine Jpart 2 rfl (lsF encE x.A x.exprs) (lsF_lax _ _ _) (fun c hc=>lg_mem hx c (St.exprs_kids x c hc)) (Jpart 3 rfl (lsG encE encS x.Ae x.els) (lsG_lax _ _ _ _) (fun c hc=>lg_mem hx c (St.els_kids x c hc)) (Jpart 4 rfl (lsG encE encS x.At x.thn) (lsG_lax _ _ _ _) (fun c hc=>lg_mem hx c (St.thn_kids x c hc)) (JmeetC (T:=(Nat)×(OA)×(Nat)×(List St)×(OA)×(Nat)×(List St)) (fun t=>([(3,vs Ao O qo),(9,vs A l q),(10,nv l.length),(11,nv k),(5,pv b5),(6, .pointer (some ⟨(t.1),0,none⟩))],[ros encS A l,all (lsG encE encS A l),rows encT 246 6 Ao qo O,all (St.kidsL encX encT O),box b5 (encS x) 217,box (t.1) [.int .u8 ((x.kind:Nat):Int), .string x.name, .string x.hand, .slice none 0 0, .slice (t.2.1) (t.2.2.2.1).length (t.2.2.1), .slice (t.2.2.2.2.1) (t.2.2.2.2.2.2).length (t.2.2.2.2.2.1)] 246,all (lsG encX encT (t.2.1) (t.2.2.2.1)),all (lsG encX encT (t.2.2.2.2.1) (t.2.2.2.2.2.2)),all (lsF encE x.A x.exprs)])) (fun t=>(St.pL (t.2.2.2.1)=St.pL x.thn)∧(St.pL (t.2.2.2.2.2.2)=St.pL x.els)) ?_ ?_)))
 refine JregionT (telJ (tel []) (telC [(9,[all (lsG encE encS x.At x.thn)],(QBodyR x.thn)),(12,[all (lsG encE encS x.Ae x.els)],(QBodyR x.els))])) mixed.h (JsplitT 14 9 rfl (by kernel_rfl) ?_ ?_)
 refine JsplitT 14 12 rfl (by kernel_rfl) ?_ ?_
 refine To.fT [box b5 (encS x) 217] [0,1,2,3,4,5,6,7,8,10,11,509,512,13,214,15515] (ocs (oca 3 rfl) (ocn _)) ?_
 refine Jz 2 ?_
 refine Fw.f rfl (Rd.conv rfl rfl underlying3 underlying243 (IntWalk.u8_in _ om)) ?_
 refine Jz 8 ?_
 refine Fw.turnT [0] rfl rfl rfl rfl .fc rfl ((ih x (mog hx)).1 x.At x.qt hxt hxtl) rfl ?_
 rintro _ _ ⟨At2,qt2,t2,rfl,rfl,ht2⟩
 refine⟨ocs (oca 3 rfl) (ocn _),?_⟩
 refine Fw.turnT [1] rfl rfl rfl rfl .fc rfl ((ih x (mog hx)).2 x.Ae x.qe hxn hxnl) rfl ?_
 rintro _ _ ⟨Ae2,qe2,e2,rfl,rfl,he2⟩
 refine⟨ocs (oca 3 rfl) (ocn _),?_⟩
 refine Fw.f rfl (.bd [.int .u8 ((x.kind:Nat):Int), .string x.name, .string x.hand, .slice none 0 0,vs At2 t2 qt2,vs Ae2 e2 qe2]) ?_
 refine Fw.mk rfl rfl rfl rfl rfl (Mk.alloc rfl z246) ?_
 rintro _ _ ⟨b6,rfl,rfl⟩
 refine Fw.up rfl rfl rfl (Up.storeS (i:=0) rfl rfl rfl r246 rfl rfl rfl (bta rfl)) (ocs (oca 4 rfl) (ocn _)) ?_
 refine Jz 2 ?_
 refine To.hP (b6,At2,qt2,t2,Ae2,qe2,e2) ⟨ht2,he2⟩
 refine To.fT [box b5 (encS x) 217] [0,1,2,3,4,5,6,7,8,10,11,509,214,15512,13,515] (ocs (oca 3 rfl) (ocn _)) ?_
 refine Jz 2 ?_
 refine Fw.f rfl (Rd.conv rfl rfl underlying3 underlying243 (IntWalk.u8_in _ om)) ?_
 refine Jz 8 ?_
 refine Fw.turnT [0] rfl rfl rfl rfl .fc rfl ((ih x (mog hx)).1 x.At x.qt hxt hxtl) rfl ?_
 rintro _ _ ⟨At2,qt2,t2,rfl,rfl,ht2⟩
 refine⟨ocs (oca 3 rfl) (ocn _),?_⟩
 refine Fw.mk rfl rfl rfl rfl rfl (Mk.alloc rfl z246) ?_
 rintro _ _ ⟨b6,rfl,rfl⟩
 refine Fw.turnT [2] rfl rfl rfl rfl .fc rfl ((ih x (mog hx)).2 x.Ae x.qe hxn hxnl) rfl ?_
 rintro _ _ ⟨Ae2,qe2,e2,rfl,rfl,he2⟩
 refine⟨ocs (oca 4 rfl) (ocn _),?_⟩
 refine Fw.f rfl (.bd [.int .u8 ((x.kind:Nat):Int), .string x.name, .string x.hand, .slice none 0 0,vs At2 t2 qt2,vs Ae2 e2 qe2]) ?_
 refine Fw.up rfl rfl rfl (Up.storeS (i:=1) rfl rfl rfl r246 rfl rfl rfl (bta rfl)) (ocs (oca 4 rfl) (ocn _)) ?_
 refine Jz 2 ?_
 refine To.hP (b6,At2,qt2,t2,Ae2,qe2,e2) ⟨ht2,he2⟩
 refine To.fT [box b5 (encS x) 217] [0,1,2,3,4,5,6,7,8,10,11,214,15509,512,13,515] (ocs (oca 3 rfl) (ocn _)) ?_
 refine Jz 2 ?_
 refine Fw.f rfl (Rd.conv rfl rfl underlying3 underlying243 (IntWalk.u8_in _ om)) ?_
 refine Jz 8 ?_
 refine Fw.mk rfl rfl rfl rfl rfl (Mk.alloc rfl z246) ?_
 rintro _ _ ⟨b6,rfl,rfl⟩
 refine Fw.turnT [1] rfl rfl rfl rfl .fc rfl ((ih x (mog hx)).1 x.At x.qt hxt hxtl) rfl ?_
 rintro _ _ ⟨At2,qt2,t2,rfl,rfl,ht2⟩
 refine⟨ocs (oca 4 rfl) (ocn _),?_⟩
 refine Fw.turnT [2] rfl rfl rfl rfl .fc rfl ((ih x (mog hx)).2 x.Ae x.qe hxn hxnl) rfl ?_
 rintro _ _ ⟨Ae2,qe2,e2,rfl,rfl,he2⟩
 refine⟨ocs (oca 4 rfl) (ocn _),?_⟩
 refine Fw.f rfl (.bd [.int .u8 ((x.kind:Nat):Int), .string x.name, .string x.hand, .slice none 0 0,vs At2 t2 qt2,vs Ae2 e2 qe2]) ?_
 refine Fw.up rfl rfl rfl (Up.storeS (i:=2) rfl rfl rfl r246 rfl rfl rfl (bta rfl)) (ocs (oca 4 rfl) (ocn _)) ?_
 refine Jz 2 ?_
 refine To.hP (b6,At2,qt2,t2,Ae2,qe2,e2) ⟨ht2,he2⟩
 rintro⟨b6,At2,qt2,t2,Ae2,qe2,e2⟩ ⟨ht2,he2⟩
 replace ht2:St.pL t2=St.pL x.thn:=ht2
 replace he2:St.pL e2=St.pL x.els:=he2
 dsimp only
 refine Js (Js (To.one 8 rfl (ros encE x.A x.exprs) rfl (List.mem_cons_self ..) (Jz 8 ?_)))
 refine JnilRow (encX) 249 4 (JnilF encX (To.loP (fun s g mz ρ Γ=>∃(Ax:OA) (qx:Nat) (X:List Ex) (j:Nat),ρ=[s 3,s 9,s 10,s 11,s 6,s 30,s 31,(32,nv j)]∧Γ=[g 3,g 4,g 5,g 6,g 9,g 10,g 11,g 2,box b6 [.int .u8 ((x.kind:Nat):Int), .string x.name, .string x.hand,vs Ax X qx,vs At2 t2 qt2,vs Ae2 e2 qe2] 246,rows encX 249 4 Ax qx X,all (Ex.kidsL encX X)]∧mz=x.exprs.length-j∧(j≤x.exprs.length)∧(Ex.pL X=Ex.pL (x.exprs.take j))) ⟨⟨none,0,([]:List Ex),0,rfl,rfl,rfl,om,rfl⟩,sb⟩ ?_))
 rintro mz _ _ ⟨Ax,qx,X,j,rfl,rfl,rfl,hj,hX⟩
 have hXl:X.length≤4:=by
  have h:=congrArg List.length hX
  rw[Ex.pureL_map,List.length_map,Ex.pureL_map,List.length_map,List.length_take]at h
  omega
 refine Jz 6 ?_
 refine Jcp rfl ?_ ?_<;>intro c33
 obtain⟨y,hy⟩:=exg x.exprs j om
 refine Jz 8 ?_
 refine Jal fun b8=>?_
 refine Jz 3 ?_
 refine Jpart 7 rfl (y.kids encE) (Ex.lax encE y) (ls_mem hy) (JregionT (tel []) mixed.h (JsplitT 1 3 rfl (by kernel_rfl) ?_ ?_))
 refine To.fT [box b8 (encE y) 220] [0,2,503,101,204,5505,6,507] (ocs (oca 1 rfl) (ocn _)) ?_
 refine Jz 2 ?_
 refine Fw.cf [0] (qexpr_fn y (Ex.lowL_at hxl (mog hy))) ?_
 rintro _ _ ⟨y2,rfl,rfl,hy2⟩
 refine⟨ocs (oca 1 rfl) (ocn _),?_⟩
 refine Jz 1 ?_
 refine Fw.sn (encX y2) fun b40=>?_
 refine Fw.ge rfl rfl rfl rfl (Ge.append1 encX_ok (i:=12) (j:=0) (el:=y2) rfl s244 rfl rfl rfl rfl rfl om om) ?_
 rintro _ _ ⟨A41,q41,rfl,rfl⟩
 refine⟨ocs (oca 2 rfl) (ocn _),?_⟩
 refine Jz 1 ?_
 refine Fw.up rfl rfl rfl (Up.store (i:=11) rfl rfl rfl c244 rfl rfl (bt1 rfl)) (ocs (oca 2 rfl) (ocn _)) ?_
 refine Jz 3 ?_
 refine Jup13 (Jup2 (JkidsF X y2 (Jz 5 ?_)))
 refine To.agP ⟨⟨A41,q41,(X++[y2]),j+1,rfl,rfl,rfl,om,(by rw[Ex.pureL_map,List.map_append,←Ex.pureL_map,hX,take_of_get hy,Ex.pureL_map,Ex.pureL_map,List.map_append];show _++[y2.pure]=_++[y.pure];rw[hy2])⟩,sb⟩
 refine To.fT [box b8 (encE y) 220] [0,2,101,503,204,5505,6,507] (ocs (oca 1 rfl) (ocn _)) ?_
 refine Jz 3 ?_
 refine Fw.cf [0] (qexpr_fn y (Ex.lowL_at hxl (mog hy))) ?_
 rintro _ _ ⟨y2,rfl,rfl,hy2⟩
 refine⟨ocs (oca 1 rfl) (ocn _),?_⟩
 refine Fw.sn (encX y2) fun b40=>?_
 refine Fw.ge rfl rfl rfl rfl (Ge.append1 encX_ok (i:=12) (j:=0) (el:=y2) rfl s244 rfl rfl rfl rfl rfl om om) ?_
 rintro _ _ ⟨A41,q41,rfl,rfl⟩
 refine⟨ocs (oca 2 rfl) (ocn _),?_⟩
 refine Jz 1 ?_
 refine Fw.up rfl rfl rfl (Up.store (i:=11) rfl rfl rfl c244 rfl rfl (bt1 rfl)) (ocs (oca 2 rfl) (ocn _)) ?_
 refine Jz 3 ?_
 refine Jup13 (Jup2 (JkidsF X y2 (Jz 5 ?_)))
 refine To.agP ⟨⟨A41,q41,(X++[y2]),j+1,rfl,rfl,rfl,om,(by rw[Ex.pureL_map,List.map_append,←Ex.pureL_map,hX,take_of_get hy,Ex.pureL_map,Ex.pureL_map,List.map_append];show _++[y2.pure]=_++[y.pure];rw[hy2])⟩,sb⟩
 refine Jz 8 ?_
 refine To.sn [.int .u8 ((x.kind:Nat):Int), .string x.name, .string x.hand,vs Ax X qx,vs At2 t2 qt2,vs Ae2 e2 qe2] fun b46=>?_
 refine Jge rfl rfl rfl (Ge.append1 encT_ok (i:=3) (j:=0) (el:=(⟨x.kind,x.name,x.hand,Ax,qx,X,At2,qt2,t2,Ae2,qe2,e2⟩:St)) rfl s193 rfl rfl rfl rfl rfl om om) ?_
 rintro _ _ ⟨A47,q47,rfl,rfl⟩
 refine Jz 4 ?_
 refine Jup11 (Jup11 (JlayF X (Jup7 (Jup7 (Jup2 (To.stF (⟨x.kind,x.name,x.hand,Ax,qx,X,At2,qt2,t2,Ae2,qe2,e2⟩:St) (Jup5 (Jup1 (To.kidsG O (⟨x.kind,x.name,x.hand,Ax,qx,X,At2,qt2,t2,Ae2,qe2,e2⟩:St) (Jz 5 ?_))))))))))
 refine To.agP ⟨⟨A47,q47,(O++[(⟨x.kind,x.name,x.hand,Ax,qx,X,At2,qt2,t2,Ae2,qe2,e2⟩:St)]),k+1,rfl,rfl,rfl,om,(by rw[St.pm,List.map_append,←St.pm,hO,take_of_get hx,St.pm,St.pm,List.map_append];show _++[(⟨x.kind,x.name,x.hand,Ex.pL X,St.pL t2,St.pL e2⟩:PS)]=_++[x.pure];rw[hX,List.take_of_length_le (l:=x.exprs) om,ht2,he2,←St.pq x])⟩,sb⟩
 refine Jz 12 ?_
 refine Jup3 (Jup3 (To.layG O (Jdel2 (Jdel1 (Je1 results56 ?_)))))
 exact⟨Ao,qo,O,rfl,rfl,by rw[hO,List.take_of_length_le om]⟩
theorem qbody_fn:∀l:List St,∀(A:OA) (q:Nat),l.length≤12→PS.lowL (St.pL l)→Dz 56 [vs A l q] [all (lsG encE encS A l)] (QBodyR l)
 |l,A,q,h1,h2=>qbody_step l (fun x hx=>⟨qbody_fn x.thn,qbody_fn x.els⟩) A q h1 h2
termination_by l=>SizeOf.sizeOf l
decreasing_by
 all_goals
  have h:=List.sizeOf_lt_of_mem hx
  have:SizeOf.sizeOf x.thn<SizeOf.sizeOf x∧SizeOf.sizeOf x.els<SizeOf.sizeOf x:=by cases x;simp only[St.mk.sizeOf_spec];omega
  omega
end Go.Proofs.YtlihklladkagpaaGreatDoor
