/- Own text. -/
import Derived.Test.YtlihklladkagpaaGreatDoorQc
set_option maxHeartbeats 8000000
set_option maxRecDepth 100000
set_option linter.unusedVariables false
set_option linter.unusedSimpArgs false
namespace Go.Proofs.YtlihklladkagpaaGreatDoor
open Go.Proofs.Tryz
open Go.RowKit Go.Flow Go.Mem Go.Sep Go.In
def PE.okL(l:List PE):Prop:=PE.fineL l∧∀e∈l,e.dep≤8
mutual
def PS.sdep:PS→Nat
 |⟨_,_,_,_,t,e⟩=>max (PS.sdepL t) (PS.sdepL e)+1
def PS.sdepL:List PS→Nat
 |[]=>0
 |s::r=>max (PS.sdep s) (PS.sdepL r)
end
theorem PS.sdepL_app:∀(l:List PS) (x:PS),PS.sdepL (l++[x])=max (PS.sdepL l) x.sdep
 |[],x=>by show max x.sdep 0=max 0 x.sdep;omega
 |e::r,x=>by show max e.sdep (PS.sdepL (r++[x]))=max (max e.sdep (PS.sdepL r)) x.sdep;rw[PS.sdepL_app r x];omega
theorem PS.sdep_mem:∀{l:List PS} {x:PS},x∈l→x.sdep≤PS.sdepL l
 | e::r,x,h=>by
   show x.sdep≤max e.sdep (PS.sdepL r)
   rcases List.mem_cons.1 h with rfl|h
   ·omega
   ·have:=PS.sdep_mem h;omega
theorem PS.sdepL_le{n:Nat}:∀{l:List PS},(∀s∈l,s.sdep≤n)→PS.sdepL l≤n
 |[],_=>Nat.zero_le _
 | e::r,h=>by
   show max e.sdep (PS.sdepL r)≤n
   have h1:=h e (List.mem_cons_self ..)
   have h2:=PS.sdepL_le (l:=r) fun s hs=>h s (List.mem_cons_of_mem _ hs)
   omega
mutual
def PS.fine:PS→Prop
 |⟨k,s,h,es,t,e⟩=>((1≤k∧k≤10)∧((frm k).2.2.1≤es.length∧es.length≤(frm k).2.2.2.1)∧PE.okL es)∧(((frm k).1=true→isNm s)∧((frm k).1=false→s=nE))∧(((frm k).2.1=true→isNm h)∧((frm k).2.1=false→h=nE))∧(((frm k).2.2.2.2.1=false→t=[])∧((frm k).2.2.2.2.2=false→e=[]))∧PS.fineL t∧PS.fineL e
def PS.fineL:List PS→Prop
 |[]=>True
 |s::r=>PS.fine s∧PS.fineL r
end
theorem PS.fineL_mem:∀{l:List PS},PS.fineL l→∀x∈l,x.fine
 |[],_,x,h=>by cases h
 | e::r,h,x,hx=>by
   rcases List.mem_cons.1 hx with rfl|hx
   ·exact h.1
   ·exact PS.fineL_mem h.2 x hx
theorem PS.fineL_of:∀{l:List PS},(∀x∈l,x.fine)→PS.fineL l
 |[],_=>trivial
 |e::r,h=>⟨h e (List.mem_cons_self ..),PS.fineL_of fun x hx=>h x (List.mem_cons_of_mem _ hx)⟩
structure St.Fine(s:St):Prop where
 k1:1≤s.kind
 k2:s.kind≤10
 least:(frm s.kind).2.2.1≤s.exprs.length
 most:s.exprs.length≤(frm s.kind).2.2.2.1
 exprs:PE.fineL (Ex.pL s.exprs)
 deps:∀x∈s.exprs,x.pure.dep≤8
 nm1:(frm s.kind).1=true→isNm s.name
 nm2:(frm s.kind).1=false→s.name=nE
 hd1:(frm s.kind).2.1=true→isNm s.hand
 hd2:(frm s.kind).2.1=false→s.hand=nE
 thn:(frm s.kind).2.2.2.2.1=false→s.thn=[]
 els:(frm s.kind).2.2.2.2.2=false→s.els=[]
theorem pureL_nil{l:List St}(h:St.pL l=[]):l=[]:=by
 cases l with
 |nil=>rfl
 |cons a r=>cases h
theorem St.fine_at{s:St}(h:s.pure.fine):s.Fine∧PS.fineL (St.pL s.thn)∧PS.fineL (St.pL s.els):=by
 rw[St.pq]at h
 obtain⟨⟨⟨h1,h2⟩,⟨h3,h4⟩,h5,h6⟩,⟨h7,h8⟩,⟨h9,h10⟩,⟨h11,h12⟩,h13,h14⟩:=h
 rw[Ex.pureL_map,List.length_map]at h3 h4
 exact⟨⟨h1,h2,h3,h4,h5,fun x hx=>h6 x.pure (by rw[Ex.pureL_map];exact List.mem_map.2 ⟨x,hx,rfl⟩),h7,h8,h9,h10,fun h=>pureL_nil (h11 h),fun h=>pureL_nil (h12 h)⟩,h13,h14⟩
theorem St.fineL_at{l:List St}(h:PS.fineL (St.pL l)){x:St}(hx:x∈l):x.pure.fine:=PS.fineL_mem h x.pure (by rw[St.pm];exact List.mem_map.2 ⟨x,hx,rfl⟩)
section
variable{c:Ct}{np:Nat}
theorem ok1{e:PE}(h:e.fine∧e.dep≤8):PE.okL [e]:=⟨⟨h.1,trivial⟩,fun x hx=>by rw[List.mem_singleton.1 hx];exact h.2⟩
theorem ok2{a b:PE}(h:a.fine∧a.dep≤8)(h2:b.fine∧b.dep≤8):PE.okL [a,b]:=⟨⟨h.1,h2.1,trivial⟩,fun x hx=>by
 rcases List.mem_cons.1 hx with rfl|hx
 ·exact h.2
 ·rw[List.mem_singleton.1 hx];exact h2.2⟩
theorem okl{l:List PE}(h:∀e∈l,e.fine∧e.dep≤8):PE.okL l:=⟨PE.fineL_of fun x hx=>(h x hx).1,fun x hx=>(h x hx).2⟩
theorem StE.fine(ok:c.Ok)(hnp:np≤2){d:Nat}{s:PS}(h:StE c np d s):s.fine∧s.sdep≤d+1:=by
 have hi:=ok.ints
 have I {d:Nat} {e:PE} (h:IntE c np d e) (hd:d≤3):e.fine∧e.dep≤8:=⟨(h.fine ok hnp).1,by have:=(h.fine ok hnp).2;omega⟩
 have B {d:Nat} {e:PE} (h:TruE c np d e) (hd:d≤3):e.fine∧e.dep≤8:=⟨(h.fine ok hnp).1,by have:=(h.fine ok hnp).2;omega⟩
 have par {to h n:Nat} {ar:List Nat} (ha:c.ars[to]?=some ar) (hh:ar[h]?=some n):n≤2∧h<3∧to<3:=by
  have h1:=ok.each ar (mog ha)
  have h2:=(List.getElem?_eq_some_iff.1 hh).1
  have h3:=(List.getElem?_eq_some_iff.1 ha).1
  have h4:=ok.some
  exact⟨h1.2.2 n (mog hh),by omega,by omega⟩
 have nn (p:Prop):(false=true→p):=fun h=>by cases h
 have nt (p:Prop):(true=false→p):=fun h=>by cases h
 induction h with
 |setB d e h=>exact⟨⟨⟨by decide,⟨Nat.le_refl _,Nat.le_refl _⟩,ok1 (B h om)⟩,⟨fun _=>isNm_b0,nt _⟩,⟨nn _,fun _=>rfl⟩,⟨fun _=>rfl,fun _=>rfl⟩,trivial,trivial⟩,show 1≤d+1 by omega⟩
 |setX d k e hk h=>exact⟨⟨⟨by decide,⟨Nat.le_refl _,Nat.le_refl _⟩,ok1 (I h om)⟩,⟨fun _=>isNm_x om,nt _⟩,⟨nn _,fun _=>rfl⟩,⟨fun _=>rfl,fun _=>rfl⟩,trivial,trivial⟩,show 1≤d+1 by omega⟩
 |put d a b ht ha hb=>exact⟨⟨⟨by decide,⟨Nat.le_refl _,Nat.le_refl _⟩,ok2 (I ha om) (I hb om)⟩,⟨fun _=>isNm_t0,nt _⟩,⟨nn _,fun _=>rfl⟩,⟨fun _=>rfl,fun _=>rfl⟩,trivial,trivial⟩,show 1≤d+1 by omega⟩
 |del d a ht ha=>exact⟨⟨⟨by decide,⟨Nat.le_refl _,Nat.le_refl _⟩,ok1 (I ha om)⟩,⟨fun _=>isNm_t0,nt _⟩,⟨nn _,fun _=>rfl⟩,⟨fun _=>rfl,fun _=>rfl⟩,trivial,trivial⟩,show 1≤d+1 by omega⟩
 | ife d e t l h ht hl iht ihl=>
   refine⟨⟨⟨by decide,⟨Nat.le_refl _,Nat.le_refl _⟩,ok1 (B h om)⟩,⟨nn _,fun _=>rfl⟩,⟨nn _,fun _=>rfl⟩,⟨nt _,nt _⟩,PS.fineL_of fun x hx=>(iht x hx).1,PS.fineL_of fun x hx=>(ihl x hx).1⟩,?_⟩
   have h1:=PS.sdepL_le fun x hx=>(iht x hx).2
   have h2:=PS.sdepL_le fun x hx=>(ihl x hx).2
   show max (PS.sdepL t) (PS.sdepL l)+1≤_
   omega
 | whl d e t h ht iht=>
   refine⟨⟨⟨by decide,⟨Nat.le_refl _,Nat.le_refl _⟩,ok1 (B h om)⟩,⟨nn _,fun _=>rfl⟩,⟨nn _,fun _=>rfl⟩,⟨nt _,fun _=>rfl⟩,PS.fineL_of fun x hx=>(iht x hx).1,trivial⟩,?_⟩
   have h1:=PS.sdepL_le fun x hx=>(iht x hx).2
   show max (PS.sdepL t) 0+1≤_
   omega
 | send d to h ar l ha hh hl=>
   obtain⟨p1,p2,p3⟩:=par ha hh
   exact⟨⟨⟨by decide,⟨Nat.zero_le _,by show l.length≤4;omega⟩,okl fun x hx=>I (hl x hx) om⟩,⟨fun _=>isNm_c p3,nt _⟩,⟨fun _=>isNm_h p2,nt _⟩,⟨fun _=>rfl,fun _=>rfl⟩,trivial,trivial⟩,show 1≤d+1 by omega⟩
 | after d h ar e l ha hh he hl=>
   obtain⟨p1,p2,p3⟩:=par ha hh
   refine⟨⟨⟨by decide,⟨by show 1≤l.length+1;omega,by show l.length+1≤5;omega⟩,okl fun x hx=>?_⟩,⟨nn _,fun _=>rfl⟩,⟨fun _=>isNm_h p2,nt _⟩,⟨fun _=>rfl,fun _=>rfl⟩,trivial,trivial⟩,show 1≤d+1 by omega⟩
   rcases List.mem_cons.1 hx with rfl|hx
   ·exact I he om
   ·exact I (hl x hx) om
 | store d a b l ha hb hl ihl=>
   refine⟨⟨⟨by decide,⟨Nat.le_refl _,Nat.le_refl _⟩,ok2 (I ha om) (I hb om)⟩,⟨nn _,fun _=>rfl⟩,⟨nn _,fun _=>rfl⟩,⟨fun _=>rfl,nt _⟩,trivial,PS.fineL_of fun x hx=>(ihl x hx).1⟩,?_⟩
   have h1:=PS.sdepL_le fun x hx=>(ihl x hx).2
   show max 0 (PS.sdepL l)+1≤_
   omega
 | fetch d k e l hk h hl ihl=>
   refine⟨⟨⟨by decide,⟨Nat.le_refl _,Nat.le_refl _⟩,ok1 (I h om)⟩,⟨fun _=>isNm_x om,nt _⟩,⟨nn _,fun _=>rfl⟩,⟨fun _=>rfl,nt _⟩,trivial,PS.fineL_of fun x hx=>(ihl x hx).1⟩,?_⟩
   have h1:=PS.sdepL_le fun x hx=>(ihl x hx).2
   show max 0 (PS.sdepL l)+1≤_
   omega
 |stop d=>exact⟨⟨⟨by decide,⟨Nat.le_refl _,Nat.le_refl _⟩,trivial,fun x hx=>by cases hx⟩,⟨nn _,fun _=>rfl⟩,⟨nn _,fun _=>rfl⟩,⟨fun _=>rfl,fun _=>rfl⟩,trivial,trivial⟩,show 1≤d+1 by omega⟩
end
theorem qcnt_step(l:List St)(ih:∀x∈l,(∀(A:OA) (q:Nat),x.thn.length≤12→PS.lowL (St.pL x.thn)→PS.cntL (St.pL x.thn)≤100→Dz 169 [vs A x.thn q] [all (lsG encX encT A x.thn)] (fun v Γ'=>v=nv (PS.cntL (St.pL x.thn))∧Γ'=[]))∧(∀(A:OA) (q:Nat),x.els.length≤12→PS.lowL (St.pL x.els)→PS.cntL (St.pL x.els)≤100→Dz 169 [vs A x.els q] [all (lsG encX encT A x.els)] (fun v Γ'=>v=nv (PS.cntL (St.pL x.els))∧Γ'=[])))(A:OA)(q:Nat)(hl:l.length≤12)(hlow:PS.lowL (St.pL l))(hb:PS.cntL (St.pL l)≤100):
    Dz 169 [vs A l q] [all (lsG encX encT A l)] (fun v Γ'=>v=nv (PS.cntL (St.pL l))∧Γ'=[]):=by
 refine Does.en func169 ntmps169 fun w0=>?_
 refine Jz 14 ?_
 refine To.one 0 rfl (ros encT A l) rfl (List.mem_cons_self ..) (Jz 7 ?_)
 refine To.loG (fun s g mz ρ Γ=>∃(m:Nat) (k:Nat),ρ=[s 0,(3,nv m),s 8,(9,nv k)]∧Γ=[g 0,g 1]∧mz=l.length-k∧(k≤l.length)∧(m+k=l.length+PS.cntL (St.pL (l.take k)))) ⟨⟨l.length,0,rfl,rfl,rfl,om,rfl⟩,sb⟩ ?_
 rintro mz _ _ ⟨m,k,rfl,rfl,rfl,hk,hm⟩
 have hmb:PS.cntL (St.pL (l.take k))≤100:=by
  have h1:St.pL l=St.pL (l.take k)++St.pL (l.drop k):=by rw[St.pm,St.pm,St.pm,←List.map_append,List.take_append_drop]
  rw[h1,PS.cntL_app]at hb
  omega
 refine Jz 6 ?_
 refine Jcp rfl ?_ ?_<;>intro c10
 obtain⟨x,hx⟩:=exg l k om
 obtain⟨hxk,⟨hxe,hxl⟩,⟨hxt,hxtl⟩,hxn,hxnl⟩:=St.low_at (St.lowL_at hlow (mog hx))
 have hxm:x.pure∈St.pL l:=by rw[St.pm];exact List.mem_map.2 ⟨x,mog hx,rfl⟩
 have htk:St.pL (l.take (k+1))=St.pL (l.take k)++[x.pure]:=by rw[take_of_get hx,St.pm,List.map_append,←St.pm];rfl
 have hxc:PS.cnt x.pure=1+PS.cntL (St.pL x.thn)+PS.cntL (St.pL x.els):=by rw[St.pq x];rfl
 have hxc2:=cnt_mem hxm
 have hxa:PS.cntL (St.pL x.thn)≤100:=om
 have hxb:PS.cntL (St.pL x.els)≤100:=om
 have hcx:PS.cntL (St.pL (l.take (k+1)))=PS.cntL (St.pL (l.take k))+PS.cnt x.pure:=by rw[htk,PS.cntL_app];show _+(PS.cnt x.pure+0)=_;omega
 refine Jz 10 ?_
 refine Jpart 1 rfl (lsG encX encT x.Ae x.els) (lsG_lax _ _ _ _) (fun c hc=>lg_mem hx c (St.els_kids x c hc)) (Jpart 2 rfl (lsG encX encT x.At x.thn) (lsG_lax _ _ _ _) (fun c hc=>lg_mem hx c (St.thn_kids x c hc)) (Jflow [ros encT A l] [⟨0,[],0⟩,⟨1,[],0⟩,⟨2,[],0⟩,⟨7,[],0⟩,⟨8,[],0⟩,⟨3,[],1⟩,⟨4,[],0⟩,⟨5,[],0⟩,⟨6,[],4⟩,⟨9,[],1⟩,⟨10,[],0⟩,⟨11,[],0⟩,⟨12,[6],4⟩,⟨13,[6,12],0⟩,⟨14,[6,12],0⟩,⟨15,[6,12],0⟩] mixed.h (by kernel_rfl) (ocs (oca 2 rfl) (ocn _)) (Jz 8 ?_)))
 refine Fw.callM rfl rfl rfl rfl rfl .fc ((ih x (mog hx)).1 x.At x.qt hxt hxtl hxa) (by show owns (lsG encX encT x.At x.thn)++[]=[];rw[(lsG_lax encX encT x.At x.thn).owns];rfl) (ocs (oca 0 rfl) (ocn _)) ?_
 rintro _ _ ⟨rfl,rfl⟩
 refine⟨rfl,?_⟩
 refine Jz 3 ?_
 refine Fw.callM rfl rfl rfl rfl rfl .fc ((ih x (mog hx)).2 x.Ae x.qe hxn hxnl hxb) (by show owns (lsG encX encT x.Ae x.els)++[]=[];rw[(lsG_lax encX encT x.Ae x.els).owns];rfl) (ocs (oca 1 rfl) (ocn _)) ?_
 rintro _ _ ⟨rfl,rfl⟩
 refine⟨rfl,?_⟩
 refine Fw.f rfl (Rd.addN (a:=(PS.cntL (St.pL x.thn))) (b:=(PS.cntL (St.pL x.els))) rfl rfl rfl om) ?_
 refine Fw.f rfl (Rd.addN (a:=m) (b:=((PS.cntL (St.pL x.thn))+(PS.cntL (St.pL x.els)))) rfl rfl rfl om) ?_
 refine Jz 9 ?_
 refine To.agP ⟨⟨(m+(PS.cntL (St.pL x.thn)+PS.cntL (St.pL x.els))),k+1,rfl,rfl,rfl,om,(by rw[hcx,hxc];omega)⟩,sb⟩
 refine Jz 12 ?_
 refine Jdel1 (Jdel0 (Je1 results169 ?_))
 have h2:m=PS.cntL (St.pL l):=by rw[show k=l.length by omega,List.take_length]at hm;omega
 rw[h2];exact⟨rfl,rfl⟩
theorem qcnt_fn:∀l:List St,∀(A:OA) (q:Nat),l.length≤12→PS.lowL (St.pL l)→PS.cntL (St.pL l)≤100→Dz 169 [vs A l q] [all (lsG encX encT A l)] (fun v Γ'=>v=nv (PS.cntL (St.pL l))∧Γ'=[])
 |l,A,q,h1,h2,h3=>qcnt_step l (fun x hx=>⟨qcnt_fn x.thn,qcnt_fn x.els⟩) A q h1 h2 h3
termination_by l=>SizeOf.sizeOf l
decreasing_by
 all_goals
  have h:=List.sizeOf_lt_of_mem hx
  have:SizeOf.sizeOf x.thn<SizeOf.sizeOf x∧SizeOf.sizeOf x.els<SizeOf.sizeOf x:=by cases x;simp only[St.mk.sizeOf_spec];omega
  omega
theorem qsdep_step(l:List St)(ih:∀x∈l,(∀(A:OA) (q:Nat),x.thn.length≤12→PS.lowL (St.pL x.thn)→PS.sdepL (St.pL x.thn)≤100→Dz 170 [vs A x.thn q] [all (lsG encX encT A x.thn)] (fun v Γ'=>v=nv (PS.sdepL (St.pL x.thn))∧Γ'=[]))∧(∀(A:OA) (q:Nat),x.els.length≤12→PS.lowL (St.pL x.els)→PS.sdepL (St.pL x.els)≤100→Dz 170 [vs A x.els q] [all (lsG encX encT A x.els)] (fun v Γ'=>v=nv (PS.sdepL (St.pL x.els))∧Γ'=[])))(A:OA)(q:Nat)(hl:l.length≤12)(hlow:PS.lowL (St.pL l))(hb:PS.sdepL (St.pL l)≤100):
    Dz 170 [vs A l q] [all (lsG encX encT A l)] (fun v Γ'=>v=nv (PS.sdepL (St.pL l))∧Γ'=[]):=by
 refine Does.en func170 ntmps170 fun w0=>?_
 refine Jz 13 ?_
 refine Jcp rfl ?_ ?_<;>intro c7
 refine Jz 7 ?_
 refine Jdel0 (Je1 results170 ?_)
 have h0:l=[]:=List.eq_nil_of_length_eq_zero om
 subst h0
 exact⟨rfl,rfl⟩
 refine Jz 9 ?_
 refine To.one 0 rfl (ros encT A l) rfl (List.mem_cons_self ..) (Jz 7 ?_)
 refine To.loG (fun s g mz ρ Γ=>∃(m:Nat) (k:Nat),ρ=[s 0,(3,nv m),s 9,(10,nv k)]∧Γ=[g 0,g 1]∧mz=l.length-k∧(k≤l.length)∧(PS.sdepL (St.pL (l.take k))=if k=0 then 0 else m+1)∧(k=0→m=0)∧(m≤100)) ⟨⟨0,0,rfl,rfl,rfl,om,rfl,(fun _=>rfl),om⟩,sb⟩ ?_
 rintro mz _ _ ⟨m,k,rfl,rfl,rfl,hk,hm,hm0,hmb⟩
 refine Jz 6 ?_
 refine Jcp rfl ?_ ?_<;>intro c11
 obtain⟨x,hx⟩:=exg l k om
 obtain⟨hxk,⟨hxe,hxl⟩,⟨hxt,hxtl⟩,hxn,hxnl⟩:=St.low_at (St.lowL_at hlow (mog hx))
 have hxm:x.pure∈St.pL l:=by rw[St.pm];exact List.mem_map.2 ⟨x,mog hx,rfl⟩
 have htk:St.pL (l.take (k+1))=St.pL (l.take k)++[x.pure]:=by rw[take_of_get hx,St.pm,List.map_append,←St.pm];rfl
 have hxc:PS.sdep x.pure=max (PS.sdepL (St.pL x.thn)) (PS.sdepL (St.pL x.els))+1:=by rw[St.pq x];rfl
 have hxc2:=PS.sdep_mem hxm
 have hxa:PS.sdepL (St.pL x.thn)≤100:=om
 have hxb:PS.sdepL (St.pL x.els)≤100:=om
 have hcx:PS.sdepL (St.pL (l.take (k+1)))=max (PS.sdepL (St.pL (l.take k))) (PS.sdep x.pure):=by rw[htk,PS.sdepL_app]
 refine Jz 10 ?_
 refine Jpart 1 rfl (lsG encX encT x.Ae x.els) (lsG_lax _ _ _ _) (fun c hc=>lg_mem hx c (St.els_kids x c hc)) (Jpart 2 rfl (lsG encX encT x.At x.thn) (lsG_lax _ _ _ _) (fun c hc=>lg_mem hx c (St.thn_kids x c hc)) (Jflow [ros encT A l] [⟨0,[],0⟩,⟨1,[],0⟩,⟨2,[],0⟩,⟨7,[],0⟩,⟨8,[],0⟩,⟨3,[],1⟩,⟨4,[],0⟩,⟨5,[],0⟩,⟨6,[],4⟩,⟨9,[],1⟩,⟨10,[],0⟩,⟨11,[],0⟩,⟨12,[6],4⟩,⟨13,[6,12],0⟩,⟨14,[6,12],0⟩] mixed.h (by kernel_rfl) (ocs (oca 2 rfl) (ocn _)) (Jz 8 ?_)))
 refine Fw.callM rfl rfl rfl rfl rfl .fc ((ih x (mog hx)).1 x.At x.qt hxt hxtl hxa) (by show owns (lsG encX encT x.At x.thn)++[]=[];rw[(lsG_lax encX encT x.At x.thn).owns];rfl) (ocs (oca 0 rfl) (ocn _)) ?_
 rintro _ _ ⟨rfl,rfl⟩
 refine⟨rfl,?_⟩
 refine Jz 3 ?_
 refine Fw.callM rfl rfl rfl rfl rfl .fc ((ih x (mog hx)).2 x.Ae x.qe hxn hxnl hxb) (by show owns (lsG encX encT x.Ae x.els)++[]=[];rw[(lsG_lax encX encT x.Ae x.els).owns];rfl) (ocs (oca 1 rfl) (ocn _)) ?_
 rintro _ _ ⟨rfl,rfl⟩
 refine⟨rfl,?_⟩
 refine Fw.f rfl (Rd.as (v':=nv (max m (max (PS.sdepL (St.pL x.thn)) (PS.sdepL (St.pL x.els))))) (congrArg (Value.int .i64) om) (Rd.max3 rfl rfl rfl rfl)) ?_
 refine Jz 9 ?_
 refine To.agP ⟨⟨(max m (max (PS.sdepL (St.pL x.thn)) (PS.sdepL (St.pL x.els)))),k+1,rfl,rfl,rfl,om,(by rw[if_neg om,hcx,hm,hxc];split<;>omega),(fun h=>by omega),om⟩,sb⟩
 refine Jz 13 ?_
 refine Jdel1 (Jdel0 (Je1 results170 ?_))
 have h2:PS.sdepL (St.pL l)=m+1:=by rw[show k=l.length by omega,List.take_length,if_neg om]at hm;exact hm
 rw[h2];exact⟨rfl,rfl⟩
theorem qsdep_fn:∀l:List St,∀(A:OA) (q:Nat),l.length≤12→PS.lowL (St.pL l)→PS.sdepL (St.pL l)≤100→Dz 170 [vs A l q] [all (lsG encX encT A l)] (fun v Γ'=>v=nv (PS.sdepL (St.pL l))∧Γ'=[])
 |l,A,q,h1,h2,h3=>qsdep_step l (fun x hx=>⟨qsdep_fn x.thn,qsdep_fn x.els⟩) A q h1 h2 h3
termination_by l=>SizeOf.sizeOf l
decreasing_by
 all_goals
  have h:=List.sizeOf_lt_of_mem hx
  have:SizeOf.sizeOf x.thn<SizeOf.sizeOf x∧SizeOf.sizeOf x.els<SizeOf.sizeOf x:=by cases x;simp only[St.mk.sizeOf_spec];omega
  omega
theorem qsmall1_fn(P:OA)(s:St)(hf:s.Fine)(hle:s.exprs.length≤4)(hlow:PE.lowL (Ex.pL s.exprs)):
    Dz 171 [.pointer (some ⟨blk P,ofs P+0*6,none⟩)] [ros encT P [s],all (lsF encX s.A s.exprs),glc] (fun v Γ'=>v= .bool true∧Γ'=[]):=by
 refine Does.en func171 ntmps171 fun w0=>?_
 refine Jz 7 ?_
 refine To.one 1 rfl (ros encX s.A s.exprs) rfl (List.mem_cons_self ..) (Jz 4 ?_)
 refine Jr (Rd.ld (i:=1) rfl rfl c244 rfl (gvt (rsg encT_ok (show([s]:List St)[0]?=some s from rfl)) rfl)) ?_
 refine Jz 5 ?_
 refine To.loP (fun u g mz ρ Γ=>∃(k:Nat),ρ=[u 8,u 9,(10,nv k)]∧Γ=[g 0,g 2]∧mz=s.exprs.length-k∧(k≤s.exprs.length)) ⟨⟨0,rfl,rfl,rfl,om⟩,sb⟩ ?_
 rintro mz _ _ ⟨k,rfl,rfl,rfl,hk⟩
 refine Jz 6 ?_
 refine Jcp rfl ?_ ?_<;>intro c11
 obtain⟨x,hx⟩:=exg s.exprs k om
 have hxd:=hf.deps x (mog hx)
 refine Jz 8 ?_
 refine Jal fun b4=>?_
 refine Jz 4 ?_
 refine Jpart 2 rfl (x.kids encX) (Ex.lax encX x) (ls_mem hx) (Jz 2 ?_)
 refine Jqf (qdep_fn x (Ex.lowL_at hlow (mog hx)) (Nat.le_trans hxd (by decide))) (by show owns (x.kids encX)++[]=[];rw[(Ex.lax encX x).owns];rfl) (ocs (oca 0 rfl) (ocn _)) ?_
 rintro _ _ ⟨rfl,rfl⟩
 refine⟨rfl,?_⟩
 refine Jr (Rd.as (v':= .bool false) (congrArg Value.bool (decide_eq_false om)) (Rd.gtr rfl rfl rfl)) ?_
 refine Jz 11 ?_
 refine To.agP ⟨⟨k+1,rfl,rfl,rfl,om⟩,sb⟩
 refine Jz 11 ?_
 refine Jdel1 (Jdel0 (Je1 results171 ?_))
 exact⟨rfl,rfl⟩
theorem qnamedS_fn(P:OA)(s:St)(hf:s.Fine)(hle:s.exprs.length≤4)(hlow:PE.lowL (Ex.pL s.exprs)):
    Dz 136 [.pointer (some ⟨blk P,ofs P+0*6,none⟩)] [ros encT P [s],all (lsF encX s.A s.exprs),glc] (fun v Γ'=>v= .bool true∧Γ'=[]):=by
 refine Does.en func136 ntmps136 fun w0=>?_
 refine Jz 10 ?_
 refine Jr (Rd.ld (i:=0) rfl rfl c243 rfl (gvt (f:=0) (rsg encT_ok (show([s]:List St)[0]?=some s from rfl)) rfl)) ?_
 refine Jvf (form_fn hf.k1 hf.k2) rfl (oks_gl 2 rfl) ?_
 refine Jz 3 ?_
 refine Jal fun b3=>?_
 refine Jz 7 ?_
 refine To.mt [0] 34 (false) ?_ ?_
 refine Jz 2 ?_
 refine JgB ?_ ?_<;>intro g15
 refine Jz 3 ?_
 refine Jr (Rd.ld (i:=1) rfl rfl c9 rfl (gvt (rsg encT_ok (show([s]:List St)[0]?=some s from rfl)) rfl)) ?_
 refine Jvf (isname_fn (hf.nm1 (by simpa using g15))) rfl (oks_gl 3 rfl) ?_
 refine Jz 5 ?_
 refine JgB ?_ ?_<;>intro g26
 refine Jz 3 ?_
 refine Jr (Rd.ld (i:=1) rfl rfl c9 rfl (gvt (rsg encT_ok (show([s]:List St)[0]?=some s from rfl)) rfl)) ?_
 refine Jvf (isname_fn (hf.hd1 (by simpa using g26))) rfl (oks_gl 3 rfl) ?_
 refine Jz 5 ?_
 refine To.mh rfl rfl
 refine Jz 10 ?_
 refine To.mh rfl rfl
 refine Jz 10 ?_
 refine JgB ?_ ?_<;>intro g26
 refine Jz 3 ?_
 refine Jr (Rd.ld (i:=1) rfl rfl c9 rfl (gvt (rsg encT_ok (show([s]:List St)[0]?=some s from rfl)) rfl)) ?_
 refine Jvf (isname_fn (hf.hd1 (by simpa using g26))) rfl (oks_gl 3 rfl) ?_
 refine Jz 5 ?_
 refine To.mh rfl rfl
 refine Jz 10 ?_
 refine To.mh rfl rfl
 refine Jz 6 ?_
 refine Jqf (qwiN_fn P s hle hlow hf.exprs) (by show[]++(owns (lsF encX s.A s.exprs)++(owns gl++[]))=[];rw[(lsF_lax encX s.A s.exprs).owns];rfl) (ocs (oca 1 rfl) (ocs (oca 2 rfl) (ocs (oca 3 rfl) (ocn _)))) ?_
 rintro _ _ ⟨rfl,rfl⟩
 refine⟨rfl,?_⟩
 refine Jz 4 ?_
 refine Jdel3 (Jdel2 (Jdel1 (Jdel0 (Je1 results136 ?_))))
 exact⟨rfl,rfl⟩
theorem qformedS_fn(P:OA)(s:St)(hf:s.Fine)(hle:s.exprs.length≤4)(hlow:PE.lowL (Ex.pL s.exprs)):
    Dz 139 [.pointer (some ⟨blk P,ofs P+0*6,none⟩)] [ros encT P [s],all (lsF encX s.A s.exprs),glc] (fun v Γ'=>v= .bool true∧Γ'=[]):=by
 refine Does.en func139 ntmps139 fun w0=>?_
 refine Jz 10 ?_
 refine Jr (Rd.ld (i:=0) rfl rfl c243 rfl (gvt (f:=0) (rsg encT_ok (show([s]:List St)[0]?=some s from rfl)) rfl)) ?_
 refine Jvf (form_fn hf.k1 hf.k2) rfl (oks_gl 2 rfl) ?_
 refine Jz 3 ?_
 refine Jal fun b3=>?_
 refine Jz 10 ?_
 refine Jr (Rd.ld (i:=1) rfl rfl c244 rfl (gvt (rsg encT_ok (show([s]:List St)[0]?=some s from rfl)) rfl)) ?_
 refine Jz 19 ?_
 refine Jr (Rd.as (v':= .bool false) (congrArg Value.bool (decide_eq_false (by have:=hf.least;omega))) (Rd.lss rfl rfl rfl)) ?_
 refine Jz 8 ?_
 refine Jr (Rd.as (v':= .bool false) (congrArg Value.bool (decide_eq_false (by have:=hf.most;omega))) (Rd.gtr rfl rfl rfl)) ?_
 refine Jz 7 ?_
 refine To.mt [0,3] 30 (false) ?_ ?_
 refine Jz 3 ?_
 refine JgB ?_ ?_<;>intro g34
 refine Jz 3 ?_
 refine Jr (Rd.ld (i:=1) rfl rfl c9 rfl (gvt (rsg encT_ok (show([s]:List St)[0]?=some s from rfl)) rfl)) ?_
 refine Jr (Rd.as (v':= .bool false) (congrArg Value.bool (decide_eq_false (fun h=>h (hf.nm2 (by simpa using g34))))) (Rd.neqZ rfl rfl rfl)) ?_
 refine Jz 4 ?_
 refine To.mh rfl rfl
 refine Jz 9 ?_
 refine To.mh rfl rfl
 refine Jz 2 ?_
 refine To.mt [0,3] 30 (false) ?_ ?_
 refine Jz 3 ?_
 refine JgB ?_ ?_<;>intro g44
 refine Jz 3 ?_
 refine Jr (Rd.ld (i:=1) rfl rfl c9 rfl (gvt (rsg encT_ok (show([s]:List St)[0]?=some s from rfl)) rfl)) ?_
 refine Jr (Rd.as (v':= .bool false) (congrArg Value.bool (decide_eq_false (fun h=>h (hf.hd2 (by simpa using g44))))) (Rd.neqZ rfl rfl rfl)) ?_
 refine Jz 4 ?_
 refine To.mh rfl rfl
 refine Jz 9 ?_
 refine To.mh rfl rfl
 refine Jz 4 ?_
 refine To.mt [0,3] 51 (false) ?_ ?_
 refine Jz 3 ?_
 refine JgB ?_ ?_<;>intro g55
 refine Jz 3 ?_
 refine Jr (Rd.ld (i:=1) rfl rfl c193 rfl (gvt (rsg encT_ok (show([s]:List St)[0]?=some s from rfl)) rfl)) ?_
 refine Jz 1 ?_
 refine Jr (Rd.as (v':= .bool false) (congrArg Value.bool (decide_eq_false (by rw[hf.thn (by simpa using g55)];decide))) (Rd.gtr rfl rfl rfl)) ?_
 refine Jz 4 ?_
 refine To.mh rfl rfl
 refine Jz 10 ?_
 refine To.mh rfl rfl
 refine Jz 2 ?_
 refine To.mt [0,3] 51 (false) ?_ ?_
 refine Jz 3 ?_
 refine JgB ?_ ?_<;>intro g66
 refine Jz 3 ?_
 refine Jr (Rd.ld (i:=1) rfl rfl c193 rfl (gvt (rsg encT_ok (show([s]:List St)[0]?=some s from rfl)) rfl)) ?_
 refine Jz 1 ?_
 refine Jr (Rd.as (v':= .bool false) (congrArg Value.bool (decide_eq_false (by rw[hf.els (by simpa using g66)];decide))) (Rd.gtr rfl rfl rfl)) ?_
 refine Jz 4 ?_
 refine To.mh rfl rfl
 refine Jz 10 ?_
 refine To.mh rfl rfl
 refine Jz 7 ?_
 refine Jqf (qwiF_fn P s hle hlow hf.exprs) (by show[]++(owns (lsF encX s.A s.exprs)++(owns gl++[]))=[];rw[(lsF_lax encX s.A s.exprs).owns];rfl) (ocs (oca 1 rfl) (ocs (oca 2 rfl) (ocs (oca 3 rfl) (ocn _)))) ?_
 rintro _ _ ⟨rfl,rfl⟩
 refine⟨rfl,?_⟩
 refine Jz 4 ?_
 refine Jdel3 (Jdel2 (Jdel1 (Jdel0 (Je1 results139 ?_))))
 exact⟨rfl,rfl⟩
theorem qesS_step(l:List St)(ih:∀x∈l,(∀(A:OA) (q:Nat),x.thn.length≤12→PS.lowL (St.pL x.thn)→PS.fineL (St.pL x.thn)→Dz 135 [vs A x.thn q, .func (.func 171) #[] #[]] [all (lsG encX encT A x.thn),glc] (fun v Γ'=>v= .bool true∧Γ'=[]))∧(∀(A:OA) (q:Nat),x.els.length≤12→PS.lowL (St.pL x.els)→PS.fineL (St.pL x.els)→Dz 135 [vs A x.els q, .func (.func 171) #[] #[]] [all (lsG encX encT A x.els),glc] (fun v Γ'=>v= .bool true∧Γ'=[])))(A:OA)(q:Nat)(hl:l.length≤12)(hlow:PS.lowL (St.pL l))(hfin:PS.fineL (St.pL l)):
    Dz 135 [vs A l q, .func (.func 171) #[] #[]] [all (lsG encX encT A l),glc] (fun v Γ'=>v= .bool true∧Γ'=[]):=by
 refine Does.en func135 ntmps135 fun w0=>?_
 refine Jz 7 ?_
 refine To.one 0 rfl (ros encT A l) rfl (List.mem_cons_self ..) (Jz 7 ?_)
 refine To.loG (fun s g mz ρ Γ=>∃(k:Nat),ρ=[s 0,s 1,s 8,(9,nv k)]∧Γ=[g 0,g 1,glc]∧mz=l.length-k∧(k≤l.length)) ⟨⟨0,rfl,rfl,rfl,om⟩,sb⟩ ?_
 rintro mz _ _ ⟨k,rfl,rfl,rfl,hk⟩
 refine Jz 6 ?_
 refine Jcp rfl ?_ ?_<;>intro c10
 obtain⟨x,hx⟩:=exg l k om
 obtain⟨hxk,⟨hxe,hxl⟩,⟨hxt,hxtl⟩,hxn,hxnl⟩:=St.low_at (St.lowL_at hlow (mog hx))
 have hxf:=St.fine_at (St.fineL_at hfin (mog hx))
 refine Jz 19 ?_
 refine JelemR encT_ok (by decide) 0 rfl hx (Jpart 2 rfl (lsG encX encT x.Ae x.els) (lsG_lax _ _ _ _) (fun c hc=>lg_mem hx c (St.els_kids x c hc)) (Jpart 3 rfl (lsG encX encT x.At x.thn) (lsG_lax _ _ _ _) (fun c hc=>lg_mem hx c (St.thn_kids x c hc)) (Jpart 4 rfl (lsF encX x.A x.exprs) (lsF_lax _ _ _) (fun c hc=>lg_mem hx c (St.exprs_kids x c hc)) (Jz 3 ?_))))
 refine JcQ rfl rfl rfl (Ent.func (first:=[]) (captured:=[]) rfl rfl rfl (kc.h 171 rfl)) (qsmall1_fn (some ⟨blk A,ofs A+k*6,none⟩) x hxf.1 hxe hxl) (by show[]++(owns (lsF encX x.A x.exprs)++(owns gl++[]))=[];rw[(lsF_lax encX x.A x.exprs).owns];rfl) (ocs (oca 3 rfl) (ocs (oca 0 rfl) (ocs (oca 6 rfl) (ocn _)))) ?_
 rintro _ _ ⟨rfl,rfl⟩
 refine⟨rfl,?_⟩
 refine Jz 7 ?_
 refine Jqf ((ih x (mog hx)).1 x.At x.qt hxt hxtl hxf.2.1) (by show owns (lsG encX encT x.At x.thn)++(owns gl++[])=[];rw[(lsG_lax encX encT x.At x.thn).owns];rfl) (ocs (oca 1 rfl) (ocs (oca 6 rfl) (ocn _))) ?_
 rintro _ _ ⟨rfl,rfl⟩
 refine⟨rfl,?_⟩
 refine Jz 8 ?_
 refine Jqf ((ih x (mog hx)).2 x.Ae x.qe hxn hxnl hxf.2.2) (by show owns (lsG encX encT x.Ae x.els)++(owns gl++[])=[];rw[(lsG_lax encX encT x.Ae x.els).owns];rfl) (ocs (oca 2 rfl) (ocs (oca 6 rfl) (ocn _))) ?_
 rintro _ _ ⟨rfl,rfl⟩
 refine⟨rfl,?_⟩
 refine Jz 13 ?_
 refine To.agP ⟨⟨k+1,rfl,rfl,rfl,om⟩,sb⟩
 refine Jz 11 ?_
 refine Jdel2 (Jdel1 (Jdel0 (Je1 results135 ?_)))
 exact⟨rfl,rfl⟩
theorem qesS_fn:∀l:List St,∀(A:OA) (q:Nat),l.length≤12→PS.lowL (St.pL l)→PS.fineL (St.pL l)→Dz 135 [vs A l q, .func (.func 171) #[] #[]] [all (lsG encX encT A l),glc] (fun v Γ'=>v= .bool true∧Γ'=[])
 |l,A,q,h1,h2,h3=>qesS_step l (fun x hx=>⟨qesS_fn x.thn,qesS_fn x.els⟩) A q h1 h2 h3
termination_by l=>SizeOf.sizeOf l
decreasing_by
 all_goals
  have h:=List.sizeOf_lt_of_mem hx
  have:SizeOf.sizeOf x.thn<SizeOf.sizeOf x∧SizeOf.sizeOf x.els<SizeOf.sizeOf x:=by cases x;simp only[St.mk.sizeOf_spec];omega
  omega
theorem qesN_step(l:List St)(ih:∀x∈l,(∀(A:OA) (q:Nat),x.thn.length≤12→PS.lowL (St.pL x.thn)→PS.fineL (St.pL x.thn)→Dz 135 [vs A x.thn q, .func (.func 136) #[] #[]] [all (lsG encX encT A x.thn),glc] (fun v Γ'=>v= .bool true∧Γ'=[]))∧(∀(A:OA) (q:Nat),x.els.length≤12→PS.lowL (St.pL x.els)→PS.fineL (St.pL x.els)→Dz 135 [vs A x.els q, .func (.func 136) #[] #[]] [all (lsG encX encT A x.els),glc] (fun v Γ'=>v= .bool true∧Γ'=[])))(A:OA)(q:Nat)(hl:l.length≤12)(hlow:PS.lowL (St.pL l))(hfin:PS.fineL (St.pL l)):
    Dz 135 [vs A l q, .func (.func 136) #[] #[]] [all (lsG encX encT A l),glc] (fun v Γ'=>v= .bool true∧Γ'=[]):=by
 refine Does.en func135 ntmps135 fun w0=>?_
 refine Jz 7 ?_
 refine To.one 0 rfl (ros encT A l) rfl (List.mem_cons_self ..) (Jz 7 ?_)
 refine To.loG (fun s g mz ρ Γ=>∃(k:Nat),ρ=[s 0,s 1,s 8,(9,nv k)]∧Γ=[g 0,g 1,glc]∧mz=l.length-k∧(k≤l.length)) ⟨⟨0,rfl,rfl,rfl,om⟩,sb⟩ ?_
 rintro mz _ _ ⟨k,rfl,rfl,rfl,hk⟩
 refine Jz 6 ?_
 refine Jcp rfl ?_ ?_<;>intro c10
 obtain⟨x,hx⟩:=exg l k om
 obtain⟨hxk,⟨hxe,hxl⟩,⟨hxt,hxtl⟩,hxn,hxnl⟩:=St.low_at (St.lowL_at hlow (mog hx))
 have hxf:=St.fine_at (St.fineL_at hfin (mog hx))
 refine Jz 19 ?_
 refine JelemR encT_ok (by decide) 0 rfl hx (Jpart 2 rfl (lsG encX encT x.Ae x.els) (lsG_lax _ _ _ _) (fun c hc=>lg_mem hx c (St.els_kids x c hc)) (Jpart 3 rfl (lsG encX encT x.At x.thn) (lsG_lax _ _ _ _) (fun c hc=>lg_mem hx c (St.thn_kids x c hc)) (Jpart 4 rfl (lsF encX x.A x.exprs) (lsF_lax _ _ _) (fun c hc=>lg_mem hx c (St.exprs_kids x c hc)) (Jz 3 ?_))))
 refine JcQ rfl rfl rfl (Ent.func (first:=[]) (captured:=[]) rfl rfl rfl (kc.h 136 rfl)) (qnamedS_fn (some ⟨blk A,ofs A+k*6,none⟩) x hxf.1 hxe hxl) (by show[]++(owns (lsF encX x.A x.exprs)++(owns gl++[]))=[];rw[(lsF_lax encX x.A x.exprs).owns];rfl) (ocs (oca 3 rfl) (ocs (oca 0 rfl) (ocs (oca 6 rfl) (ocn _)))) ?_
 rintro _ _ ⟨rfl,rfl⟩
 refine⟨rfl,?_⟩
 refine Jz 7 ?_
 refine Jqf ((ih x (mog hx)).1 x.At x.qt hxt hxtl hxf.2.1) (by show owns (lsG encX encT x.At x.thn)++(owns gl++[])=[];rw[(lsG_lax encX encT x.At x.thn).owns];rfl) (ocs (oca 1 rfl) (ocs (oca 6 rfl) (ocn _))) ?_
 rintro _ _ ⟨rfl,rfl⟩
 refine⟨rfl,?_⟩
 refine Jz 8 ?_
 refine Jqf ((ih x (mog hx)).2 x.Ae x.qe hxn hxnl hxf.2.2) (by show owns (lsG encX encT x.Ae x.els)++(owns gl++[])=[];rw[(lsG_lax encX encT x.Ae x.els).owns];rfl) (ocs (oca 2 rfl) (ocs (oca 6 rfl) (ocn _))) ?_
 rintro _ _ ⟨rfl,rfl⟩
 refine⟨rfl,?_⟩
 refine Jz 13 ?_
 refine To.agP ⟨⟨k+1,rfl,rfl,rfl,om⟩,sb⟩
 refine Jz 11 ?_
 refine Jdel2 (Jdel1 (Jdel0 (Je1 results135 ?_)))
 exact⟨rfl,rfl⟩
theorem qesN_fn:∀l:List St,∀(A:OA) (q:Nat),l.length≤12→PS.lowL (St.pL l)→PS.fineL (St.pL l)→Dz 135 [vs A l q, .func (.func 136) #[] #[]] [all (lsG encX encT A l),glc] (fun v Γ'=>v= .bool true∧Γ'=[])
 |l,A,q,h1,h2,h3=>qesN_step l (fun x hx=>⟨qesN_fn x.thn,qesN_fn x.els⟩) A q h1 h2 h3
termination_by l=>SizeOf.sizeOf l
decreasing_by
 all_goals
  have h:=List.sizeOf_lt_of_mem hx
  have:SizeOf.sizeOf x.thn<SizeOf.sizeOf x∧SizeOf.sizeOf x.els<SizeOf.sizeOf x:=by cases x;simp only[St.mk.sizeOf_spec];omega
  omega
theorem qesF_step(l:List St)(ih:∀x∈l,(∀(A:OA) (q:Nat),x.thn.length≤12→PS.lowL (St.pL x.thn)→PS.fineL (St.pL x.thn)→Dz 135 [vs A x.thn q, .func (.func 139) #[] #[]] [all (lsG encX encT A x.thn),glc] (fun v Γ'=>v= .bool true∧Γ'=[]))∧(∀(A:OA) (q:Nat),x.els.length≤12→PS.lowL (St.pL x.els)→PS.fineL (St.pL x.els)→Dz 135 [vs A x.els q, .func (.func 139) #[] #[]] [all (lsG encX encT A x.els),glc] (fun v Γ'=>v= .bool true∧Γ'=[])))(A:OA)(q:Nat)(hl:l.length≤12)(hlow:PS.lowL (St.pL l))(hfin:PS.fineL (St.pL l)):
    Dz 135 [vs A l q, .func (.func 139) #[] #[]] [all (lsG encX encT A l),glc] (fun v Γ'=>v= .bool true∧Γ'=[]):=by
 refine Does.en func135 ntmps135 fun w0=>?_
 refine Jz 7 ?_
 refine To.one 0 rfl (ros encT A l) rfl (List.mem_cons_self ..) (Jz 7 ?_)
 refine To.loG (fun s g mz ρ Γ=>∃(k:Nat),ρ=[s 0,s 1,s 8,(9,nv k)]∧Γ=[g 0,g 1,glc]∧mz=l.length-k∧(k≤l.length)) ⟨⟨0,rfl,rfl,rfl,om⟩,sb⟩ ?_
 rintro mz _ _ ⟨k,rfl,rfl,rfl,hk⟩
 refine Jz 6 ?_
 refine Jcp rfl ?_ ?_<;>intro c10
 obtain⟨x,hx⟩:=exg l k om
 obtain⟨hxk,⟨hxe,hxl⟩,⟨hxt,hxtl⟩,hxn,hxnl⟩:=St.low_at (St.lowL_at hlow (mog hx))
 have hxf:=St.fine_at (St.fineL_at hfin (mog hx))
 refine Jz 19 ?_
 refine JelemR encT_ok (by decide) 0 rfl hx (Jpart 2 rfl (lsG encX encT x.Ae x.els) (lsG_lax _ _ _ _) (fun c hc=>lg_mem hx c (St.els_kids x c hc)) (Jpart 3 rfl (lsG encX encT x.At x.thn) (lsG_lax _ _ _ _) (fun c hc=>lg_mem hx c (St.thn_kids x c hc)) (Jpart 4 rfl (lsF encX x.A x.exprs) (lsF_lax _ _ _) (fun c hc=>lg_mem hx c (St.exprs_kids x c hc)) (Jz 3 ?_))))
 refine JcQ rfl rfl rfl (Ent.func (first:=[]) (captured:=[]) rfl rfl rfl (kc.h 139 rfl)) (qformedS_fn (some ⟨blk A,ofs A+k*6,none⟩) x hxf.1 hxe hxl) (by show[]++(owns (lsF encX x.A x.exprs)++(owns gl++[]))=[];rw[(lsF_lax encX x.A x.exprs).owns];rfl) (ocs (oca 3 rfl) (ocs (oca 0 rfl) (ocs (oca 6 rfl) (ocn _)))) ?_
 rintro _ _ ⟨rfl,rfl⟩
 refine⟨rfl,?_⟩
 refine Jz 7 ?_
 refine Jqf ((ih x (mog hx)).1 x.At x.qt hxt hxtl hxf.2.1) (by show owns (lsG encX encT x.At x.thn)++(owns gl++[])=[];rw[(lsG_lax encX encT x.At x.thn).owns];rfl) (ocs (oca 1 rfl) (ocs (oca 6 rfl) (ocn _))) ?_
 rintro _ _ ⟨rfl,rfl⟩
 refine⟨rfl,?_⟩
 refine Jz 8 ?_
 refine Jqf ((ih x (mog hx)).2 x.Ae x.qe hxn hxnl hxf.2.2) (by show owns (lsG encX encT x.Ae x.els)++(owns gl++[])=[];rw[(lsG_lax encX encT x.Ae x.els).owns];rfl) (ocs (oca 2 rfl) (ocs (oca 6 rfl) (ocn _))) ?_
 rintro _ _ ⟨rfl,rfl⟩
 refine⟨rfl,?_⟩
 refine Jz 13 ?_
 refine To.agP ⟨⟨k+1,rfl,rfl,rfl,om⟩,sb⟩
 refine Jz 11 ?_
 refine Jdel2 (Jdel1 (Jdel0 (Je1 results135 ?_)))
 exact⟨rfl,rfl⟩
theorem qesF_fn:∀l:List St,∀(A:OA) (q:Nat),l.length≤12→PS.lowL (St.pL l)→PS.fineL (St.pL l)→Dz 135 [vs A l q, .func (.func 139) #[] #[]] [all (lsG encX encT A l),glc] (fun v Γ'=>v= .bool true∧Γ'=[])
 |l,A,q,h1,h2,h3=>qesF_step l (fun x hx=>⟨qesF_fn x.thn,qesF_fn x.els⟩) A q h1 h2 h3
termination_by l=>SizeOf.sizeOf l
decreasing_by
 all_goals
  have h:=List.sizeOf_lt_of_mem hx
  have:SizeOf.sizeOf x.thn<SizeOf.sizeOf x∧SizeOf.sizeOf x.els<SizeOf.sizeOf x:=by cases x;simp only[St.mk.sizeOf_spec];omega
  omega
end Go.Proofs.YtlihklladkagpaaGreatDoor
