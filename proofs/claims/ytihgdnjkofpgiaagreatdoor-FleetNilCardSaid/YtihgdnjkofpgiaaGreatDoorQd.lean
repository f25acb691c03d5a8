/- Merged out of Q7p, Q7 by merge.py. Own text. -/
import Derived.Test.YtihgdnjkofpgiaaGreatDoorQc
set_option linter.unusedVariables false
set_option linter.unusedSimpArgs false
set_option maxHeartbeats 2000000
set_option maxRecDepth 100000
namespace Go.Proofs.YtihgdnjkofpgiaaGreatDoor
open Go.RowKit Go.Flow Go.Mem Go.Sep Go.In
def PE.okL(l:List PE):Prop:=PE.fineL l∧∀e∈l,e.dep≤8
mutual
def PS.sdep:PS→Nat
 |⟨_,_,_,_,t,e⟩=>max (PS.sdepL t) (PS.sdepL e)+1
def PS.sdepL:List PS→Nat
 |[]=>0
 |s::r=>max (PS.sdep s) (PS.sdepL r)
end
theorem PS.sdepL_app:∀(l:List PS) (x:PS),PS.sdepL (l++[x])=max (PS.sdepL l) x.sdep
 |[],x=>by show max x.sdep 0=max 0 x.sdep;omega
 |e::r,x=>by show max e.sdep (PS.sdepL (r++[x]))=max (max e.sdep (PS.sdepL r)) x.sdep;rw[PS.sdepL_app r x];omega
theorem PS.sdep_mem:∀{l:List PS} {x:PS},x∈l→x.sdep≤PS.sdepL l
 | e::r,x,h=>by
   show x.sdep≤max e.sdep (PS.sdepL r)
   rcases List.mem_cons.1 h with rfl|h
   ·omega
   ·have:=PS.sdep_mem h;omega
theorem PS.sdepL_le{n:Nat}:∀{l:List PS},(∀s∈l,s.sdep≤n)→PS.sdepL l≤n
 |[],_=>Nat.zero_le _
 | e::r,h=>by
   show max e.sdep (PS.sdepL r)≤n
   have h1:=h e (List.mem_cons_self ..)
   have h2:=PS.sdepL_le (l:=r) fun s hs=>h s (List.mem_cons_of_mem _ hs)
   omega
mutual
def PS.fine:PS→Prop
 |⟨k,s,h,es,t,e⟩=>((1≤k∧k≤10)∧((frm k).2.2.1≤es.length∧es.length≤(frm k).2.2.2.1)∧PE.okL es)∧(((frm k).1=true→isNm s)∧((frm k).1=false→s=nE))∧(((frm k).2.1=true→isNm h)∧((frm k).2.1=false→h=nE))∧(((frm k).2.2.2.2.1=false→t=[])∧((frm k).2.2.2.2.2=false→e=[]))∧PS.fineL t∧PS.fineL e
def PS.fineL:List PS→Prop
 |[]=>True
 |s::r=>PS.fine s∧PS.fineL r
end
theorem PS.fineL_mem:∀{l:List PS},PS.fineL l→∀x∈l,x.fine
 |[],_,x,h=>by cases h
 | e::r,h,x,hx=>by
   rcases List.mem_cons.1 hx with rfl|hx
   ·exact h.1
   ·exact PS.fineL_mem h.2 x hx
theorem PS.fineL_of:∀{l:List PS},(∀x∈l,x.fine)→PS.fineL l
 |[],_=>trivial
 |e::r,h=>⟨h e (List.mem_cons_self ..),PS.fineL_of fun x hx=>h x (List.mem_cons_of_mem _ hx)⟩
structure St.Fine(s:St):Prop where
 k1:1≤s.kind
 k2:s.kind≤10
 least:(frm s.kind).2.2.1≤s.exprs.length
 most:s.exprs.length≤(frm s.kind).2.2.2.1
 exprs:PE.fineL (Ex.pL s.exprs)
 deps:∀x∈s.exprs,x.pure.dep≤8
 nm1:(frm s.kind).1=true→isNm s.name
 nm2:(frm s.kind).1=false→s.name=nE
 hd1:(frm s.kind).2.1=true→isNm s.hand
 hd2:(frm s.kind).2.1=false→s.hand=nE
 thn:(frm s.kind).2.2.2.2.1=false→s.thn=[]
 els:(frm s.kind).2.2.2.2.2=false→s.els=[]
theorem pureL_nil{l:List St}(h:St.pL l=[]):l=[]:=by
 cases l with
 |nil=>rfl
 |cons a r=>cases h
theorem St.fine_at{s:St}(h:s.pure.fine):s.Fine∧PS.fineL (St.pL s.thn)∧PS.fineL (St.pL s.els):=by
 rw[St.pq]at h
 obtain⟨⟨⟨h1,h2⟩,⟨h3,h4⟩,h5,h6⟩,⟨h7,h8⟩,⟨h9,h10⟩,⟨h11,h12⟩,h13,h14⟩:=h
 rw[Ex.pureL_map,List.length_map]at h3 h4
 exact⟨⟨h1,h2,h3,h4,h5,fun x hx=>h6 x.pure (by rw[Ex.pureL_map];exact List.mem_map.2 ⟨x,hx,rfl⟩),h7,h8,h9,h10,fun h=>pureL_nil (h11 h),fun h=>pureL_nil (h12 h)⟩,h13,h14⟩
theorem St.fineL_at{l:List St}(h:PS.fineL (St.pL l)){x:St}(hx:x∈l):x.pure.fine:=PS.fineL_mem h x.pure (by rw[St.pm];exact List.mem_map.2 ⟨x,hx,rfl⟩)
section
variable{c:Ct}{np:Nat}
theorem ok1{e:PE}(h:e.fine∧e.dep≤8):PE.okL [e]:=⟨⟨h.1,trivial⟩,fun x hx=>by rw[List.mem_singleton.1 hx];exact h.2⟩
theorem ok2{a b:PE}(h:a.fine∧a.dep≤8)(h2:b.fine∧b.dep≤8):PE.okL [a,b]:=⟨⟨h.1,h2.1,trivial⟩,fun x hx=>by
 rcases List.mem_cons.1 hx with rfl|hx
 ·exact h.2
 ·rw[List.mem_singleton.1 hx];exact h2.2⟩
theorem okl{l:List PE}(h:∀e∈l,e.fine∧e.dep≤8):PE.okL l:=⟨PE.fineL_of fun x hx=>(h x hx).1,fun x hx=>(h x hx).2⟩
theorem StE.fine(ok:c.Ok)(hnp:np≤2){d:Nat}{s:PS}(h:StE c np d s):s.fine∧s.sdep≤d+1:=by
 have hi:=ok.ints
 have I {d:Nat} {e:PE} (h:IntE c np d e) (hd:d≤3):e.fine∧e.dep≤8:=⟨(h.fine ok hnp).1,by have:=(h.fine ok hnp).2;omega⟩
 have B {d:Nat} {e:PE} (h:TruE c np d e) (hd:d≤3):e.fine∧e.dep≤8:=⟨(h.fine ok hnp).1,by have:=(h.fine ok hnp).2;omega⟩
 have par {to h n:Nat} {ar:List Nat} (ha:c.ars[to]?=some ar) (hh:ar[h]?=some n):n≤2∧h<3∧to<3:=by
  have h1:=ok.each ar (mog ha)
  have h2:=(List.getElem?_eq_some_iff.1 hh).1
  have h3:=(List.getElem?_eq_some_iff.1 ha).1
  have h4:=ok.some
  exact⟨h1.2.2 n (mog hh),by omega,by omega⟩
 have nn (p:Prop):(false=true→p):=fun h=>by cases h
 have nt (p:Prop):(true=false→p):=fun h=>by cases h
 induction h with
 |setB d e h=>exact⟨⟨⟨by decide,⟨Nat.le_refl _,Nat.le_refl _⟩,ok1 (B h (by omega))⟩,⟨fun _=>isNm_b0,nt _⟩,⟨nn _,fun _=>rfl⟩,⟨fun _=>rfl,fun _=>rfl⟩,trivial,trivial⟩,show 1≤d+1 by omega⟩
 |setX d k e hk h=>exact⟨⟨⟨by decide,⟨Nat.le_refl _,Nat.le_refl _⟩,ok1 (I h (by omega))⟩,⟨fun _=>isNm_x (by omega),nt _⟩,⟨nn _,fun _=>rfl⟩,⟨fun _=>rfl,fun _=>rfl⟩,trivial,trivial⟩,show 1≤d+1 by omega⟩
 |put d a b ht ha hb=>exact⟨⟨⟨by decide,⟨Nat.le_refl _,Nat.le_refl _⟩,ok2 (I ha (by omega)) (I hb (by omega))⟩,⟨fun _=>isNm_t0,nt _⟩,⟨nn _,fun _=>rfl⟩,⟨fun _=>rfl,fun _=>rfl⟩,trivial,trivial⟩,show 1≤d+1 by omega⟩
 |del d a ht ha=>exact⟨⟨⟨by decide,⟨Nat.le_refl _,Nat.le_refl _⟩,ok1 (I ha (by omega))⟩,⟨fun _=>isNm_t0,nt _⟩,⟨nn _,fun _=>rfl⟩,⟨fun _=>rfl,fun _=>rfl⟩,trivial,trivial⟩,show 1≤d+1 by omega⟩
 | ife d e t l h ht hl iht ihl=>
   refine⟨⟨⟨by decide,⟨Nat.le_refl _,Nat.le_refl _⟩,ok1 (B h (by omega))⟩,⟨nn _,fun _=>rfl⟩,⟨nn _,fun _=>rfl⟩,⟨nt _,nt _⟩,PS.fineL_of fun x hx=>(iht x hx).1,PS.fineL_of fun x hx=>(ihl x hx).1⟩,?_⟩
   have h1:=PS.sdepL_le fun x hx=>(iht x hx).2
   have h2:=PS.sdepL_le fun x hx=>(ihl x hx).2
   show max (PS.sdepL t) (PS.sdepL l)+1≤_
   omega
 | whl d e t h ht iht=>
   refine⟨⟨⟨by decide,⟨Nat.le_refl _,Nat.le_refl _⟩,ok1 (B h (by omega))⟩,⟨nn _,fun _=>rfl⟩,⟨nn _,fun _=>rfl⟩,⟨nt _,fun _=>rfl⟩,PS.fineL_of fun x hx=>(iht x hx).1,trivial⟩,?_⟩
   have h1:=PS.sdepL_le fun x hx=>(iht x hx).2
   show max (PS.sdepL t) 0+1≤_
   omega
 | send d to h ar l ha hh hl=>
   obtain⟨p1,p2,p3⟩:=par ha hh
   exact⟨⟨⟨by decide,⟨Nat.zero_le _,by show l.length≤4;omega⟩,okl fun x hx=>I (hl x hx) (by omega)⟩,⟨fun _=>isNm_c p3,nt _⟩,⟨fun _=>isNm_h p2,nt _⟩,⟨fun _=>rfl,fun _=>rfl⟩,trivial,trivial⟩,show 1≤d+1 by omega⟩
 | after d h ar e l ha hh he hl=>
   obtain⟨p1,p2,p3⟩:=par ha hh
   refine⟨⟨⟨by decide,⟨by show 1≤l.length+1;omega,by show l.length+1≤5;omega⟩,okl fun x hx=>?_⟩,⟨nn _,fun _=>rfl⟩,⟨fun _=>isNm_h p2,nt _⟩,⟨fun _=>rfl,fun _=>rfl⟩,trivial,trivial⟩,show 1≤d+1 by omega⟩
   rcases List.mem_cons.1 hx with rfl|hx
   ·exact I he (by omega)
   ·exact I (hl x hx) (by omega)
 | store d a b l ha hb hl ihl=>
   refine⟨⟨⟨by decide,⟨Nat.le_refl _,Nat.le_refl _⟩,ok2 (I ha (by omega)) (I hb (by omega))⟩,⟨nn _,fun _=>rfl⟩,⟨nn _,fun _=>rfl⟩,⟨fun _=>rfl,nt _⟩,trivial,PS.fineL_of fun x hx=>(ihl x hx).1⟩,?_⟩
   have h1:=PS.sdepL_le fun x hx=>(ihl x hx).2
   show max 0 (PS.sdepL l)+1≤_
   omega
 | fetch d k e l hk h hl ihl=>
   refine⟨⟨⟨by decide,⟨Nat.le_refl _,Nat.le_refl _⟩,ok1 (I h (by omega))⟩,⟨fun _=>isNm_x (by omega),nt _⟩,⟨nn _,fun _=>rfl⟩,⟨fun _=>rfl,nt _⟩,trivial,PS.fineL_of fun x hx=>(ihl x hx).1⟩,?_⟩
   have h1:=PS.sdepL_le fun x hx=>(ihl x hx).2
   show max 0 (PS.sdepL l)+1≤_
   omega
 |stop d=>exact⟨⟨⟨by decide,⟨Nat.le_refl _,Nat.le_refl _⟩,trivial,fun x hx=>by cases hx⟩,⟨nn _,fun _=>rfl⟩,⟨nn _,fun _=>rfl⟩,⟨fun _=>rfl,fun _=>rfl⟩,trivial,trivial⟩,show 1≤d+1 by omega⟩
end
set_option maxHeartbeats 4000000 in
set_option maxRecDepth 100000 in
theorem qcnt_step(l:List St)(ih:∀x∈l,(∀(A:Option Addr) (q:Nat),x.thn.length≤12→PS.lowL (St.pL x.thn)→PS.cntL (St.pL x.thn)≤100→Does Tryz.prog 168 [.slice A x.thn.length q] [all (lsG encX encT A x.thn)] (fun v Γ'=>v=nv (PS.cntL (St.pL x.thn))∧Γ'=[]))∧(∀(A:Option Addr) (q:Nat),x.els.length≤12→PS.lowL (St.pL x.els)→PS.cntL (St.pL x.els)≤100→Does Tryz.prog 168 [.slice A x.els.length q] [all (lsG encX encT A x.els)] (fun v Γ'=>v=nv (PS.cntL (St.pL x.els))∧Γ'=[])))(A:Option Addr)(q:Nat)(hl:l.length≤12)(hlow:PS.lowL (St.pL l))(hb:PS.cntL (St.pL l)≤100):
    Does Tryz.prog 168 [.slice A l.length q] [all (lsG encX encT A l)] (fun v Γ'=>v=nv (PS.cntL (St.pL l))∧Γ'=[]):=by
 refine Does.enter Tryz.func168 rfl Tryz.ntmps168 rfl (fun w0=>?_)
 refine To.z 14 ?_
 refine To.one 0 rfl (ros encT A l) rfl (List.mem_cons_self ..) ?_
 refine To.z 7 ?_
 refine To.sub [(0, .slice A l.length q),(3,nv l.length),(8,nv l.length),(9,nv 0)] ⟨rfl,rfl,rfl,rfl,trivial⟩ ?_
 refine To.loop (fun mz ρ Γ=>∃(m:Nat) (k:Nat),ρ=[(0, .slice A l.length q),(3,nv m),(8,nv l.length),(9,nv k)]∧Γ=[ros encT A l,all (lsG encX encT A l)]∧mz=l.length-k∧(k≤l.length)∧(m+k=l.length+PS.cntL (St.pL (l.take k)))) (l.length-0) ⟨l.length,0,rfl,rfl,rfl,(Nat.zero_le _),rfl⟩ ?_
 rintro mz _ _ ⟨m,k,rfl,rfl,rfl,hk,hm⟩
 have hmb:PS.cntL (St.pL (l.take k))≤100:=by
  have h1:St.pL l=St.pL (l.take k)++St.pL (l.drop k):=by rw[St.pm,St.pm,St.pm,←List.map_append,List.take_append_drop]
  rw[h1,PS.cntL_app]at hb
  omega
 refine To.z 6 ?_
 refine To.cp rfl (fun c10=>?_) (fun c10=>?_)
 obtain⟨x,hx⟩:∃z0,l[k]?=some z0:=⟨l[k]'(by omega),gge _⟩
 obtain⟨hxk,⟨hxe,hxl⟩,⟨hxt,hxtl⟩,hxn,hxnl⟩:=St.low_at (St.lowL_at hlow (mog hx))
 have hxm:x.pure∈St.pL l:=by rw[St.pm];exact List.mem_map.2 ⟨x,mog hx,rfl⟩
 have htk:St.pL (l.take (k+1))=St.pL (l.take k)++[x.pure]:=by rw[take_of_get hx,St.pm,List.map_append,←St.pm];rfl
 have hxc:PS.cnt x.pure=1+PS.cntL (St.pL x.thn)+PS.cntL (St.pL x.els):=by rw[St.pq x];rfl
 have hxc2:=cnt_mem hxm
 have hxa:PS.cntL (St.pL x.thn)≤100:=by omega
 have hxb:PS.cntL (St.pL x.els)≤100:=by omega
 have hcx:PS.cntL (St.pL (l.take (k+1)))=PS.cntL (St.pL (l.take k))+PS.cnt x.pure:=by rw[htk,PS.cntL_app];show _+(PS.cnt x.pure+0)=_;omega
 refine To.z 10 ?_
 refine To.part 1 rfl (lsG encX encT x.Ae x.els) (lsG_lax _ _ _ _) (fun c hc=>lg_mem hx c (St.els_kids x c hc)) (To.part 2 rfl (lsG encX encT x.At x.thn) (lsG_lax _ _ _ _) (fun c hc=>lg_mem hx c (St.thn_kids x c hc)) (To.flow [ros encT A l] [⟨0,[],0⟩,⟨1,[],0⟩,⟨2,[],0⟩,⟨7,[],0⟩,⟨8,[],0⟩,⟨3,[],1⟩,⟨4,[],0⟩,⟨5,[],0⟩,⟨6,[],4⟩,⟨9,[],1⟩,⟨10,[],0⟩,⟨11,[],0⟩,⟨12,[6],4⟩,⟨13,[6,12],0⟩,⟨14,[6,12],0⟩,⟨15,[6,12],0⟩] mixed (by kernel_rfl) (ocs (oca 2 rfl) (ocn _)) ?_))
 refine To.z 8 ?_
 refine Fw.callM rfl rfl rfl rfl rfl (Ent.fn rfl rfl ca168) ((ih x (mog hx)).1 x.At x.qt hxt hxtl hxa) (by show owns (lsG encX encT x.At x.thn)++[]=[];rw[(lsG_lax encX encT x.At x.thn).owns];rfl) (ocs (oca 0 rfl) (ocn _)) ?_
 rintro _ _ ⟨rfl,rfl⟩
 refine⟨rfl,?_⟩
 refine To.z 3 ?_
 refine Fw.callM rfl rfl rfl rfl rfl (Ent.fn rfl rfl ca168) ((ih x (mog hx)).2 x.Ae x.qe hxn hxnl hxb) (by show owns (lsG encX encT x.Ae x.els)++[]=[];rw[(lsG_lax encX encT x.Ae x.els).owns];rfl) (ocs (oca 1 rfl) (ocn _)) ?_
 rintro _ _ ⟨rfl,rfl⟩
 refine⟨rfl,?_⟩
 refine Fw.f rfl (Rd.addN (a:=(PS.cntL (St.pL x.thn))) (b:=(PS.cntL (St.pL x.els))) rfl rfl rfl (by omega)) ?_
 refine Fw.f rfl (Rd.addN (a:=m) (b:=((PS.cntL (St.pL x.thn))+(PS.cntL (St.pL x.els)))) rfl rfl rfl (by omega)) ?_
 refine To.z 9 ?_
 refine To.sub [(0, .slice A l.length q),(3,nv ((m+(PS.cntL (St.pL x.thn)+PS.cntL (St.pL x.els))))),(8,nv l.length),(9,nv ((k+1)))] ⟨rfl,rfl,rfl,rfl,trivial⟩ ?_
 refine To.del1 (To.del0 ?_)
 refine To.ag (l.length-(k+1)) (by omega) ⟨(m+(PS.cntL (St.pL x.thn)+PS.cntL (St.pL x.els))),k+1,rfl,rfl,rfl,(by omega),(by rw[hcx,hxc];omega)⟩
 refine To.z 12 ?_
 refine To.del1 (To.del0 (To.end1 (.inl rfl) Tryz.results168 rfl ?_))
 have h2:m=PS.cntL (St.pL l):=by rw[show k=l.length by omega,List.take_length]at hm;omega
 rw[h2];exact⟨rfl,rfl⟩
theorem qcnt_fn:∀l:List St,∀(A:Option Addr) (q:Nat),l.length≤12→PS.lowL (St.pL l)→PS.cntL (St.pL l)≤100→Does Tryz.prog 168 [.slice A l.length q] [all (lsG encX encT A l)] (fun v Γ'=>v=nv (PS.cntL (St.pL l))∧Γ'=[])
 |l,A,q,h1,h2,h3=>qcnt_step l (fun x hx=>⟨qcnt_fn x.thn,qcnt_fn x.els⟩) A q h1 h2 h3
termination_by l=>SizeOf.sizeOf l
decreasing_by
 all_goals
  have h:=List.sizeOf_lt_of_mem hx
  have:SizeOf.sizeOf x.thn<SizeOf.sizeOf x∧SizeOf.sizeOf x.els<SizeOf.sizeOf x:=by cases x;simp only[St.mk.sizeOf_spec];omega
  omega
set_option maxHeartbeats 4000000 in
set_option maxRecDepth 100000 in
theorem qsdep_step(l:List St)(ih:∀x∈l,(∀(A:Option Addr) (q:Nat),x.thn.length≤12→PS.lowL (St.pL x.thn)→PS.sdepL (St.pL x.thn)≤100→Does Tryz.prog 169 [.slice A x.thn.length q] [all (lsG encX encT A x.thn)] (fun v Γ'=>v=nv (PS.sdepL (St.pL x.thn))∧Γ'=[]))∧(∀(A:Option Addr) (q:Nat),x.els.length≤12→PS.lowL (St.pL x.els)→PS.sdepL (St.pL x.els)≤100→Does Tryz.prog 169 [.slice A x.els.length q] [all (lsG encX encT A x.els)] (fun v Γ'=>v=nv (PS.sdepL (St.pL x.els))∧Γ'=[])))(A:Option Addr)(q:Nat)(hl:l.length≤12)(hlow:PS.lowL (St.pL l))(hb:PS.sdepL (St.pL l)≤100):
    Does Tryz.prog 169 [.slice A l.length q] [all (lsG encX encT A l)] (fun v Γ'=>v=nv (PS.sdepL (St.pL l))∧Γ'=[]):=by
 refine Does.enter Tryz.func169 rfl Tryz.ntmps169 rfl (fun w0=>?_)
 refine To.z 13 ?_
 refine To.cp rfl (fun c7=>?_) (fun c7=>?_)
 refine To.z 7 ?_
 refine To.del0 (To.end1 (.inl rfl) Tryz.results169 rfl ?_)
 have h0:l=[]:=List.eq_nil_of_length_eq_zero (by omega)
 subst h0
 exact⟨rfl,rfl⟩
 refine To.z 9 ?_
 refine To.one 0 rfl (ros encT A l) rfl (List.mem_cons_self ..) ?_
 refine To.z 7 ?_
 refine To.sub [(0, .slice A l.length q),(3,nv 0),(9,nv l.length),(10,nv 0)] ⟨rfl,rfl,rfl,rfl,trivial⟩ ?_
 refine To.loop (fun mz ρ Γ=>∃(m:Nat) (k:Nat),ρ=[(0, .slice A l.length q),(3,nv m),(9,nv l.length),(10,nv k)]∧Γ=[ros encT A l,all (lsG encX encT A l)]∧mz=l.length-k∧(k≤l.length)∧(PS.sdepL (St.pL (l.take k))=if k=0 then 0 else m+1)∧(k=0→m=0)∧(m≤100)) (l.length-0) ⟨0,0,rfl,rfl,rfl,(Nat.zero_le _),rfl,(fun _=>rfl),(Nat.zero_le _)⟩ ?_
 rintro mz _ _ ⟨m,k,rfl,rfl,rfl,hk,hm,hm0,hmb⟩
 refine To.z 6 ?_
 refine To.cp rfl (fun c11=>?_) (fun c11=>?_)
 obtain⟨x,hx⟩:∃z0,l[k]?=some z0:=⟨l[k]'(by omega),gge _⟩
 obtain⟨hxk,⟨hxe,hxl⟩,⟨hxt,hxtl⟩,hxn,hxnl⟩:=St.low_at (St.lowL_at hlow (mog hx))
 have hxm:x.pure∈St.pL l:=by rw[St.pm];exact List.mem_map.2 ⟨x,mog hx,rfl⟩
 have htk:St.pL (l.take (k+1))=St.pL (l.take k)++[x.pure]:=by rw[take_of_get hx,St.pm,List.map_append,←St.pm];rfl
 have hxc:PS.sdep x.pure=max (PS.sdepL (St.pL x.thn)) (PS.sdepL (St.pL x.els))+1:=by rw[St.pq x];rfl
 have hxc2:=PS.sdep_mem hxm
 have hxa:PS.sdepL (St.pL x.thn)≤100:=by omega
 have hxb:PS.sdepL (St.pL x.els)≤100:=by omega
 have hcx:PS.sdepL (St.pL (l.take (k+1)))=max (PS.sdepL (St.pL (l.take k))) (PS.sdep x.pure):=by rw[htk,PS.sdepL_app]
 refine To.z 10 ?_
 refine To.part 1 rfl (lsG encX encT x.Ae x.els) (lsG_lax _ _ _ _) (fun c hc=>lg_mem hx c (St.els_kids x c hc)) (To.part 2 rfl (lsG encX encT x.At x.thn) (lsG_lax _ _ _ _) (fun c hc=>lg_mem hx c (St.thn_kids x c hc)) (To.flow [ros encT A l] [⟨0,[],0⟩,⟨1,[],0⟩,⟨2,[],0⟩,⟨7,[],0⟩,⟨8,[],0⟩,⟨3,[],1⟩,⟨4,[],0⟩,⟨5,[],0⟩,⟨6,[],4⟩,⟨9,[],1⟩,⟨10,[],0⟩,⟨11,[],0⟩,⟨12,[6],4⟩,⟨13,[6,12],0⟩,⟨14,[6,12],0⟩] mixed (by kernel_rfl) (ocs (oca 2 rfl) (ocn _)) ?_))
 refine To.z 8 ?_
 refine Fw.callM rfl rfl rfl rfl rfl (Ent.fn rfl rfl ca169) ((ih x (mog hx)).1 x.At x.qt hxt hxtl hxa) (by show owns (lsG encX encT x.At x.thn)++[]=[];rw[(lsG_lax encX encT x.At x.thn).owns];rfl) (ocs (oca 0 rfl) (ocn _)) ?_
 rintro _ _ ⟨rfl,rfl⟩
 refine⟨rfl,?_⟩
 refine To.z 3 ?_
 refine Fw.callM rfl rfl rfl rfl rfl (Ent.fn rfl rfl ca169) ((ih x (mog hx)).2 x.Ae x.qe hxn hxnl hxb) (by show owns (lsG encX encT x.Ae x.els)++[]=[];rw[(lsG_lax encX encT x.Ae x.els).owns];rfl) (ocs (oca 1 rfl) (ocn _)) ?_
 rintro _ _ ⟨rfl,rfl⟩
 refine⟨rfl,?_⟩
 refine Fw.f rfl (Rd.as (v':=nv (max m (max (PS.sdepL (St.pL x.thn)) (PS.sdepL (St.pL x.els))))) (congrArg (Value.int .i64) (by omega)) (Rd.max3 rfl rfl rfl rfl)) ?_
 refine To.z 9 ?_
 refine To.sub [(0, .slice A l.length q),(3,nv ((max m (max (PS.sdepL (St.pL x.thn)) (PS.sdepL (St.pL x.els)))))),(9,nv l.length),(10,nv ((k+1)))] ⟨rfl,rfl,rfl,rfl,trivial⟩ ?_
 refine To.del1 (To.del0 ?_)
 refine To.ag (l.length-(k+1)) (by omega) ⟨(max m (max (PS.sdepL (St.pL x.thn)) (PS.sdepL (St.pL x.els)))),k+1,rfl,rfl,rfl,(by omega),(by rw[if_neg (by omega),hcx,hm,hxc];split<;>omega),(fun h=>by omega),(by omega)⟩
 refine To.z 13 ?_
 refine To.del1 (To.del0 (To.end1 (.inl rfl) Tryz.results169 rfl ?_))
 have h2:PS.sdepL (St.pL l)=m+1:=by rw[show k=l.length by omega,List.take_length,if_neg (by omega)]at hm;exact hm
 rw[h2];exact⟨rfl,rfl⟩
theorem qsdep_fn:∀l:List St,∀(A:Option Addr) (q:Nat),l.length≤12→PS.lowL (St.pL l)→PS.sdepL (St.pL l)≤100→Does Tryz.prog 169 [.slice A l.length q] [all (lsG encX encT A l)] (fun v Γ'=>v=nv (PS.sdepL (St.pL l))∧Γ'=[])
 |l,A,q,h1,h2,h3=>qsdep_step l (fun x hx=>⟨qsdep_fn x.thn,qsdep_fn x.els⟩) A q h1 h2 h3
termination_by l=>SizeOf.sizeOf l
decreasing_by
 all_goals
  have h:=List.sizeOf_lt_of_mem hx
  have:SizeOf.sizeOf x.thn<SizeOf.sizeOf x∧SizeOf.sizeOf x.els<SizeOf.sizeOf x:=by cases x;simp only[St.mk.sizeOf_spec];omega
  omega
theorem qsmall1_fn(P:Option Addr)(s:St)(hf:s.Fine)(hle:s.exprs.length≤4)(hlow:PE.lowL (Ex.pL s.exprs)):
    Does Tryz.prog 170 [.pointer (some ⟨blk P,ofs P+0*6,none⟩)] [ros encT P [s],all (lsF encX s.A s.exprs),glc] (fun v Γ'=>v= .bool true∧Γ'=[]):=by
 refine Does.enter Tryz.func170 rfl Tryz.ntmps170 rfl (fun w0=>?_)
 refine To.z 7 ?_
 refine To.one 1 rfl (ros encX s.A s.exprs) rfl (List.mem_cons_self ..) ?_
 refine To.z 4 ?_
 refine To.r (Rd.ld (i:=1) rfl rfl c210 rfl (gvt (rsg encT_ok (show([s]:List St)[0]?=some s from rfl)) rfl)) ?_
 refine To.z 5 ?_
 refine To.sub [(8, .slice s.A s.exprs.length s.q),(9,nv s.exprs.length),(10,nv 0)] ⟨rfl,rfl,rfl,trivial⟩ ?_
 refine To.del3 (To.del1 ?_)
 refine To.loop (fun mz ρ Γ=>∃(k:Nat),ρ=[(8, .slice s.A s.exprs.length s.q),(9,nv s.exprs.length),(10,nv k)]∧Γ=[ros encX s.A s.exprs,all (lsF encX s.A s.exprs)]∧mz=s.exprs.length-k∧(k≤s.exprs.length)) (s.exprs.length-0) ⟨0,rfl,rfl,rfl,(Nat.zero_le _)⟩ ?_
 rintro mz _ _ ⟨k,rfl,rfl,rfl,hk⟩
 refine To.z 6 ?_
 refine To.cp rfl (fun c11=>?_) (fun c11=>?_)
 obtain⟨x,hx⟩:∃z0,s.exprs[k]?=some z0:=⟨s.exprs[k]'(by omega),gge _⟩
 have hxd:=hf.deps x (mog hx)
 refine To.z 8 ?_
 refine To.al fun b4=>?_
 refine To.z 4 ?_
 refine To.part 2 rfl (x.kids encX) (Ex.lax encX x) (ls_mem hx) ?_
 refine To.z 2 ?_
 refine To.cQ rfl rfl rfl (Ent.fn rfl rfl ca171) (qdep_fn x (Ex.lowL_at hlow (mog hx)) (Nat.le_trans hxd (by decide))) (by show owns (x.kids encX)++[]=[];rw[(Ex.lax encX x).owns];rfl) (ocs (oca 0 rfl) (ocn _)) ?_
 rintro _ _ ⟨rfl,rfl⟩
 refine⟨rfl,?_⟩
 refine To.r (Rd.as (v':= .bool false) (congrArg Value.bool (decide_eq_false (by omega))) (Rd.gtr rfl rfl rfl)) ?_
 refine To.z 11 ?_
 refine To.sub [(8, .slice s.A s.exprs.length s.q),(9,nv s.exprs.length),(10,nv ((k+1)))] ⟨rfl,rfl,rfl,trivial⟩ ?_
 refine To.del1 (To.del0 ?_)
 refine To.ag (s.exprs.length-(k+1)) (by omega) ⟨k+1,rfl,rfl,rfl,(by omega)⟩
 refine To.z 11 ?_
 refine To.del1 (To.del0 (To.end1 (.inl rfl) Tryz.results170 rfl ?_))
 exact⟨rfl,rfl⟩
theorem qnamedS_fn(P:Option Addr)(s:St)(hf:s.Fine)(hle:s.exprs.length≤4)(hlow:PE.lowL (Ex.pL s.exprs)):
    Does Tryz.prog 119 [.pointer (some ⟨blk P,ofs P+0*6,none⟩)] [ros encT P [s],all (lsF encX s.A s.exprs),glc] (fun v Γ'=>v= .bool true∧Γ'=[]):=by
 refine Does.enter Tryz.func119 rfl Tryz.ntmps119 rfl (fun w0=>?_)
 refine To.z 10 ?_
 refine To.r (Rd.ld (i:=0) rfl rfl c209 rfl (gvt (f:=0) (rsg encT_ok (show([s]:List St)[0]?=some s from rfl)) rfl)) ?_
 refine To.cV rfl rfl rfl (Ent.fn rfl rfl ca173) (form_fn hf.k1 hf.k2) rfl (oks_gl 2 rfl) ?_
 refine To.z 3 ?_
 refine To.al fun b3=>?_
 refine To.z 7 ?_
 refine To.meet (T:=Bool) (fun t=>([(0, .pointer (some ⟨blk P,ofs P+0*6,none⟩)),(34, .bool t)],[box b3 [.bool ((frm s.kind).1), .bool ((frm s.kind).2.1),nv ((frm s.kind).2.2.1),nv ((frm s.kind).2.2.2.1), .bool ((frm s.kind).2.2.2.2.1), .bool ((frm s.kind).2.2.2.2.2)] 305,ros encT P [s],all (lsF encX s.A s.exprs),glc])) (fun t=>t=(false)) ?_ (fun t ht=>?_)
 refine To.z 2 ?_
 refine To.rdB rfl rfl rfl (Rd.move rfl rfl) (fun g15=>?_) (fun g15=>?_)
 refine To.z 3 ?_
 refine To.r (Rd.ld (i:=1) rfl rfl c9 rfl (gvt (rsg encT_ok (show([s]:List St)[0]?=some s from rfl)) rfl)) ?_
 refine To.cV rfl rfl rfl (Ent.fn rfl rfl ca116) (isname_fn (hf.nm1 (by simpa using g15))) rfl (oks_gl 3 rfl) ?_
 refine To.z 5 ?_
 refine To.rdB rfl rfl rfl (Rd.move rfl rfl) (fun g26=>?_) (fun g26=>?_)
 refine To.z 3 ?_
 refine To.r (Rd.ld (i:=1) rfl rfl c9 rfl (gvt (rsg encT_ok (show([s]:List St)[0]?=some s from rfl)) rfl)) ?_
 refine To.cV rfl rfl rfl (Ent.fn rfl rfl ca116) (isname_fn (hf.hd1 (by simpa using g26))) rfl (oks_gl 3 rfl) ?_
 refine To.z 5 ?_
 refine To.he false rfl ⟨rfl,rfl,trivial⟩ rfl
 refine To.z 10 ?_
 refine To.he false rfl ⟨rfl,rfl,trivial⟩ rfl
 refine To.z 10 ?_
 refine To.rdB rfl rfl rfl (Rd.move rfl rfl) (fun g26=>?_) (fun g26=>?_)
 refine To.z 3 ?_
 refine To.r (Rd.ld (i:=1) rfl rfl c9 rfl (gvt (rsg encT_ok (show([s]:List St)[0]?=some s from rfl)) rfl)) ?_
 refine To.cV rfl rfl rfl (Ent.fn rfl rfl ca116) (isname_fn (hf.hd1 (by simpa using g26))) rfl (oks_gl 3 rfl) ?_
 refine To.z 5 ?_
 refine To.he false rfl ⟨rfl,rfl,trivial⟩ rfl
 refine To.z 10 ?_
 refine To.he false rfl ⟨rfl,rfl,trivial⟩ rfl
 subst ht
 show To _ [(0, .pointer (some ⟨blk P,ofs P+0*6,none⟩)),(34, .bool false)] [box b3 [.bool ((frm s.kind).1), .bool ((frm s.kind).2.1),nv ((frm s.kind).2.2.1),nv ((frm s.kind).2.2.2.1), .bool ((frm s.kind).2.2.2.2.1), .bool ((frm s.kind).2.2.2.2.2)] 305,ros encT P [s],all (lsF encX s.A s.exprs),glc] _
 refine To.z 6 ?_
 refine To.cQ rfl rfl rfl (Ent.fn rfl rfl ca174) (qwiN_fn P s hle hlow hf.exprs) (by show[]++(owns (lsF encX s.A s.exprs)++(owns gl++[]))=[];rw[(lsF_lax encX s.A s.exprs).owns];rfl) (ocs (oca 1 rfl) (ocs (oca 2 rfl) (ocs (oca 3 rfl) (ocn _)))) ?_
 rintro _ _ ⟨rfl,rfl⟩
 refine⟨rfl,?_⟩
 refine To.z 4 ?_
 refine To.del3 (To.del2 (To.del1 (To.del0 (To.end1 (.inl rfl) Tryz.results119 rfl ?_))))
 exact⟨rfl,rfl⟩
theorem qformedS_fn(P:Option Addr)(s:St)(hf:s.Fine)(hle:s.exprs.length≤4)(hlow:PE.lowL (Ex.pL s.exprs)):
    Does Tryz.prog 122 [.pointer (some ⟨blk P,ofs P+0*6,none⟩)] [ros encT P [s],all (lsF encX s.A s.exprs),glc] (fun v Γ'=>v= .bool true∧Γ'=[]):=by
 refine Does.enter Tryz.func122 rfl Tryz.ntmps122 rfl (fun w0=>?_)
 refine To.z 10 ?_
 refine To.r (Rd.ld (i:=0) rfl rfl c209 rfl (gvt (f:=0) (rsg encT_ok (show([s]:List St)[0]?=some s from rfl)) rfl)) ?_
 refine To.cV rfl rfl rfl (Ent.fn rfl rfl ca173) (form_fn hf.k1 hf.k2) rfl (oks_gl 2 rfl) ?_
 refine To.z 3 ?_
 refine To.al fun b3=>?_
 refine To.z 10 ?_
 refine To.r (Rd.ld (i:=1) rfl rfl c210 rfl (gvt (rsg encT_ok (show([s]:List St)[0]?=some s from rfl)) rfl)) ?_
 refine To.z 19 ?_
 refine To.r (Rd.as (v':= .bool false) (congrArg Value.bool (decide_eq_false (by have:=hf.least;omega))) (Rd.lss rfl rfl rfl)) ?_
 refine To.z 8 ?_
 refine To.r (Rd.as (v':= .bool false) (congrArg Value.bool (decide_eq_false (by have:=hf.most;omega))) (Rd.gtr rfl rfl rfl)) ?_
 refine To.z 7 ?_
 refine To.meet (T:=Bool) (fun t=>([(0, .pointer (some ⟨blk P,ofs P+0*6,none⟩)),(3,pv b3),(30, .bool t)],[box b3 [.bool ((frm s.kind).1), .bool ((frm s.kind).2.1),nv ((frm s.kind).2.2.1),nv ((frm s.kind).2.2.2.1), .bool ((frm s.kind).2.2.2.2.1), .bool ((frm s.kind).2.2.2.2.2)] 305,ros encT P [s],all (lsF encX s.A s.exprs),glc])) (fun t=>t=(false)) ?_ (fun t ht=>?_)
 refine To.z 3 ?_
 refine To.rdB rfl rfl rfl (Rd.move rfl rfl) (fun g34=>?_) (fun g34=>?_)
 refine To.z 3 ?_
 refine To.r (Rd.ld (i:=1) rfl rfl c9 rfl (gvt (rsg encT_ok (show([s]:List St)[0]?=some s from rfl)) rfl)) ?_
 refine To.r (Rd.as (v':= .bool false) (congrArg Value.bool (decide_eq_false (fun h=>h (hf.nm2 (by simpa using g34))))) (Rd.neqZ rfl rfl rfl)) ?_
 refine To.z 4 ?_
 refine To.he false rfl ⟨rfl,rfl,rfl,trivial⟩ rfl
 refine To.z 9 ?_
 refine To.he false rfl ⟨rfl,rfl,rfl,trivial⟩ rfl
 subst ht
 show To _ [(0, .pointer (some ⟨blk P,ofs P+0*6,none⟩)),(3,pv b3),(30, .bool false)] [box b3 [.bool ((frm s.kind).1), .bool ((frm s.kind).2.1),nv ((frm s.kind).2.2.1),nv ((frm s.kind).2.2.2.1), .bool ((frm s.kind).2.2.2.2.1), .bool ((frm s.kind).2.2.2.2.2)] 305,ros encT P [s],all (lsF encX s.A s.exprs),glc] _
 refine To.z 2 ?_
 refine To.meet (T:=Bool) (fun t=>([(0, .pointer (some ⟨blk P,ofs P+0*6,none⟩)),(3,pv b3),(30, .bool t)],[box b3 [.bool ((frm s.kind).1), .bool ((frm s.kind).2.1),nv ((frm s.kind).2.2.1),nv ((frm s.kind).2.2.2.1), .bool ((frm s.kind).2.2.2.2.1), .bool ((frm s.kind).2.2.2.2.2)] 305,ros encT P [s],all (lsF encX s.A s.exprs),glc])) (fun t=>t=(false)) ?_ (fun t ht=>?_)
 refine To.z 3 ?_
 refine To.rdB rfl rfl rfl (Rd.move rfl rfl) (fun g44=>?_) (fun g44=>?_)
 refine To.z 3 ?_
 refine To.r (Rd.ld (i:=1) rfl rfl c9 rfl (gvt (rsg encT_ok (show([s]:List St)[0]?=some s from rfl)) rfl)) ?_
 refine To.r (Rd.as (v':= .bool false) (congrArg Value.bool (decide_eq_false (fun h=>h (hf.hd2 (by simpa using g44))))) (Rd.neqZ rfl rfl rfl)) ?_
 refine To.z 4 ?_
 refine To.he false rfl ⟨rfl,rfl,rfl,trivial⟩ rfl
 refine To.z 9 ?_
 refine To.he false rfl ⟨rfl,rfl,rfl,trivial⟩ rfl
 subst ht
 show To _ [(0, .pointer (some ⟨blk P,ofs P+0*6,none⟩)),(3,pv b3),(30, .bool false)] [box b3 [.bool ((frm s.kind).1), .bool ((frm s.kind).2.1),nv ((frm s.kind).2.2.1),nv ((frm s.kind).2.2.2.1), .bool ((frm s.kind).2.2.2.2.1), .bool ((frm s.kind).2.2.2.2.2)] 305,ros encT P [s],all (lsF encX s.A s.exprs),glc] _
 refine To.z 4 ?_
 refine To.meet (T:=Bool) (fun t=>([(0, .pointer (some ⟨blk P,ofs P+0*6,none⟩)),(3,pv b3),(51, .bool t)],[box b3 [.bool ((frm s.kind).1), .bool ((frm s.kind).2.1),nv ((frm s.kind).2.2.1),nv ((frm s.kind).2.2.2.1), .bool ((frm s.kind).2.2.2.2.1), .bool ((frm s.kind).2.2.2.2.2)] 305,ros encT P [s],all (lsF encX s.A s.exprs),glc])) (fun t=>t=(false)) ?_ (fun t ht=>?_)
 refine To.z 3 ?_
 refine To.rdB rfl rfl rfl (Rd.move rfl rfl) (fun g55=>?_) (fun g55=>?_)
 refine To.z 3 ?_
 refine To.r (Rd.ld (i:=1) rfl rfl c118 rfl (gvt (rsg encT_ok (show([s]:List St)[0]?=some s from rfl)) rfl)) ?_
 refine To.z 1 ?_
 refine To.r (Rd.as (v':= .bool false) (congrArg Value.bool (decide_eq_false (by rw[hf.thn (by simpa using g55)];decide))) (Rd.gtr rfl rfl rfl)) ?_
 refine To.z 4 ?_
 refine To.he false rfl ⟨rfl,rfl,rfl,trivial⟩ rfl
 refine To.z 10 ?_
 refine To.he false rfl ⟨rfl,rfl,rfl,trivial⟩ rfl
 subst ht
 show To _ [(0, .pointer (some ⟨blk P,ofs P+0*6,none⟩)),(3,pv b3),(51, .bool false)] [box b3 [.bool ((frm s.kind).1), .bool ((frm s.kind).2.1),nv ((frm s.kind).2.2.1),nv ((frm s.kind).2.2.2.1), .bool ((frm s.kind).2.2.2.2.1), .bool ((frm s.kind).2.2.2.2.2)] 305,ros encT P [s],all (lsF encX s.A s.exprs),glc] _
 refine To.z 2 ?_
 refine To.meet (T:=Bool) (fun t=>([(0, .pointer (some ⟨blk P,ofs P+0*6,none⟩)),(3,pv b3),(51, .bool t)],[box b3 [.bool ((frm s.kind).1), .bool ((frm s.kind).2.1),nv ((frm s.kind).2.2.1),nv ((frm s.kind).2.2.2.1), .bool ((frm s.kind).2.2.2.2.1), .bool ((frm s.kind).2.2.2.2.2)] 305,ros encT P [s],all (lsF encX s.A s.exprs),glc])) (fun t=>t=(false)) ?_ (fun t ht=>?_)
 refine To.z 3 ?_
 refine To.rdB rfl rfl rfl (Rd.move rfl rfl) (fun g66=>?_) (fun g66=>?_)
 refine To.z 3 ?_
 refine To.r (Rd.ld (i:=1) rfl rfl c118 rfl (gvt (rsg encT_ok (show([s]:List St)[0]?=some s from rfl)) rfl)) ?_
 refine To.z 1 ?_
 refine To.r (Rd.as (v':= .bool false) (congrArg Value.bool (decide_eq_false (by rw[hf.els (by simpa using g66)];decide))) (Rd.gtr rfl rfl rfl)) ?_
 refine To.z 4 ?_
 refine To.he false rfl ⟨rfl,rfl,rfl,trivial⟩ rfl
 refine To.z 10 ?_
 refine To.he false rfl ⟨rfl,rfl,rfl,trivial⟩ rfl
 subst ht
 show To _ [(0, .pointer (some ⟨blk P,ofs P+0*6,none⟩)),(3,pv b3),(51, .bool false)] [box b3 [.bool ((frm s.kind).1), .bool ((frm s.kind).2.1),nv ((frm s.kind).2.2.1),nv ((frm s.kind).2.2.2.1), .bool ((frm s.kind).2.2.2.2.1), .bool ((frm s.kind).2.2.2.2.2)] 305,ros encT P [s],all (lsF encX s.A s.exprs),glc] _
 refine To.z 7 ?_
 refine To.cQ rfl rfl rfl (Ent.fn rfl rfl ca174) (qwiF_fn P s hle hlow hf.exprs) (by show[]++(owns (lsF encX s.A s.exprs)++(owns gl++[]))=[];rw[(lsF_lax encX s.A s.exprs).owns];rfl) (ocs (oca 1 rfl) (ocs (oca 2 rfl) (ocs (oca 3 rfl) (ocn _)))) ?_
 rintro _ _ ⟨rfl,rfl⟩
 refine⟨rfl,?_⟩
 refine To.z 4 ?_
 refine To.del3 (To.del2 (To.del1 (To.del0 (To.end1 (.inl rfl) Tryz.results122 rfl ?_))))
 exact⟨rfl,rfl⟩
set_option maxHeartbeats 4000000 in
set_option maxRecDepth 100000 in
theorem qesS_step(l:List St)(ih:∀x∈l,(∀(A:Option Addr) (q:Nat),x.thn.length≤12→PS.lowL (St.pL x.thn)→PS.fineL (St.pL x.thn)→Does Tryz.prog 118 [.slice A x.thn.length q, .func (.func 170) #[] #[]] [all (lsG encX encT A x.thn),glc] (fun v Γ'=>v= .bool true∧Γ'=[]))∧(∀(A:Option Addr) (q:Nat),x.els.length≤12→PS.lowL (St.pL x.els)→PS.fineL (St.pL x.els)→Does Tryz.prog 118 [.slice A x.els.length q, .func (.func 170) #[] #[]] [all (lsG encX encT A x.els),glc] (fun v Γ'=>v= .bool true∧Γ'=[])))(A:Option Addr)(q:Nat)(hl:l.length≤12)(hlow:PS.lowL (St.pL l))(hfin:PS.fineL (St.pL l)):
    Does Tryz.prog 118 [.slice A l.length q, .func (.func 170) #[] #[]] [all (lsG encX encT A l),glc] (fun v Γ'=>v= .bool true∧Γ'=[]):=by
 refine Does.enter Tryz.func118 rfl Tryz.ntmps118 rfl (fun w0=>?_)
 refine To.z 7 ?_
 refine To.one 0 rfl (ros encT A l) rfl (List.mem_cons_self ..) ?_
 refine To.z 7 ?_
 refine To.sub [(0, .slice A l.length q),(1, .func (.func 170) #[] #[]),(8,nv l.length),(9,nv 0)] ⟨rfl,rfl,rfl,rfl,trivial⟩ ?_
 refine To.loop (fun mz ρ Γ=>∃(k:Nat),ρ=[(0, .slice A l.length q),(1, .func (.func 170) #[] #[]),(8,nv l.length),(9,nv k)]∧Γ=[ros encT A l,all (lsG encX encT A l),glc]∧mz=l.length-k∧(k≤l.length)) (l.length-0) ⟨0,rfl,rfl,rfl,(Nat.zero_le _)⟩ ?_
 rintro mz _ _ ⟨k,rfl,rfl,rfl,hk⟩
 refine To.z 6 ?_
 refine To.cp rfl (fun c10=>?_) (fun c10=>?_)
 obtain⟨x,hx⟩:∃z0,l[k]?=some z0:=⟨l[k]'(by omega),gge _⟩
 obtain⟨hxk,⟨hxe,hxl⟩,⟨hxt,hxtl⟩,hxn,hxnl⟩:=St.low_at (St.lowL_at hlow (mog hx))
 have hxf:=St.fine_at (St.fineL_at hfin (mog hx))
 refine To.z 19 ?_
 refine To.elemR encT_ok (by decide) 0 rfl hx (To.part 2 rfl (lsG encX encT x.Ae x.els) (lsG_lax _ _ _ _) (fun c hc=>lg_mem hx c (St.els_kids x c hc)) (To.part 3 rfl (lsG encX encT x.At x.thn) (lsG_lax _ _ _ _) (fun c hc=>lg_mem hx c (St.thn_kids x c hc)) (To.part 4 rfl (lsF encX x.A x.exprs) (lsF_lax _ _ _) (fun c hc=>lg_mem hx c (St.exprs_kids x c hc)) ?_)))
 refine To.z 3 ?_
 refine To.cQ rfl rfl rfl (Ent.func (first:=[]) (captured:=[]) rfl rfl rfl ca170) (qsmall1_fn (some ⟨blk A,ofs A+k*6,none⟩) x hxf.1 hxe hxl) (by show[]++(owns (lsF encX x.A x.exprs)++(owns gl++[]))=[];rw[(lsF_lax encX x.A x.exprs).owns];rfl) (ocs (oca 3 rfl) (ocs (oca 0 rfl) (ocs (oca 6 rfl) (ocn _)))) ?_
 rintro _ _ ⟨rfl,rfl⟩
 refine⟨rfl,?_⟩
 refine To.z 7 ?_
 refine To.cQ rfl rfl rfl (Ent.fn rfl rfl ca118) ((ih x (mog hx)).1 x.At x.qt hxt hxtl hxf.2.1) (by show owns (lsG encX encT x.At x.thn)++(owns gl++[])=[];rw[(lsG_lax encX encT x.At x.thn).owns];rfl) (ocs (oca 1 rfl) (ocs (oca 6 rfl) (ocn _))) ?_
 rintro _ _ ⟨rfl,rfl⟩
 refine⟨rfl,?_⟩
 refine To.z 8 ?_
 refine To.cQ rfl rfl rfl (Ent.fn rfl rfl ca118) ((ih x (mog hx)).2 x.Ae x.qe hxn hxnl hxf.2.2) (by show owns (lsG encX encT x.Ae x.els)++(owns gl++[])=[];rw[(lsG_lax encX encT x.Ae x.els).owns];rfl) (ocs (oca 2 rfl) (ocs (oca 6 rfl) (ocn _))) ?_
 rintro _ _ ⟨rfl,rfl⟩
 refine⟨rfl,?_⟩
 refine To.z 13 ?_
 refine To.sub [(0, .slice A l.length q),(1, .func (.func 170) #[] #[]),(8,nv l.length),(9,nv ((k+1)))] ⟨rfl,rfl,rfl,rfl,trivial⟩ ?_
 refine To.del3 (To.del2 (To.del1 (To.del0 ?_)))
 refine To.ag (l.length-(k+1)) (by omega) ⟨k+1,rfl,rfl,rfl,(by omega)⟩
 refine To.z 11 ?_
 refine To.del2 (To.del1 (To.del0 (To.end1 (.inl rfl) Tryz.results118 rfl ?_)))
 exact⟨rfl,rfl⟩
theorem qesS_fn:∀l:List St,∀(A:Option Addr) (q:Nat),l.length≤12→PS.lowL (St.pL l)→PS.fineL (St.pL l)→Does Tryz.prog 118 [.slice A l.length q, .func (.func 170) #[] #[]] [all (lsG encX encT A l),glc] (fun v Γ'=>v= .bool true∧Γ'=[])
 |l,A,q,h1,h2,h3=>qesS_step l (fun x hx=>⟨qesS_fn x.thn,qesS_fn x.els⟩) A q h1 h2 h3
termination_by l=>SizeOf.sizeOf l
decreasing_by
 all_goals
  have h:=List.sizeOf_lt_of_mem hx
  have:SizeOf.sizeOf x.thn<SizeOf.sizeOf x∧SizeOf.sizeOf x.els<SizeOf.sizeOf x:=by cases x;simp only[St.mk.sizeOf_spec];omega
  omega
set_option maxHeartbeats 4000000 in
set_option maxRecDepth 100000 in
theorem qesN_step(l:List St)(ih:∀x∈l,(∀(A:Option Addr) (q:Nat),x.thn.length≤12→PS.lowL (St.pL x.thn)→PS.fineL (St.pL x.thn)→Does Tryz.prog 118 [.slice A x.thn.length q, .func (.func 119) #[] #[]] [all (lsG encX encT A x.thn),glc] (fun v Γ'=>v= .bool true∧Γ'=[]))∧(∀(A:Option Addr) (q:Nat),x.els.length≤12→PS.lowL (St.pL x.els)→PS.fineL (St.pL x.els)→Does Tryz.prog 118 [.slice A x.els.length q, .func (.func 119) #[] #[]] [all (lsG encX encT A x.els),glc] (fun v Γ'=>v= .bool true∧Γ'=[])))(A:Option Addr)(q:Nat)(hl:l.length≤12)(hlow:PS.lowL (St.pL l))(hfin:PS.fineL (St.pL l)):
    Does Tryz.prog 118 [.slice A l.length q, .func (.func 119) #[] #[]] [all (lsG encX encT A l),glc] (fun v Γ'=>v= .bool true∧Γ'=[]):=by
 refine Does.enter Tryz.func118 rfl Tryz.ntmps118 rfl (fun w0=>?_)
 refine To.z 7 ?_
 refine To.one 0 rfl (ros encT A l) rfl (List.mem_cons_self ..) ?_
 refine To.z 7 ?_
 refine To.sub [(0, .slice A l.length q),(1, .func (.func 119) #[] #[]),(8,nv l.length),(9,nv 0)] ⟨rfl,rfl,rfl,rfl,trivial⟩ ?_
 refine To.loop (fun mz ρ Γ=>∃(k:Nat),ρ=[(0, .slice A l.length q),(1, .func (.func 119) #[] #[]),(8,nv l.length),(9,nv k)]∧Γ=[ros encT A l,all (lsG encX encT A l),glc]∧mz=l.length-k∧(k≤l.length)) (l.length-0) ⟨0,rfl,rfl,rfl,(Nat.zero_le _)⟩ ?_
 rintro mz _ _ ⟨k,rfl,rfl,rfl,hk⟩
 refine To.z 6 ?_
 refine To.cp rfl (fun c10=>?_) (fun c10=>?_)
 obtain⟨x,hx⟩:∃z0,l[k]?=some z0:=⟨l[k]'(by omega),gge _⟩
 obtain⟨hxk,⟨hxe,hxl⟩,⟨hxt,hxtl⟩,hxn,hxnl⟩:=St.low_at (St.lowL_at hlow (mog hx))
 have hxf:=St.fine_at (St.fineL_at hfin (mog hx))
 refine To.z 19 ?_
 refine To.elemR encT_ok (by decide) 0 rfl hx (To.part 2 rfl (lsG encX encT x.Ae x.els) (lsG_lax _ _ _ _) (fun c hc=>lg_mem hx c (St.els_kids x c hc)) (To.part 3 rfl (lsG encX encT x.At x.thn) (lsG_lax _ _ _ _) (fun c hc=>lg_mem hx c (St.thn_kids x c hc)) (To.part 4 rfl (lsF encX x.A x.exprs) (lsF_lax _ _ _) (fun c hc=>lg_mem hx c (St.exprs_kids x c hc)) ?_)))
 refine To.z 3 ?_
 refine To.cQ rfl rfl rfl (Ent.func (first:=[]) (captured:=[]) rfl rfl rfl ca119) (qnamedS_fn (some ⟨blk A,ofs A+k*6,none⟩) x hxf.1 hxe hxl) (by show[]++(owns (lsF encX x.A x.exprs)++(owns gl++[]))=[];rw[(lsF_lax encX x.A x.exprs).owns];rfl) (ocs (oca 3 rfl) (ocs (oca 0 rfl) (ocs (oca 6 rfl) (ocn _)))) ?_
 rintro _ _ ⟨rfl,rfl⟩
 refine⟨rfl,?_⟩
 refine To.z 7 ?_
 refine To.cQ rfl rfl rfl (Ent.fn rfl rfl ca118) ((ih x (mog hx)).1 x.At x.qt hxt hxtl hxf.2.1) (by show owns (lsG encX encT x.At x.thn)++(owns gl++[])=[];rw[(lsG_lax encX encT x.At x.thn).owns];rfl) (ocs (oca 1 rfl) (ocs (oca 6 rfl) (ocn _))) ?_
 rintro _ _ ⟨rfl,rfl⟩
 refine⟨rfl,?_⟩
 refine To.z 8 ?_
 refine To.cQ rfl rfl rfl (Ent.fn rfl rfl ca118) ((ih x (mog hx)).2 x.Ae x.qe hxn hxnl hxf.2.2) (by show owns (lsG encX encT x.Ae x.els)++(owns gl++[])=[];rw[(lsG_lax encX encT x.Ae x.els).owns];rfl) (ocs (oca 2 rfl) (ocs (oca 6 rfl) (ocn _))) ?_
 rintro _ _ ⟨rfl,rfl⟩
 refine⟨rfl,?_⟩
 refine To.z 13 ?_
 refine To.sub [(0, .slice A l.length q),(1, .func (.func 119) #[] #[]),(8,nv l.length),(9,nv ((k+1)))] ⟨rfl,rfl,rfl,rfl,trivial⟩ ?_
 refine To.del3 (To.del2 (To.del1 (To.del0 ?_)))
 refine To.ag (l.length-(k+1)) (by omega) ⟨k+1,rfl,rfl,rfl,(by omega)⟩
 refine To.z 11 ?_
 refine To.del2 (To.del1 (To.del0 (To.end1 (.inl rfl) Tryz.results118 rfl ?_)))
 exact⟨rfl,rfl⟩
theorem qesN_fn:∀l:List St,∀(A:Option Addr) (q:Nat),l.length≤12→PS.lowL (St.pL l)→PS.fineL (St.pL l)→Does Tryz.prog 118 [.slice A l.length q, .func (.func 119) #[] #[]] [all (lsG encX encT A l),glc] (fun v Γ'=>v= .bool true∧Γ'=[])
 |l,A,q,h1,h2,h3=>qesN_step l (fun x hx=>⟨qesN_fn x.thn,qesN_fn x.els⟩) A q h1 h2 h3
termination_by l=>SizeOf.sizeOf l
decreasing_by
 all_goals
  have h:=List.sizeOf_lt_of_mem hx
  have:SizeOf.sizeOf x.thn<SizeOf.sizeOf x∧SizeOf.sizeOf x.els<SizeOf.sizeOf x:=by cases x;simp only[St.mk.sizeOf_spec];omega
  omega
set_option maxHeartbeats 4000000 in
set_option maxRecDepth 100000 in
theorem qesF_step(l:List St)(ih:∀x∈l,(∀(A:Option Addr) (q:Nat),x.thn.length≤12→PS.lowL (St.pL x.thn)→PS.fineL (St.pL x.thn)→Does Tryz.prog 118 [.slice A x.thn.length q, .func (.func 122) #[] #[]] [all (lsG encX encT A x.thn),glc] (fun v Γ'=>v= .bool true∧Γ'=[]))∧(∀(A:Option Addr) (q:Nat),x.els.length≤12→PS.lowL (St.pL x.els)→PS.fineL (St.pL x.els)→Does Tryz.prog 118 [.slice A x.els.length q, .func (.func 122) #[] #[]] [all (lsG encX encT A x.els),glc] (fun v Γ'=>v= .bool true∧Γ'=[])))(A:Option Addr)(q:Nat)(hl:l.length≤12)(hlow:PS.lowL (St.pL l))(hfin:PS.fineL (St.pL l)):
    Does Tryz.prog 118 [.slice A l.length q, .func (.func 122) #[] #[]] [all (lsG encX encT A l),glc] (fun v Γ'=>v= .bool true∧Γ'=[]):=by
 refine Does.enter Tryz.func118 rfl Tryz.ntmps118 rfl (fun w0=>?_)
 refine To.z 7 ?_
 refine To.one 0 rfl (ros encT A l) rfl (List.mem_cons_self ..) ?_
 refine To.z 7 ?_
 refine To.sub [(0, .slice A l.length q),(1, .func (.func 122) #[] #[]),(8,nv l.length),(9,nv 0)] ⟨rfl,rfl,rfl,rfl,trivial⟩ ?_
 refine To.loop (fun mz ρ Γ=>∃(k:Nat),ρ=[(0, .slice A l.length q),(1, .func (.func 122) #[] #[]),(8,nv l.length),(9,nv k)]∧Γ=[ros encT A l,all (lsG encX encT A l),glc]∧mz=l.length-k∧(k≤l.length)) (l.length-0) ⟨0,rfl,rfl,rfl,(Nat.zero_le _)⟩ ?_
 rintro mz _ _ ⟨k,rfl,rfl,rfl,hk⟩
 refine To.z 6 ?_
 refine To.cp rfl (fun c10=>?_) (fun c10=>?_)
 obtain⟨x,hx⟩:∃z0,l[k]?=some z0:=⟨l[k]'(by omega),gge _⟩
 obtain⟨hxk,⟨hxe,hxl⟩,⟨hxt,hxtl⟩,hxn,hxnl⟩:=St.low_at (St.lowL_at hlow (mog hx))
 have hxf:=St.fine_at (St.fineL_at hfin (mog hx))
 refine To.z 19 ?_
 refine To.elemR encT_ok (by decide) 0 rfl hx (To.part 2 rfl (lsG encX encT x.Ae x.els) (lsG_lax _ _ _ _) (fun c hc=>lg_mem hx c (St.els_kids x c hc)) (To.part 3 rfl (lsG encX encT x.At x.thn) (lsG_lax _ _ _ _) (fun c hc=>lg_mem hx c (St.thn_kids x c hc)) (To.part 4 rfl (lsF encX x.A x.exprs) (lsF_lax _ _ _) (fun c hc=>lg_mem hx c (St.exprs_kids x c hc)) ?_)))
 refine To.z 3 ?_
 refine To.cQ rfl rfl rfl (Ent.func (first:=[]) (captured:=[]) rfl rfl rfl ca122) (qformedS_fn (some ⟨blk A,ofs A+k*6,none⟩) x hxf.1 hxe hxl) (by show[]++(owns (lsF encX x.A x.exprs)++(owns gl++[]))=[];rw[(lsF_lax encX x.A x.exprs).owns];rfl) (ocs (oca 3 rfl) (ocs (oca 0 rfl) (ocs (oca 6 rfl) (ocn _)))) ?_
 rintro _ _ ⟨rfl,rfl⟩
 refine⟨rfl,?_⟩
 refine To.z 7 ?_
 refine To.cQ rfl rfl rfl (Ent.fn rfl rfl ca118) ((ih x (mog hx)).1 x.At x.qt hxt hxtl hxf.2.1) (by show owns (lsG encX encT x.At x.thn)++(owns gl++[])=[];rw[(lsG_lax encX encT x.At x.thn).owns];rfl) (ocs (oca 1 rfl) (ocs (oca 6 rfl) (ocn _))) ?_
 rintro _ _ ⟨rfl,rfl⟩
 refine⟨rfl,?_⟩
 refine To.z 8 ?_
 refine To.cQ rfl rfl rfl (Ent.fn rfl rfl ca118) ((ih x (mog hx)).2 x.Ae x.qe hxn hxnl hxf.2.2) (by show owns (lsG encX encT x.Ae x.els)++(owns gl++[])=[];rw[(lsG_lax encX encT x.Ae x.els).owns];rfl) (ocs (oca 2 rfl) (ocs (oca 6 rfl) (ocn _))) ?_
 rintro _ _ ⟨rfl,rfl⟩
 refine⟨rfl,?_⟩
 refine To.z 13 ?_
 refine To.sub [(0, .slice A l.length q),(1, .func (.func 122) #[] #[]),(8,nv l.length),(9,nv ((k+1)))] ⟨rfl,rfl,rfl,rfl,trivial⟩ ?_
 refine To.del3 (To.del2 (To.del1 (To.del0 ?_)))
 refine To.ag (l.length-(k+1)) (by omega) ⟨k+1,rfl,rfl,rfl,(by omega)⟩
 refine To.z 11 ?_
 refine To.del2 (To.del1 (To.del0 (To.end1 (.inl rfl) Tryz.results118 rfl ?_)))
 exact⟨rfl,rfl⟩
theorem qesF_fn:∀l:List St,∀(A:Option Addr) (q:Nat),l.length≤12→PS.lowL (St.pL l)→PS.fineL (St.pL l)→Does Tryz.prog 118 [.slice A l.length q, .func (.func 122) #[] #[]] [all (lsG encX encT A l),glc] (fun v Γ'=>v= .bool true∧Γ'=[])
 |l,A,q,h1,h2,h3=>qesF_step l (fun x hx=>⟨qesF_fn x.thn,qesF_fn x.els⟩) A q h1 h2 h3
termination_by l=>SizeOf.sizeOf l
decreasing_by
 all_goals
  have h:=List.sizeOf_lt_of_mem hx
  have:SizeOf.sizeOf x.thn<SizeOf.sizeOf x∧SizeOf.sizeOf x.els<SizeOf.sizeOf x:=by cases x;simp only[St.mk.sizeOf_spec];omega
  omega
end Go.Proofs.YtihgdnjkofpgiaaGreatDoor
