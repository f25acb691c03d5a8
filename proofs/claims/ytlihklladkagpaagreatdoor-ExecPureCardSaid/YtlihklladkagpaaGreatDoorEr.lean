/- Own text. -/
import Derived.Test.YtlihklladkagpaaGreatDoorEq
import Derived.Test.YtlihklladkagpaaGreatDoorXk
set_option maxHeartbeats 8000000
set_option maxRecDepth 100000
set_option linter.unusedVariables false
set_option linter.unusedSimpArgs false
namespace Go.Proofs.YtlihklladkagpaaGreatDoor
open Go.Proofs.Tryz
open Go.RowKit Go.Flow Go.Mem Go.Sep Go.In
structure SameF(s t:Sm):Prop where
 code:s.code=t.code
 args:s.args=t.args
 now:s.now=t.now
 flags:s.flags=t.flags
 dsk:s.dsk=t.dsk
structure DkOk(s:Sm)(d:Dv):Prop where
 n:d.disks=((dkN d.effs:Nat):Int)
 f:∀i y,d.effs[i]?=some y→(y.k=3∨y.k=4)→y.f=decide (s.dsk+((dkN (d.effs.take i):Nat):Int)∈s.fail)
theorem DkOk.push{s:Sm}{d e:Dv}{y:EfV}(h:DkOk s d)(he:e.effs=d.effs++[y])(hn:e.disks=d.disks+(if y.k=3∨y.k=4 then 1 else 0))(hy:(y.k=3∨y.k=4)→y.f=decide (s.dsk+d.disks∈s.fail)):DkOk s e:=by
 refine⟨?_,fun i z hz hk=>?_⟩
 ·rw[hn,he,dkN_snoc,h.n];split<;>omega
 · rw[he]at hz⊢
   by_cases hl:i<d.effs.length
   · rw[List.getElem?_append_left hl]at hz
     rw[List.take_append_of_le_length om]
     exact h.f i z hz hk
   · have hi:=(List.getElem?_eq_some_iff.1 hz).1
     rw[lap]at hi
     have hi:i<d.effs.length+1:=hi
     obtain rfl:i=d.effs.length:=om
     rw[List.getElem?_append_right (Nat.le_refl _),Nat.sub_self]at hz
     obtain rfl:y=z:=Option.some.inj hz
     rw[List.take_left' rfl,hy hk,h.n]
theorem DkOk.keep{s:Sm}{d e:Dv}(h:DkOk s d)(he:e.effs=d.effs)(hn:e.disks=d.disks):DkOk s e:=⟨by rw[hn,he];exact h.n,by rw[he];exact h.f⟩
theorem Dm.sx_val{d e:Dm}(h:d.val=e.val):d.sx.val=e.sx.val:=by
 have h1:d.vars=e.vars:=congrArg Dv.vars h
 have h2:d.tabs.map Tb.l=e.tabs.map Tb.l:=congrArg Dv.tabs h
 have h3:d.dk.l=e.dk.l:=congrArg Dv.disk h
 show(d.vars,d.tabs.map Tb.l,d.dk.l)=(e.vars,e.tabs.map Tb.l,e.dk.l)
 rw[h1,h2,h3]
theorem Ef.val_at{d e:Dm}(h:d.val=e.val){i:Nat}{x y:Ef}(hx:d.effs[i]?=some x)(hy:e.effs[i]?=some y):(y.k=x.k∧y.to=x.to∧y.h=x.h∧y.d=x.d)∧y.key=x.key∧y.v=x.v∧y.f=x.f∧y.args=x.args:=by
 have h1:d.effs.map Ef.val=e.effs.map Ef.val:=congrArg Dv.effs h
 have h2:(d.effs.map Ef.val)[i]?=some y.val:=by rw[h1,List.getElem?_map,hy];rfl
 rw[List.getElem?_map,hx]at h2
 have h3:x.val=y.val:=Option.some.inj h2
 unfold Ef.val at h3
 simp only[EfV.mk.injEq]at h3
 obtain⟨a,b,c,d',e',f,g,k⟩:=h3
 exact⟨⟨a.symm,b.symm,c.symm,d'.symm⟩,e'.symm,f.symm,g.symm,k.symm⟩
theorem alike_fn(d e:Dm)(hv:d.val=e.val)(hsm:d.sx.small)(hea:∀x∈d.effs,x.args.length≤1000000000000)(hel:d.effs.length≤1000000000):
    Dz 20 [.agg #[vs d.Av d.vars d.qv,vs d.At d.tabs d.qt,vs d.dk.A d.dk.l d.dk.q,vs d.Ae d.effs d.qe, .int .i64 d.cost], .agg #[vs e.Av e.vars e.qv,vs e.At e.tabs e.qt,vs e.dk.A e.dk.l e.dk.q,vs e.Ae e.effs e.qe, .int .i64 e.cost]] [ros encI d.Av d.vars,ros Tb.cells d.At d.tabs,rosS encEn (d.tabs.map Tb.ar),ros encEn d.dk.A d.dk.l,ros Ef.cells d.Ae d.effs,rosS encI (d.effs.map Ef.ar),ros encI e.Av e.vars,ros Tb.cells e.At e.tabs,rosS encEn (e.tabs.map Tb.ar),ros encEn e.dk.A e.dk.l,ros Ef.cells e.Ae e.effs,rosS encI (e.effs.map Ef.ar)] (fun v _=>v= .bool true):=by
 have hcost:d.cost=e.cost:=congrArg Dv.cost hv
 have hlen:d.effs.length=e.effs.length:=by have h1:d.effs.map Ef.val=e.effs.map Ef.val:=congrArg Dv.effs hv;simpa using congrArg List.length h1
 refine Does.en func20 ntmps20 fun w0=>?_
 refine Js (To.g (Jbo fun b2=>?_))
 refine Jbo fun b3=>?_
 refine Jz 5 ?_
 rw[←hcost]
 refine Jz 5 ?_
 refine Jr (Rd.as (v':= .bool false) (congrArg Value.bool (decide_eq_false (fun h=>h rfl))) (Rd.neq rfl rfl rfl)) ?_
 refine Jz 9 ?_
 refine JgP ?_ ?_<;>intro g22
 exact absurd g22 om
 refine Jz 1 ?_
 refine Jr (Rd.lS (i:=1) (us:=[vs d.Av d.vars d.qv,vs d.At d.tabs d.qt,vs d.dk.A d.dk.l d.dk.q]) rfl rfl r56 rfl (box_gives (n:=3) rfl) rfl) ?_
 refine Jz 1 ?_
 refine Jr (Rd.lS (i:=0) (us:=[vs e.Av e.vars e.qv,vs e.At e.tabs e.qt,vs e.dk.A e.dk.l e.dk.q]) rfl rfl r56 rfl (box_gives (n:=3) rfl) rfl) ?_
 refine Jvf ((xeq_fn d.sx e.sx hsm).mono (R':=fun v _=>v= .bool true) (fun v _ h=>by rw[h];exact congrArg Value.bool (decide_eq_true (Dm.sx_val hv)))) rfl (ocs (oca 2 rfl) (ocs (oca 3 rfl) (ocs (oca 4 rfl) (ocs (oca 5 rfl) (ocs (oca 8 rfl) (ocs (oca 9 rfl) (ocs (oca 10 rfl) (ocs (oca 11 rfl) (ocn _))))))))) ?_
 refine Jz 17 ?_
 refine Jup1 (JloopS (fun mz ρ Γ=>∃(i:Nat),ρ=[(2,pv b2),(3,pv b3),(31,vs d.Ae d.effs d.qe),(32,nv d.effs.length),(33,nv i)]∧Γ=[box b2 [vs d.Av d.vars d.qv,vs d.At d.tabs d.qt,vs d.dk.A d.dk.l d.dk.q,vs d.Ae d.effs d.qe, .int .i64 d.cost] 70,box b3 [vs e.Av e.vars e.qv,vs e.At e.tabs e.qt,vs e.dk.A e.dk.l e.dk.q,vs e.Ae e.effs e.qe, .int .i64 d.cost] 70,ros encI d.Av d.vars,ros Tb.cells d.At d.tabs,rosS encEn (d.tabs.map Tb.ar),ros encEn d.dk.A d.dk.l,ros Ef.cells d.Ae d.effs,rosS encI (d.effs.map Ef.ar),ros encI e.Av e.vars,ros Tb.cells e.At e.tabs,rosS encEn (e.tabs.map Tb.ar),ros encEn e.dk.A e.dk.l,ros Ef.cells e.Ae e.effs,rosS encI (e.effs.map Ef.ar)]∧mz=d.effs.length-i∧(i≤d.effs.length)) (d.effs.length-0) ⟨⟨0,rfl,rfl,rfl,(Nat.zero_le _)⟩,sb⟩ ?_)
 rintro mz _ _ ⟨i,rfl,rfl,rfl,hi⟩
 refine Jz 6 ?_
 refine Jcp rfl ?_ ?_<;>intro k34
 refine Jz 5 ?_
 obtain⟨x,hx⟩:=exg d.effs i om
 obtain⟨y,hy⟩:=exg e.effs i om
 obtain⟨⟨ek,eto,eh,ed⟩,ekey,ev_,ef,eargs⟩:=Ef.val_at hv hx hy
 refine Jz 4 ?_
 refine Jal fun b6=>?_
 refine Jz 11 ?_
 refine Jal fun b7=>?_
 refine Jz 4 ?_
 refine Jas [box b7 [.int .u8 y.k, .int .i64 y.to, .int .i64 y.h, .int .i64 y.d, .int .i64 y.key, .int .i64 y.v, .bool y.f,vs y.A y.args y.q] 86,box b6 [.int .u8 x.k, .int .i64 x.to, .int .i64 x.h, .int .i64 x.d, .int .i64 x.key, .int .i64 x.v, .bool x.f,vs x.A x.args x.q] 86,box b2 [vs d.Av d.vars d.qv,vs d.At d.tabs d.qt,vs d.dk.A d.dk.l d.dk.q,vs d.Ae d.effs d.qe, .int .i64 d.cost] 70,box b3 [vs e.Av e.vars e.qv,vs e.At e.tabs e.qt,vs e.dk.A e.dk.l e.dk.q,vs e.Ae e.effs e.qe, .int .i64 d.cost] 70,ros encI d.Av d.vars,ros Tb.cells d.At d.tabs,rosS encEn (d.tabs.map Tb.ar),ros encEn d.dk.A d.dk.l,ros Ef.cells d.Ae d.effs,rosS encI (d.effs.map Ef.ar),ros encI e.Av e.vars,ros Tb.cells e.At e.tabs,rosS encEn (e.tabs.map Tb.ar),ros encEn e.dk.A e.dk.l,ros Ef.cells e.Ae e.effs,rosS encI (e.effs.map Ef.ar)] rfl ?_
 rw[ek,eto,eh,ed,ekey,ev_,ef,eargs]
 refine Jz 5 ?_
 refine Jr (Rd.as (v':= .bool false) (congrArg Value.bool (decide_eq_false (fun h=>h rfl))) (Rd.neq rfl rfl rfl)) ?_
 refine Jz 5 ?_
 refine Jr (Rd.as (v':= .bool false) (congrArg Value.bool (decide_eq_false (fun h=>h rfl))) (Rd.neq rfl rfl rfl)) ?_
 refine Jz 6 ?_
 refine Jr (Rd.as (v':= .bool false) (congrArg Value.bool (decide_eq_false (fun h=>h rfl))) (Rd.neq rfl rfl rfl)) ?_
 refine Jz 6 ?_
 refine Jr (Rd.as (v':= .bool false) (congrArg Value.bool (decide_eq_false (fun h=>h rfl))) (Rd.neq rfl rfl rfl)) ?_
 refine Jz 6 ?_
 refine Jr (Rd.as (v':= .bool false) (congrArg Value.bool (decide_eq_false (fun h=>h rfl))) (Rd.neq rfl rfl rfl)) ?_
 refine Jz 6 ?_
 refine Jr (Rd.as (v':= .bool false) (congrArg Value.bool (decide_eq_false (fun h=>h rfl))) (Rd.neq rfl rfl rfl)) ?_
 refine Jz 6 ?_
 refine Jr (Rd.as (v':= .bool false) (congrArg Value.bool (by first|rfl|(rw[beq_self_eq_true];rfl))) (Rd.neqB rfl underlying4 rfl rfl)) ?_
 refine Jz 6 ?_
 refine Jvf ((sameArgs_fn x.A y.A x.q y.q x.args x.args (hea x (mog hx))).mono (R':=fun v _=>v= .bool true) (fun v _ h=>by rw[h];exact congrArg Value.bool (decide_eq_true rfl))) rfl (ocs (oks_S 9 rfl (mem_at hx Ef.ar)) (ocs ((fun w hw=>by have h0:=(oks_S 15 rfl (mem_at hy Ef.ar)) w hw;rw[eargs]at h0;exact h0)) (ocn _))) ?_
 refine Jz 3 ?_
 refine Jsub [(2,pv b2),(3,pv b3),(31,vs d.Ae d.effs d.qe),(32,nv d.effs.length),(33,nv i),(34, .bool (decide (((i:Nat):Int)<((d.effs.length:Nat):Int)))),(6,pv b6),(5,nv i),(7,pv b7),(97, .bool false)] sb (Jz 10 ?_)
 refine Jdel1 (Jdel0 (JagS (d.effs.length-(i+1)) om ⟨⟨i+1,rfl,rfl,rfl,om⟩,sb⟩))
 refine Jz 11 ?_
 refine Je1 results20 ?_
 rfl
def EfOk(e:EfV):Prop:=(0≤e.k∧e.k≤255)∧e.args.length≤1000
structure FinD(mv nt:Nat)(d:Dv):Prop where
 effs:∀e∈d.effs,EfOk e
 vars:d.vars.length=mv
 tabs:d.tabs.length=nt
 good:∀t∈d.tabs,Good t
 disk:Good d.disk
theorem fin_snoc{l:List EfV}{e:EfV}(h:∀e∈l,EfOk e)(he:EfOk e):∀e'∈l++[e],EfOk e':=fun e' h'=>by
 rcases List.mem_append.1 h' with h1|h1
 ·exact h e' h1
 ·rw[List.mem_singleton.1 h1];exact he
theorem FinD.stop{mv nt:Nat}{d:Dv}(h:FinD mv nt d):FinD mv nt (stopV d):=⟨fin_snoc h.effs ⟨by decide,by simp[faultE]⟩,h.vars,h.tabs,h.good,h.disk⟩
theorem FinD.step{mv nt:Nat}{s:Sm}{x:Ins}{d:Dv}(h:FinD mv nt d)(hf:Fit s x d):FinD mv nt (stepV s x d):=by
 by_cases h1:((x.op:Nat):Int)=30∨((x.op:Nat):Int)=31
 · rw[stepV_send h1]
   have hn:=hf.sends h1
   have hl:(d.stack.drop (d.stack.length-x.n.toNat)).length≤1000:=by rw[List.length_drop];omega
   by_cases h8:d.sends=8
   ·rw[sendV_8 h8];exact⟨h.effs,h.vars,h.tabs,h.good,h.disk⟩
   · by_cases h31:((x.op:Nat):Int)=31
     ·rw[sendV_31 h8 h31];exact⟨fin_snoc h.effs ⟨by show(0:Int)≤2∧(2:Int)≤255;decide,hl⟩,h.vars,h.tabs,h.good,h.disk⟩
     ·rw[sendV_30 h8 h31];exact⟨fin_snoc h.effs ⟨by show(0:Int)≤1∧(1:Int)≤255;decide,hl⟩,h.vars,h.tabs,h.good,h.disk⟩
 by_cases h2:((x.op:Nat):Int)=32∨((x.op:Nat):Int)=33
 · rw[stepV_disk h2]
   obtain⟨P,_⟩:=shape_disk (s:=s) h2 hf.pops
   refine⟨?_,P.vars.trans h.vars,P.tabs.trans h.tabs,P.good h.good,P.disk h.disk⟩
   by_cases h32:((x.op:Nat):Int)=32
   ·rw[diskV_32 h32];exact fin_snoc h.effs ⟨by show(0:Int)≤3∧(3:Int)≤255;decide,by simp⟩
   · by_cases hb:s.dsk+d.disks∈s.fail
     ·rw[diskV_33b h32 hb];exact fin_snoc h.effs ⟨by show(0:Int)≤4∧(4:Int)≤255;decide,by simp⟩
     ·rw[diskV_33g h32 hb];exact fin_snoc h.effs ⟨by show(0:Int)≤4∧(4:Int)≤255;decide,by simp⟩
 by_cases h3:((x.op:Nat):Int)=6∨((x.op:Nat):Int)=7∨((x.op:Nat):Int)=8∨((x.op:Nat):Int)=25∨((x.op:Nat):Int)=26
 · rw[stepV_table h3]
   obtain⟨P,_⟩:=shape_table h3 hf.pops
   exact⟨by rw[tableV_effs];exact h.effs,P.vars.trans h.vars,P.tabs.trans h.tabs,P.good h.good,P.disk h.disk⟩
 have hs:Simple x:=by unfold Simple;omega
 obtain⟨_,p2,p3,_,_⟩:=step_shape (s:=s) (d:=d) hs hf.ops hf.pops
 obtain⟨k1,k2,_,_⟩:=simple_keeps (s:=s) (d:=d) hs
 exact⟨by rw[p3];exact h.effs,p2.trans h.vars,by rw[k1];exact h.tabs,by rw[k1];exact h.good,by rw[k2];exact h.disk⟩
theorem run_finD{s:Sm}{I:Nat→Dv→Prop}(hR:Runs2 s I){mv nt:Nat}:∀(f k:Nat) (d:Dv),k+f=1048576→I k d→FinD mv nt d→FinD mv nt (runV s f d)∧(runV s f d).effs.length≤2000002
 | 0,k,d,hk,hI,h=>by
   have he:=hR.effs _ _ hI
   rw[runV]
   split
   · refine⟨FinD.stop ⟨h.effs,h.vars,h.tabs,h.good,h.disk⟩,?_⟩
     show(d.effs++[faultE]).length≤2000002
     rw[lap];simp only[lc1,ln0];omega
   ·exact⟨h,by omega⟩
 | f + 1,k,d,hk,hI,h=>by
   have he:=hR.effs _ _ hI
   have hn:=hR.next _ _ hI
   by_cases hlt:d.next<s.code.length
   · obtain⟨x,hx⟩:∃x,s.code[d.next.toNat]?=some x:=⟨s.code[d.next.toNat]'om,gge _⟩
     rw[runV_step hlt hx]
     obtain⟨f1,_⟩:=hR.fit _ _ x hI hx
     have h2:FinD mv nt {d with next:=d.next+1}:=⟨h.effs,h.vars,h.tabs,h.good,h.disk⟩
     have h3:=h2.step f1
     have h4:=stepV_effs s x {d with next:=d.next+1}
     by_cases hf:(stepV s x {d with next:=d.next+1}).fault=true
     · rw[if_pos hf]
       refine⟨h3.stop,?_⟩
       show((stepV s x {d with next:=d.next+1}).effs++[faultE]).length≤2000002
       have h5:({d with next:=d.next+1}:Dv).effs.length≤2000000:=he
       rw[lap];simp only[lc1,ln0];omega
     · rw[if_neg hf]
       exact run_finD hR f (k+1) _ om (hR.step _ _ x hI om hx (by simpa using hf)) h3
   ·rw[runV_end hlt];exact⟨h,by omega⟩
theorem run_smallD{c:Cl}{l:List Ins}{pr st:Int}{a:Sx}{d:Dm}{mv nt:Nat}(hnv:mv≤1000)(hnt:nt≤16)(hv0:verifyV pr st l=0)(hpr:(c.args.length:Int)=pr)(href:∀x∈l,referB x a.vars.length a.tabs.length c.flags.length=true)(hfl:c.fail.length≤12)(hdsk:0≤c.dsk∧c.dsk≤1000000000)
    (hg:a.vars.length=mv∧a.tabs.length=nt∧(∀y∈a.tabs,Good y.l)∧Good a.dk.l) (hv:d.val=runV (c.sm l) 1048576 (d0G a.vars (a.tabs.map Tb.l) a.dk.l)):d.sx.small∧(∀x∈d.effs,x.args.length≤1000000000000)∧d.effs.length≤2000002:=by
 obtain⟨g1,g2,g3,g4⟩:=hg
 have hgt:∀t∈a.tabs.map Tb.l,Good t:=fun t ht=>by obtain⟨y,hy,rfl⟩:=List.mem_map.1 ht;exact g3 y hy
 obtain⟨I,hR,hI⟩:=all_run (s:=c.sm l) (V:=a.vars) (tb:=a.tabs.map Tb.l) (dk:=a.dk.l) hv0 (fun x hx=>by rw[List.length_map];exact href x hx) hpr (isortI_asc _) (by show(isort cmpI c.fail).length≤1000000;rw[isort_len];omega) hdsk hgt g4
 obtain⟨F,hl⟩:=run_finD hR (mv:=mv) (nt:=nt) 1048576 0 _ om hI ⟨by simp,g1,by show(a.tabs.map Tb.l).length=nt;rw[List.length_map];exact g2,hgt,g4⟩
 rw[←hv]at F hl
 have e1:d.effs.length=d.val.effs.length:=by show _=(d.effs.map Ef.val).length;rw[List.length_map]
 have e2:∀x∈d.effs,EfOk x.val:=fun x hx=>F.effs _ (List.mem_map.2 ⟨x,hx,rfl⟩)
 refine⟨⟨?_,?_,fun y hy=>?_,?_⟩,fun x hx=>Nat.le_trans (e2 x hx).2 (by decide),by omega⟩
 · have:d.vars.length=mv:=F.vars
   show d.vars.length≤1000000000000;omega
 · have:(d.tabs.map Tb.l).length=nt:=F.tabs
   rw[List.length_map]at this
   show d.tabs.length≤1000000000000;omega
 ·have:=(F.good y.l (List.mem_map.2 ⟨y,hy,rfl⟩)).len;omega
 · have:Good d.dk.l:=F.disk
   have:=this.len
   show d.dk.l.length≤1000000000000;omega
end Go.Proofs.YtlihklladkagpaaGreatDoor
