/- Own text. -/
import Derived.Test.YtlihklladkagpaaGreatDoorEq
set_option maxHeartbeats 8000000
set_option maxRecDepth 100000
set_option linter.unusedVariables false
set_option linter.unusedSimpArgs false
namespace Go.Proofs.YtlihklladkagpaaGreatDoor
open Go.Proofs.Tryz
open Go.RowKit Go.Flow Go.Mem Go.Sep Go.In
theorem stV_good{a:Sx}{w:Wx}{mv nt:Nat}(h:a.val=stV w mv nt)(hnt:nt≤16):a.vars.length=mv∧a.tabs.length=nt∧(∀y∈a.tabs,Good y.l)∧Good a.dk.l:=by
 unfold Sx.val stV at h
 simp only[Prod.mk.injEq]at h
 obtain⟨h1,h2,h3⟩:=h
 refine⟨by rw[h1,pad_len],?_,fun y hy=>?_,?_⟩
 · have:=congrArg List.length h2
   rwa[List.length_map,tabs_len]at this
 · have h4:y.l∈a.tabs.map Tb.l:=List.mem_map.2 ⟨y,hy,rfl⟩
   rw[h2]at h4
   obtain⟨i,_,h5⟩:=List.mem_map.1 h4
   rw[←h5]
   exact Good.of (by rw[List.length_take];omega)
 ·rw[h3];exact Good.of (by rw[List.length_take];omega)
theorem dkE_snoc{l:List Ef}{i:Nat}{x:Ef}(h:l[i]?=some x):dkN ((l.take (i+1)).map Ef.val)=dkN ((l.take i).map Ef.val)+(if x.k=3∨x.k=4 then 1 else 0):=by
 rw[take_of_get h,List.map_append];exact dkN_snoc _ _
theorem disks_fn(A:OA)(q:Nat)(l:List Ef)(hl:l.length≤100000000):
    Dz 19 [vs A l q] [ros Ef.cells A l] (fun v _=>v=nv (dkN (l.map Ef.val))):=by
 refine Does.en func19 ntmps19 fun w0=>?_
 refine Jz 19 ?_
 refine JloopS (fun mz ρ Γ=>∃(n:Nat) (i:Nat),ρ=[(3,nv n),(6,vs A l q),(7,nv l.length),(8,nv i)]∧Γ=[ros Ef.cells A l]∧mz=l.length-i∧(i≤l.length)∧(n=dkN ((l.take i).map Ef.val))) (l.length-0) ⟨⟨0,0,rfl,rfl,rfl,(Nat.zero_le _),rfl⟩,sb⟩ ?_
 rintro mz _ _ ⟨n,i,rfl,rfl,rfl,hi,hn⟩
 have hni:n≤i:=by rw[hn];unfold dkN;refine Nat.le_trans (List.length_filter_le _ _) ?_;rw[List.length_map,List.length_take];omega
 refine Jz 6 ?_
 refine Jcp rfl ?_ ?_<;>intro k9
 obtain⟨x,hx⟩:=exg l i om
 refine Jz 8 ?_
 refine Jal fun b5=>?_
 refine Jz 8 ?_
 refine JgP ?_ ?_<;>intro g15
 refine Jz 19 ?_
 refine Jdel0 (JagS (l.length-(i+1)) om ⟨⟨n+1,i+1,rfl,rfl,rfl,om,(by rw[dkE_snoc hx,if_pos om,hn]<;>rfl)⟩,sb⟩)
 refine Jz 6 ?_
 refine Jcp rfl ?_ ?_<;>intro k19
 refine Jz 12 ?_
 refine Jdel0 (JagS (l.length-(i+1)) om ⟨⟨n+1,i+1,rfl,rfl,rfl,om,(by rw[dkE_snoc hx,if_pos om,hn]<;>rfl)⟩,sb⟩)
 refine Jz 8 ?_
 refine Jdel0 (JagS (l.length-(i+1)) om ⟨⟨n,i+1,rfl,rfl,rfl,om,(by rw[dkE_snoc hx,if_neg om,hn]<;>rfl)⟩,sb⟩)
 refine Jz 12 ?_
 refine Je1 results19 ?_
 rw[hn,List.take_of_length_le om]
structure SameF(s t:Sm):Prop where
 code:s.code=t.code
 args:s.args=t.args
 now:s.now=t.now
 flags:s.flags=t.flags
 dsk:s.dsk=t.dsk
theorem step_sameF{s t:Sm}(h:SameF s t){x:Ins}{d:Dv}(hd:¬((x.op:Int)=32∨(x.op:Int)=33)):stepV t x d=stepV s x d:=by
 unfold stepV
 rw[h.code,h.args,h.now,h.flags,if_neg hd,if_neg hd]
theorem disk_sameF{s t:Sm}(h:SameF s t){x:Ins}{d:Dv}(hb:s.dsk+d.disks∈s.fail↔t.dsk+d.disks∈t.fail):diskV t x d=diskV s x d:=by
 unfold diskV
 rw[show decide (t.dsk+d.disks∈t.fail)=decide (s.dsk+d.disks∈s.fail)from decide_eq_decide.2 hb.symm]
theorem ite_dk{p:Prop} [Decidable p]{a b d:Dv}(h1:a.disks=d.disks)(h2:b.disks=d.disks):(if p then a else b).disks=d.disks:=by split<;>assumption
theorem step_disks{s:Sm}{x:Ins}{d:Dv}(hd:¬((x.op:Int)=32∨(x.op:Int)=33)):(stepV s x d).disks=d.disks:=by
 by_cases hs:(x.op:Int)=30∨(x.op:Int)=31
 · rw[stepV_send hs]
   by_cases h8:d.sends=8
   ·rw[sendV_8 h8]
   · by_cases h31:(x.op:Int)=31
     ·rw[sendV_31 h8 h31]
     ·rw[sendV_30 h8 h31]
 by_cases h4:(x.op:Int)=6∨(x.op:Int)=7∨(x.op:Int)=8∨(x.op:Int)=25∨(x.op:Int)=26
 · rw[stepV_table h4]
   unfold tableV
   simp only[]
   repeat (refine ite_dk rfl ?_)
   rfl
 · unfold stepV
   rw[if_neg hs,if_neg hd,if_neg h4]
   repeat (refine ite_dk rfl ?_)
   rfl
theorem disk_disks{s:Sm}{x:Ins}{d:Dv}:(diskV s x d).disks=d.disks+1:=by
 by_cases h32:(x.op:Int)=32
 ·rw[diskV_32 h32]
 · by_cases hb:s.dsk+d.disks∈s.fail
   ·rw[diskV_33b h32 hb]
   ·rw[diskV_33g h32 hb]
theorem step_mono{s:Sm}{x:Ins}{d:Dv}:d.disks≤(stepV s x d).disks:=by
 by_cases hd:(x.op:Int)=32∨(x.op:Int)=33
 ·rw[stepV_disk hd,disk_disks];omega
 ·rw[step_disks hd];exact Int.le_refl _
theorem run_mono{s:Sm}:∀(f:Nat) (d:Dv),d.disks≤(runV s f d).disks
 |0,d=>by rw[runV];split<;>exact Int.le_refl _
 | f +1,d=>by
   rw[runV]
   split
   · have h:=step_mono (s:=s) (x:=s.code.getD d.next.toNat ⟨0,0,0,0⟩) (d:={d with next:=d.next+1})
     have h:d.disks≤(stepV s (s.code.getD d.next.toNat ⟨0,0,0,0⟩) {d with next:=d.next+1}).disks:=h
     dsimp only
     split
     ·exact h
     ·exact Int.le_trans h (run_mono f _)
   ·exact Int.le_refl _
theorem run_sameF{s t:Sm}(h:SameF s t):∀(f:Nat) (d:Dv),(∀m,d.disks≤m→m<(runV s f d).disks→(s.dsk+m∈s.fail↔t.dsk+m∈t.fail))→runV t f d=runV s f d
 |0,d,_=>by rw[runV,runV,h.code]
 | f + 1,d,hm=>by
   have e1:runV s (f+1) d=if d.next<s.code.length then(if(stepV s (s.code.getD d.next.toNat ⟨0,0,0,0⟩) {d with next:=d.next+1}).fault=true then stopV (stepV s (s.code.getD d.next.toNat ⟨0,0,0,0⟩) {d with next:=d.next+1})else runV s f (stepV s (s.code.getD d.next.toNat ⟨0,0,0,0⟩) {d with next:=d.next+1}))else d:=by rw[runV]
   have e2:runV t (f+1) d=if d.next<t.code.length then(if(stepV t (t.code.getD d.next.toNat ⟨0,0,0,0⟩) {d with next:=d.next+1}).fault=true then stopV (stepV t (t.code.getD d.next.toNat ⟨0,0,0,0⟩) {d with next:=d.next+1})else runV t f (stepV t (t.code.getD d.next.toNat ⟨0,0,0,0⟩) {d with next:=d.next+1}))else d:=by rw[runV]
   rw[e1]at hm
   rw[e1,e2,←h.code]
   by_cases hl:d.next<s.code.length
   · rw [if_pos hl]at hm
     rw[if_pos hl,if_pos hl]
     obtain⟨x,hx⟩:∃x,s.code.getD d.next.toNat ⟨0,0,0,0⟩=x:=⟨_,rfl⟩
     rw[hx]at hm⊢
     have hst:stepV t x {d with next:=d.next+1}=stepV s x {d with next:=d.next+1}:=by
      by_cases hd:(x.op:Int)=32∨(x.op:Int)=33
      · rw[stepV_disk hd,stepV_disk hd]
        refine disk_sameF h (hm d.disks (Int.le_refl _) ?_)
        have hs:(stepV s x {d with next:=d.next+1}).disks=d.disks+1:=by rw[stepV_disk hd];exact disk_disks
        split
        ·show d.disks<(stepV s x {d with next:=d.next+1}).disks;omega
        ·have:=run_mono (s:=s) f (stepV s x {d with next:=d.next+1});omega
      ·exact step_sameF h hd
     rw[hst]
     by_cases hf:(stepV s x {d with next:=d.next+1}).fault=true
     ·rw[if_pos hf,if_pos hf]
     · rw[if_neg hf]at hm
       rw[if_neg hf,if_neg hf]
       have hmo:d.disks≤(stepV s x {d with next:=d.next+1}).disks:=step_mono
       exact run_sameF h f _ fun m h1 h2=>hm m om h2
   ·rw[if_neg hl,if_neg hl]
structure DkOk(s:Sm)(d:Dv):Prop where
 n:d.disks=((dkN d.effs:Nat):Int)
 f:∀i y,d.effs[i]?=some y→(y.k=3∨y.k=4)→y.f=decide (s.dsk+((dkN (d.effs.take i):Nat):Int)∈s.fail)
theorem DkOk.push{s:Sm}{d e:Dv}{y:EfV}(h:DkOk s d)(he:e.effs=d.effs++[y])(hn:e.disks=d.disks+(if y.k=3∨y.k=4 then 1 else 0))(hy:(y.k=3∨y.k=4)→y.f=decide (s.dsk+d.disks∈s.fail)):DkOk s e:=by
 refine⟨?_,fun i z hz hk=>?_⟩
 ·rw[hn,he,dkN_snoc,h.n];split<;>omega
 · rw[he]at hz⊢
   by_cases hl:i<d.effs.length
   · rw[List.getElem?_append_left hl]at hz
     rw[List.take_append_of_le_length om]
     exact h.f i z hz hk
   · have hi:=(List.getElem?_eq_some_iff.1 hz).1
     rw[lap]at hi
     have hi:i<d.effs.length+1:=hi
     obtain rfl:i=d.effs.length:=om
     rw[List.getElem?_append_right (Nat.le_refl _),Nat.sub_self]at hz
     obtain rfl:y=z:=Option.some.inj hz
     rw[List.take_left' rfl,hy hk,h.n]
theorem DkOk.keep{s:Sm}{d e:Dv}(h:DkOk s d)(he:e.effs=d.effs)(hn:e.disks=d.disks):DkOk s e:=⟨by rw[hn,he];exact h.n,by rw[he];exact h.f⟩
theorem step_dk{s:Sm}{x:Ins}{d:Dv}(h:DkOk s d):DkOk s (stepV s x d):=by
 by_cases hd:(x.op:Int)=32∨(x.op:Int)=33
 · rw[stepV_disk hd]
   by_cases h32:(x.op:Int)=32
   ·rw[diskV_32 h32];exact h.push rfl rfl fun _=>rfl
   · by_cases hb:s.dsk+d.disks∈s.fail
     ·rw[diskV_33b h32 hb];exact h.push rfl rfl fun _=>(decide_eq_true hb).symm
     ·rw[diskV_33g h32 hb];exact h.push rfl rfl fun _=>(decide_eq_false hb).symm
 have h1:=step_disks (s:=s) (d:=d) hd
 by_cases hs:(x.op:Int)=30∨(x.op:Int)=31
 · rw[stepV_send hs]
   by_cases h8:d.sends=8
   ·rw[sendV_8 h8];exact h.keep rfl rfl
   · by_cases h31:(x.op:Int)=31
     ·rw[sendV_31 h8 h31];exact h.push rfl (by rw[if_neg (show¬((2:Int)=3∨(2:Int)=4) by decide)];exact(Int.add_zero _).symm) fun hk=>absurd hk (show¬((2:Int)=3∨(2:Int)=4) by decide)
     ·rw[sendV_30 h8 h31];exact h.push rfl (by rw[if_neg (show¬((1:Int)=3∨(1:Int)=4) by decide)];exact(Int.add_zero _).symm) fun hk=>absurd hk (show¬((1:Int)=3∨(1:Int)=4) by decide)
 by_cases h29:(x.op:Int)=29
 ·rw[step_29 h29];exact h.keep rfl rfl
 ·exact h.keep (step_kp h29 hs hd).2.1 h1
theorem stop_dk{s:Sm}{d:Dv}(h:DkOk s d):DkOk s (stopV d):=h.push (y:=faultE) rfl (by rw[if_neg (by decide)];show d.disks=d.disks+0;omega) fun hk=>absurd hk (by decide)
theorem run_dk{s:Sm}:∀(f:Nat) (d:Dv),DkOk s d→DkOk s (runV s f d)
 | 0,d,h=>by
   rw[runV]
   split
   ·exact stop_dk (h.keep rfl rfl)
   ·exact h
 | f +1,d,h=>by
   rw[runV]
   split
   · have h1:DkOk s (stepV s (s.code.getD d.next.toNat ⟨0,0,0,0⟩) {d with next:=d.next+1}):=step_dk (h.keep rfl rfl)
     dsimp only
     split
     ·exact stop_dk h1
     ·exact run_dk f _ h1
   ·exact h
def usL(F:List Int)(b:Int)(j:Nat):List Int:=((List.range j).map fun(i:Nat)=>b+(i:Int)).filter fun n=>decide (n∈F)
theorem usL_succ(F:List Int)(b:Int)(j:Nat):usL F b (j+1)=usL F b j++(if b+(j:Int)∈F then [b+(j:Int)]else []):=by
 unfold usL
 rw[List.range_succ,List.map_append,List.filter_append]
 by_cases h:b+(j:Int)∈F<;>simp[h]
theorem mem_usL{F:List Int}{b n:Int}{j:Nat}:n∈usL F b j↔(b≤n∧n<b+j)∧n∈F:=by
 unfold usL
 rw[List.mem_filter,List.mem_map,decide_eq_true_eq]
 constructor
 · rintro⟨⟨i,hi,rfl⟩,h⟩
   have:=List.mem_range.1 hi
   exact⟨⟨by omega,by omega⟩,h⟩
 · rintro⟨⟨h1,h2⟩,h⟩
   exact⟨⟨(n-b).toNat,List.mem_range.2 om,by omega⟩,h⟩
theorem few_of{F:List Int}:∀{l:List Int},l.Nodup→(∀n∈l,n∈F)→l.length≤F.length:=by
 induction F with
 | nil=>
   intro l _ h
   cases l with
   |nil=>exact Nat.le_refl _
   |cons a r=>exact absurd (h a (List.mem_cons_self ..)) (by simp)
 | cons a r ih=>
   intro l hn h
   have h1:(l.erase a).length≤r.length:=ih (hn.erase a) fun n hm=>by
    have h2:=(hn.mem_erase_iff.1 hm)
    rcases List.mem_cons.1 (h n h2.2)with h3|h3
    ·exact absurd h3 h2.1
    ·exact h3
   have h2:=List.length_erase (a:=a) (l:=l)
   rw[lc1]
   split at h2<;>omega
theorem usL_few(F:List Int)(b:Int)(j:Nat):(usL F b j).length≤F.length:=by
 refine few_of ?_ fun n hn=>(mem_usL.1 hn).2
 unfold usL
 exact List.Pairwise.filter _ (List.pairwise_map.2 (List.Pairwise.imp (fun{x y} (h:x≠y)=>fun e=>h om) List.nodup_range))
def Dm.sx(d:Dm):Sx:=⟨d.Av,d.qv,d.vars,d.At,d.qt,d.tabs,d.dk⟩
theorem Dm.sx_val{d e:Dm}(h:d.val=e.val):d.sx.val=e.sx.val:=by
 have h1:d.vars=e.vars:=congrArg Dv.vars h
 have h2:d.tabs.map Tb.l=e.tabs.map Tb.l:=congrArg Dv.tabs h
 have h3:d.dk.l=e.dk.l:=congrArg Dv.disk h
 show(d.vars,d.tabs.map Tb.l,d.dk.l)=(e.vars,e.tabs.map Tb.l,e.dk.l)
 rw[h1,h2,h3]
theorem Ef.val_at{d e:Dm}(h:d.val=e.val){i:Nat}{x y:Ef}(hx:d.effs[i]?=some x)(hy:e.effs[i]?=some y):(y.k=x.k∧y.to=x.to∧y.h=x.h∧y.d=x.d)∧y.key=x.key∧y.v=x.v∧y.f=x.f∧y.args=x.args:=by
 have h1:d.effs.map Ef.val=e.effs.map Ef.val:=congrArg Dv.effs h
 have h2:(d.effs.map Ef.val)[i]?=some y.val:=by rw[h1,List.getElem?_map,hy];rfl
 rw[List.getElem?_map,hx]at h2
 have h3:x.val=y.val:=Option.some.inj h2
 unfold Ef.val at h3
 simp only[EfV.mk.injEq]at h3
 obtain⟨a,b,c,d',e',f,g,k⟩:=h3
 exact⟨⟨a.symm,b.symm,c.symm,d'.symm⟩,e'.symm,f.symm,g.symm,k.symm⟩
theorem alike_fn(d e:Dm)(hv:d.val=e.val)(hsm:d.sx.small)(hea:∀x∈d.effs,x.args.length≤1000000000000)(hel:d.effs.length≤1000000000):
    Dz 20 [.agg #[vs d.Av d.vars d.qv,vs d.At d.tabs d.qt,vs d.dk.A d.dk.l d.dk.q,vs d.Ae d.effs d.qe, .int .i64 d.cost], .agg #[vs e.Av e.vars e.qv,vs e.At e.tabs e.qt,vs e.dk.A e.dk.l e.dk.q,vs e.Ae e.effs e.qe, .int .i64 e.cost]] [ros encI d.Av d.vars,ros Tb.cells d.At d.tabs,rosS encEn (d.tabs.map Tb.ar),ros encEn d.dk.A d.dk.l,ros Ef.cells d.Ae d.effs,rosS encI (d.effs.map Ef.ar),ros encI e.Av e.vars,ros Tb.cells e.At e.tabs,rosS encEn (e.tabs.map Tb.ar),ros encEn e.dk.A e.dk.l,ros Ef.cells e.Ae e.effs,rosS encI (e.effs.map Ef.ar)] (fun v _=>v= .bool true):=by
 have hcost:d.cost=e.cost:=congrArg Dv.cost hv
 have hlen:d.effs.length=e.effs.length:=by have h1:d.effs.map Ef.val=e.effs.map Ef.val:=congrArg Dv.effs hv;simpa using congrArg List.length h1
 refine Does.en func20 ntmps20 fun w0=>?_
 refine Js (To.g (Jboxed rfl rfl rfl rfl rfl rfl (fun b2=>?_)))
 refine Jboxed rfl rfl rfl rfl rfl rfl (fun b3=>?_)
 refine Ja (To.n (Jt (Js (Js ?_))))
 rw[←hcost]
 refine To.g (To.f fl70_2 ?_)
 refine Jlo 1 c3 ?_
 refine To.f fl70_2 ?_
 refine Jlo 0 c3 ?_
 refine Jr (Rd.as (v':= .bool false) (congrArg Value.bool (decide_eq_false (fun h=>h rfl))) (Rd.neq rfl rfl rfl)) ?_
 refine Jm ?_
 refine To.f fl70_1 ?_
 refine Jlo 1 c68 ?_
 refine Jr (Rd.len rfl rfl underlying68) ?_
 refine To.f fl70_1 ?_
 refine Jlo 0 c68 ?_
 refine Jr (Rd.len rfl rfl underlying68) ?_
 refine To.ne ?_
 refine JpF ?_
 refine JgP ?_ ?_<;>intro g22
 exact absurd g22 om
 refine To.f fl70_0 ?_
 refine Jr (Rd.lS (i:=1) (us:=[vs d.Av d.vars d.qv,vs d.At d.tabs d.qt,vs d.dk.A d.dk.l d.dk.q]) rfl rfl r56 rfl (box_gives (n:=3) rfl) rfl) ?_
 refine To.f fl70_0 ?_
 refine Jr (Rd.lS (i:=0) (us:=[vs e.Av e.vars e.qv,vs e.At e.tabs e.qt,vs e.dk.A e.dk.l e.dk.q]) rfl rfl r56 rfl (box_gives (n:=3) rfl) rfl) ?_
 refine Jvf ((xeq_fn d.sx e.sx hsm).mono (R':=fun v _=>v= .bool true) (fun v _ h=>by rw[h];exact congrArg Value.bool (decide_eq_true (Dm.sx_val hv)))) rfl (ocs (oca 2 rfl) (ocs (oca 3 rfl) (ocs (oca 4 rfl) (ocs (oca 5 rfl) (ocs (oca 8 rfl) (ocs (oca 9 rfl) (ocs (oca 10 rfl) (ocs (oca 11 rfl) (ocn _))))))))) ?_
 refine Jnt ?_
 refine JpF ?_
 refine To.n (Jt (JcondF rfl (Jsp (Jt (Js (Js (To.g (To.f fl70_1 ?_))))))))
 refine Jlo 1 c68 ?_
 refine Jr (Rd.len rfl rfl underlying68) ?_
 refine Jm (To.n (Jt (To.b ?_)))
 refine Jup1 (JloopS (fun mz ρ Γ=>∃(i:Nat),ρ=[(2,pv b2),(3,pv b3),(31,vs d.Ae d.effs d.qe),(32,nv d.effs.length),(33,nv i)]∧Γ=[box b2 [vs d.Av d.vars d.qv,vs d.At d.tabs d.qt,vs d.dk.A d.dk.l d.dk.q,vs d.Ae d.effs d.qe, .int .i64 d.cost] 70,box b3 [vs e.Av e.vars e.qv,vs e.At e.tabs e.qt,vs e.dk.A e.dk.l e.dk.q,vs e.Ae e.effs e.qe, .int .i64 d.cost] 70,ros encI d.Av d.vars,ros Tb.cells d.At d.tabs,rosS encEn (d.tabs.map Tb.ar),ros encEn d.dk.A d.dk.l,ros Ef.cells d.Ae d.effs,rosS encI (d.effs.map Ef.ar),ros encI e.Av e.vars,ros Tb.cells e.At e.tabs,rosS encEn (e.tabs.map Tb.ar),ros encEn e.dk.A e.dk.l,ros Ef.cells e.Ae e.effs,rosS encI (e.effs.map Ef.ar)]∧mz=d.effs.length-i∧(i≤d.effs.length)) (d.effs.length-0) ⟨⟨0,rfl,rfl,rfl,(Nat.zero_le _)⟩,sb⟩ ?_)
 rintro mz _ _ ⟨i,rfl,rfl,rfl,hi⟩
 refine Js (To.g (Jlt ?_))
 refine To.n (Jt (Js (Jcp rfl (fun k34=>?_) (fun k34=>?_))))
 refine Jsp (Jt (Js (To.b (Js ?_))))
 obtain⟨x,hx⟩:=exg d.effs i om
 obtain⟨y,hy⟩:=exg e.effs i om
 obtain⟨⟨ek,eto,eh,ed⟩,ekey,ev_,ef,eargs⟩:=Ef.val_at hv hx hy
 refine To.g (Jm ?_)
 refine Jr (Rd.ixo encEf (i:=6) (j:=i) rfl rfl rfl s68 rfl hx) ?_
 refine Jr (Rd.lS (i:=6) rfl rfl r86 rfl (rsg encEf hx) (encEf.len _)) ?_
 refine Jalloc rfl rfl rfl rfl z86 (fun b6=>?_)
 refine Ja ?_
 refine To.u (Up.storeS (i:=0) rfl rfl rfl r86 rfl rfl rfl (bta rfl)) ?_
 refine To.n (Jt (Js (To.g (To.f fl70_1 ?_))))
 refine Jlo 2 c68 ?_
 refine Jm ?_
 refine Jr (Rd.ixo encEf (i:=13) (j:=i) rfl rfl rfl s68 rfl hy) ?_
 refine Jr (Rd.lS (i:=13) rfl rfl r86 rfl (rsg encEf hy) (encEf.len _)) ?_
 refine Jalloc rfl rfl rfl rfl z86 (fun b7=>?_)
 refine To.u (Up.storeS (i:=0) rfl rfl rfl r86 rfl rfl rfl (bta rfl)) ?_
 refine To.n (Jt (Js (Jas [box b7 [.int .u8 y.k, .int .i64 y.to, .int .i64 y.h, .int .i64 y.d, .int .i64 y.key, .int .i64 y.v, .bool y.f,vs y.A y.args y.q] 86,box b6 [.int .u8 x.k, .int .i64 x.to, .int .i64 x.h, .int .i64 x.d, .int .i64 x.key, .int .i64 x.v, .bool x.f,vs x.A x.args x.q] 86,box b2 [vs d.Av d.vars d.qv,vs d.At d.tabs d.qt,vs d.dk.A d.dk.l d.dk.q,vs d.Ae d.effs d.qe, .int .i64 d.cost] 70,box b3 [vs e.Av e.vars e.qv,vs e.At e.tabs e.qt,vs e.dk.A e.dk.l e.dk.q,vs e.Ae e.effs e.qe, .int .i64 d.cost] 70,ros encI d.Av d.vars,ros Tb.cells d.At d.tabs,rosS encEn (d.tabs.map Tb.ar),ros encEn d.dk.A d.dk.l,ros Ef.cells d.Ae d.effs,rosS encI (d.effs.map Ef.ar),ros encI e.Av e.vars,ros Tb.cells e.At e.tabs,rosS encEn (e.tabs.map Tb.ar),ros encEn e.dk.A e.dk.l,ros Ef.cells e.Ae e.effs,rosS encI (e.effs.map Ef.ar)] rfl ?_)))
 rw[ek,eto,eh,ed,ekey,ev_,ef,eargs]
 refine To.g (To.f fl86_0 ?_)
 refine Jlo 1 c84 ?_
 refine To.f fl86_0 ?_
 refine Jlo 0 c84 ?_
 refine Jr (Rd.as (v':= .bool false) (congrArg Value.bool (decide_eq_false (fun h=>h rfl))) (Rd.neq rfl rfl rfl)) ?_
 refine Jm ?_
 refine To.f fl86_1 ?_
 refine Jlo 1 c3 ?_
 refine To.f fl86_1 ?_
 refine Jlo 0 c3 ?_
 refine Jr (Rd.as (v':= .bool false) (congrArg Value.bool (decide_eq_false (fun h=>h rfl))) (Rd.neq rfl rfl rfl)) ?_
 refine JpF ?_
 refine Jm ?_
 refine To.f fl86_2 ?_
 refine Jlo 1 c3 ?_
 refine To.f fl86_2 ?_
 refine Jlo 0 c3 ?_
 refine Jr (Rd.as (v':= .bool false) (congrArg Value.bool (decide_eq_false (fun h=>h rfl))) (Rd.neq rfl rfl rfl)) ?_
 refine JpF ?_
 refine Jm ?_
 refine To.f fl86_3 ?_
 refine Jlo 1 c2 ?_
 refine To.f fl86_3 ?_
 refine Jlo 0 c2 ?_
 refine Jr (Rd.as (v':= .bool false) (congrArg Value.bool (decide_eq_false (fun h=>h rfl))) (Rd.neq rfl rfl rfl)) ?_
 refine JpF ?_
 refine Jm ?_
 refine To.f fl86_4 ?_
 refine Jlo 1 c2 ?_
 refine To.f fl86_4 ?_
 refine Jlo 0 c2 ?_
 refine Jr (Rd.as (v':= .bool false) (congrArg Value.bool (decide_eq_false (fun h=>h rfl))) (Rd.neq rfl rfl rfl)) ?_
 refine JpF ?_
 refine Jm ?_
 refine To.f fl86_5 ?_
 refine Jlo 1 c2 ?_
 refine To.f fl86_5 ?_
 refine Jlo 0 c2 ?_
 refine Jr (Rd.as (v':= .bool false) (congrArg Value.bool (decide_eq_false (fun h=>h rfl))) (Rd.neq rfl rfl rfl)) ?_
 refine JpF ?_
 refine Jm ?_
 refine To.f fl86_6 ?_
 refine Jlo 1 c4 ?_
 refine To.f fl86_6 ?_
 refine Jlo 0 c4 ?_
 refine Jr (Rd.as (v':= .bool false) (congrArg Value.bool (by first|rfl|(rw[beq_self_eq_true];rfl))) (Rd.neqB rfl underlying4 rfl rfl)) ?_
 refine JpF ?_
 refine Jm ?_
 refine To.f fl86_7 ?_
 refine Jlo 1 c28 ?_
 refine To.f fl86_7 ?_
 refine Jlo 0 c28 ?_
 refine Jvf ((sameArgs_fn x.A y.A x.q y.q x.args x.args (hea x (mog hx))).mono (R':=fun v _=>v= .bool true) (fun v _ h=>by rw[h];exact congrArg Value.bool (decide_eq_true rfl))) rfl (ocs (oks_S 9 rfl (mem_at hx Ef.ar)) (ocs ((fun w hw=>by have h0:=(oks_S 15 rfl (mem_at hy Ef.ar)) w hw;rw[eargs]at h0;exact h0)) (ocn _))) ?_
 refine Jnt ?_
 refine JpF ?_
 refine To.n (Jsub [(2,pv b2),(3,pv b3),(31,vs d.Ae d.effs d.qe),(32,nv d.effs.length),(33,nv i),(34, .bool (decide (((i:Nat):Int)<((d.effs.length:Nat):Int)))),(6,pv b6),(5,nv i),(7,pv b7),(97, .bool false)] sb (Jt (JcondF rfl (Jsp (Jbn (Jt (To.g (Jr (Rd.inc rfl rfl rfl om) ?_))))))))
 refine Jm (To.n (Jt ?_))
 refine Jdel1 (Jdel0 (JagS (d.effs.length-(i+1)) om ⟨⟨i+1,rfl,rfl,rfl,om⟩,sb⟩))
 refine Jex (Jtx (Jtx (Jbx (Jt (Js (To.g (Ja (To.n (Jt (Jrt ?_))))))))))
 refine Je1 results20 ?_
 rfl
def EfOk(e:EfV):Prop:=(0≤e.k∧e.k≤255)∧e.args.length≤1000
structure FinD(mv nt:Nat)(d:Dv):Prop where
 effs:∀e∈d.effs,EfOk e
 vars:d.vars.length=mv
 tabs:d.tabs.length=nt
 good:∀t∈d.tabs,Good t
 disk:Good d.disk
theorem fin_snoc{l:List EfV}{e:EfV}(h:∀e∈l,EfOk e)(he:EfOk e):∀e'∈l++[e],EfOk e':=fun e' h'=>by
 rcases List.mem_append.1 h' with h1|h1
 ·exact h e' h1
 ·rw[List.mem_singleton.1 h1];exact he
theorem FinD.stop{mv nt:Nat}{d:Dv}(h:FinD mv nt d):FinD mv nt (stopV d):=⟨fin_snoc h.effs ⟨by decide,by simp[faultE]⟩,h.vars,h.tabs,h.good,h.disk⟩
theorem FinD.step{mv nt:Nat}{s:Sm}{x:Ins}{d:Dv}(h:FinD mv nt d)(hf:Fit s x d):FinD mv nt (stepV s x d):=by
 by_cases h1:((x.op:Nat):Int)=30∨((x.op:Nat):Int)=31
 · rw[stepV_send h1]
   have hn:=hf.sends h1
   have hl:(d.stack.drop (d.stack.length-x.n.toNat)).length≤1000:=by rw[List.length_drop];omega
   by_cases h8:d.sends=8
   ·rw[sendV_8 h8];exact⟨h.effs,h.vars,h.tabs,h.good,h.disk⟩
   · by_cases h31:((x.op:Nat):Int)=31
     ·rw[sendV_31 h8 h31];exact⟨fin_snoc h.effs ⟨by show(0:Int)≤2∧(2:Int)≤255;decide,hl⟩,h.vars,h.tabs,h.good,h.disk⟩
     ·rw[sendV_30 h8 h31];exact⟨fin_snoc h.effs ⟨by show(0:Int)≤1∧(1:Int)≤255;decide,hl⟩,h.vars,h.tabs,h.good,h.disk⟩
 by_cases h2:((x.op:Nat):Int)=32∨((x.op:Nat):Int)=33
 · rw[stepV_disk h2]
   obtain⟨P,_⟩:=shape_disk (s:=s) h2 hf.pops
   refine⟨?_,P.vars.trans h.vars,P.tabs.trans h.tabs,P.good h.good,P.disk h.disk⟩
   by_cases h32:((x.op:Nat):Int)=32
   ·rw[diskV_32 h32];exact fin_snoc h.effs ⟨by show(0:Int)≤3∧(3:Int)≤255;decide,by simp⟩
   · by_cases hb:s.dsk+d.disks∈s.fail
     ·rw[diskV_33b h32 hb];exact fin_snoc h.effs ⟨by show(0:Int)≤4∧(4:Int)≤255;decide,by simp⟩
     ·rw[diskV_33g h32 hb];exact fin_snoc h.effs ⟨by show(0:Int)≤4∧(4:Int)≤255;decide,by simp⟩
 by_cases h3:((x.op:Nat):Int)=6∨((x.op:Nat):Int)=7∨((x.op:Nat):Int)=8∨((x.op:Nat):Int)=25∨((x.op:Nat):Int)=26
 · rw[stepV_table h3]
   obtain⟨P,_⟩:=shape_table h3 hf.pops
   exact⟨by rw[tableV_effs];exact h.effs,P.vars.trans h.vars,P.tabs.trans h.tabs,P.good h.good,P.disk h.disk⟩
 have hs:Simple x:=by unfold Simple;omega
 obtain⟨_,p2,p3,_,_⟩:=step_shape (s:=s) (d:=d) hs hf.ops hf.pops
 obtain⟨k1,k2,_,_⟩:=simple_keeps (s:=s) (d:=d) hs
 exact⟨by rw[p3];exact h.effs,p2.trans h.vars,by rw[k1];exact h.tabs,by rw[k1];exact h.good,by rw[k2];exact h.disk⟩
theorem run_finD{s:Sm}{I:Nat→Dv→Prop}(hR:Runs2 s I){mv nt:Nat}:∀(f k:Nat) (d:Dv),k+f=1048576→I k d→FinD mv nt d→FinD mv nt (runV s f d)∧(runV s f d).effs.length≤2000002
 | 0,k,d,hk,hI,h=>by
   have he:=hR.effs _ _ hI
   rw[runV]
   split
   · refine⟨FinD.stop ⟨h.effs,h.vars,h.tabs,h.good,h.disk⟩,?_⟩
     show(d.effs++[faultE]).length≤2000002
     rw[lap];simp only[lc1,ln0];omega
   ·exact⟨h,by omega⟩
 | f + 1,k,d,hk,hI,h=>by
   have he:=hR.effs _ _ hI
   have hn:=hR.next _ _ hI
   by_cases hlt:d.next<s.code.length
   · obtain⟨x,hx⟩:∃x,s.code[d.next.toNat]?=some x:=⟨s.code[d.next.toNat]'om,gge _⟩
     rw[runV_step hlt hx]
     obtain⟨f1,_⟩:=hR.fit _ _ x hI hx
     have h2:FinD mv nt {d with next:=d.next+1}:=⟨h.effs,h.vars,h.tabs,h.good,h.disk⟩
     have h3:=h2.step f1
     have h4:=stepV_effs s x {d with next:=d.next+1}
     by_cases hf:(stepV s x {d with next:=d.next+1}).fault=true
     · rw[if_pos hf]
       refine⟨h3.stop,?_⟩
       show((stepV s x {d with next:=d.next+1}).effs++[faultE]).length≤2000002
       have h5:({d with next:=d.next+1}:Dv).effs.length≤2000000:=he
       rw[lap];simp only[lc1,ln0];omega
     · rw[if_neg hf]
       exact run_finD hR f (k+1) _ om (hR.step _ _ x hI om hx (by simpa using hf)) h3
   ·rw[runV_end hlt];exact⟨h,by omega⟩
theorem run_smallD{c:Cl}{l:List Ins}{pr st:Int}{a:Sx}{d:Dm}{mv nt:Nat}(hnv:mv≤1000)(hnt:nt≤16)(hv0:verifyV pr st l=0)(hpr:(c.args.length:Int)=pr)(href:∀x∈l,referB x a.vars.length a.tabs.length c.flags.length=true)(hfl:c.fail.length≤12)(hdsk:0≤c.dsk∧c.dsk≤1000000000)
    (hg:a.vars.length=mv∧a.tabs.length=nt∧(∀y∈a.tabs,Good y.l)∧Good a.dk.l) (hv:d.val=runV (c.sm l) 1048576 (d0G a.vars (a.tabs.map Tb.l) a.dk.l)):d.sx.small∧(∀x∈d.effs,x.args.length≤1000000000000)∧d.effs.length≤2000002:=by
 obtain⟨g1,g2,g3,g4⟩:=hg
 have hgt:∀t∈a.tabs.map Tb.l,Good t:=fun t ht=>by obtain⟨y,hy,rfl⟩:=List.mem_map.1 ht;exact g3 y hy
 obtain⟨I,hR,hI⟩:=all_run (s:=c.sm l) (V:=a.vars) (tb:=a.tabs.map Tb.l) (dk:=a.dk.l) hv0 (fun x hx=>by rw[List.length_map];exact href x hx) hpr (isortI_asc _) (by show(isort cmpI c.fail).length≤1000000;rw[isort_len];omega) hdsk hgt g4
 obtain⟨F,hl⟩:=run_finD hR (mv:=mv) (nt:=nt) 1048576 0 _ om hI ⟨by simp,g1,by show(a.tabs.map Tb.l).length=nt;rw[List.length_map];exact g2,hgt,g4⟩
 rw[←hv]at F hl
 have e1:d.effs.length=d.val.effs.length:=by show _=(d.effs.map Ef.val).length;rw[List.length_map]
 have e2:∀x∈d.effs,EfOk x.val:=fun x hx=>F.effs _ (List.mem_map.2 ⟨x,hx,rfl⟩)
 refine⟨⟨?_,?_,fun y hy=>?_,?_⟩,fun x hx=>Nat.le_trans (e2 x hx).2 (by decide),by omega⟩
 · have:d.vars.length=mv:=F.vars
   show d.vars.length≤1000000000000;omega
 · have:(d.tabs.map Tb.l).length=nt:=F.tabs
   rw[List.length_map]at this
   show d.tabs.length≤1000000000000;omega
 ·have:=(F.good y.l (List.mem_map.2 ⟨y,hy,rfl⟩)).len;omega
 · have:Good d.dk.l:=F.disk
   have:=this.len
   show d.dk.l.length≤1000000000000;omega
end Go.Proofs.YtlihklladkagpaaGreatDoor
