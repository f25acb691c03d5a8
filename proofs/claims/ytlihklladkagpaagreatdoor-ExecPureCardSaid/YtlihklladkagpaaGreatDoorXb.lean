/- Own text. -/
import Derived.Test.YtlihklladkagpaaGreatDoorXa
set_option linter.unusedVariables false
set_option linter.unusedSimpArgs false
set_option maxHeartbeats 2000000
set_option maxRecDepth 100000
namespace Go.Proofs.YtlihklladkagpaaGreatDoor
open Go.Proofs.Tryz
open Go.RowKit Go.Flow Go.Mem Go.Sep
def faultE:EfV:=⟨5,0,0,0,0,0,false,[]⟩
def stopV(d:Dv):Dv:={d with effs:=d.effs++[faultE]}
def runV(s:Sm):Nat→Dv→Dv
 |0,d=>if d.next<s.code.length then stopV {d with fault:=true}else d
 | f +1,d=>if d.next<s.code.length then
     (let d':=stepV s (s.code.getD d.next.toNat ⟨0,0,0,0⟩) {d with next:=d.next+1}
      if d'.fault=true then stopV d' else runV s f d')else d
def Simple(x:Ins):Prop:=((x.op:Nat):Int)≠6∧((x.op:Nat):Int)≠7∧((x.op:Nat):Int)≠8∧((x.op:Nat):Int)≠25∧((x.op:Nat):Int)≠26∧((x.op:Nat):Int)≠30∧((x.op:Nat):Int)≠31∧((x.op:Nat):Int)≠32∧((x.op:Nat):Int)≠33
structure Runs(s:Sm)(I:Dv→Prop):Prop where
 next:∀d,I d→0≤d.next
 fit:∀d x,I d→s.code[d.next.toNat]?=some x→Fit s x {d with next:=d.next+1}∧Simple x
 step:∀d x,I d→s.code[d.next.toNat]?=some x→(stepV s x {d with next:=d.next+1}).fault=false→I (stepV s x {d with next:=d.next+1})
 effs:∀d,I d→d.effs.length≤1000
theorem runV_end{s:Sm}{d:Dv}(h:¬d.next<s.code.length):∀f,runV s f d=d
 |0=>by rw[runV,if_neg h]
 |f+1=>by rw[runV,if_neg h]
theorem runV_step{s:Sm}{d:Dv}{x:Ins}(h:d.next<s.code.length)(hx:s.code[d.next.toNat]?=some x)(f:Nat):runV s (f+1) d=if(stepV s x {d with next:=d.next+1}).fault=true then stopV (stepV s x {d with next:=d.next+1})else runV s f (stepV s x {d with next:=d.next+1}):=by
 rw[runV,if_pos h,show s.code.getD d.next.toNat ⟨0,0,0,0⟩=x from by rw[List.getD_eq_getElem?_getD,hx];rfl]
theorem len64_fn(n:Nat)(hn:n<256):
    Dz 110 [.int .u64 ((n:Nat):Int)] [] (fun v Γ'=>∃k:Int,v= .int .i64 k∧Γ'=[]):=by
 refine Does.en func110 ntmps110 fun w0=>?_
 refine Jz 12 ?_
 refine Jcp rfl ?_ ?_<;>intro c4
 exact absurd c4 om
 refine Jz 9 ?_
 refine Jcp rfl ?_ ?_<;>intro c8
 exact absurd c8 om
 refine Jz 9 ?_
 refine Jcp rfl ?_ ?_<;>intro c14
 exact absurd c14 om
 refine Jz 6 ?_
 refine Jr (Rd.conv rfl rfl underlying267 underlying5 (IntWalk.u8_in _ om)) ?_
 refine To.letter (j:=n) rfl rfl rfl rfl underlying9 rfl rfl (by show n<256;exact hn) (fun n22 hn22=>?_)
 refine Jr (Rd.conv rfl rfl underlying5 underlying3 (IntWalk.i64_in _ om)) ?_
 refine Jr (Rd.add64 rfl rfl rfl om) ?_
 refine Jz 4 ?_
 refine Jonly [] rfl (Je1 results110 ?_)
 exact⟨_,rfl,rfl⟩
theorem blen_fn(n:Nat)(hn:n<256):
    Dz 62 [.int .u64 ((n:Nat):Int)] [] (fun v Γ'=>∃k:Int,v= .int .i64 k∧Γ'=[]):=by
 refine Does.en func62 ntmps62 fun w0=>?_
 refine Jz 12 ?_
 refine Jqf (len64_fn n om) rfl (ocn _) ?_
 rintro _ _ ⟨k1,rfl,rfl⟩
 refine⟨rfl,?_⟩
 refine Jz 4 ?_
 refine Jonly [] rfl (Je1 results62 ?_)
 exact⟨_,rfl,rfl⟩
theorem ros_noneX{Γ:List Chunk}{w:World}{α:Type}{enc:α→List Value}{size:Nat}(E:Enc enc size)(hp:0<size){A:OA}{l:List α}(hA:A.isNone=true)(i:Nat)(h:Γ[i]?=some (ros enc A l))(hs:sat Γ w):l=[]:=by
 cases hl:l with
 |nil=>rfl
 | cons x r=>
   have:=ros_some E hp (A:=A) (l:=l) (by rw[hl];simp) i h hs
   rw[hA]at this;cases this
theorem clone64_fn(A:OA)(q:Nat)(l:List Int)(hl:l.length≤1000000):
    Dz 35 [vs A l q] [ros encI A l] (fun v Γ'=>∃B p,v=vs B l p∧Γ'=[rows encI 2 1 B p l]):=by
 refine Does.en func35 ntmps35 fun w0=>?_
 refine Jz 9 ?_
 refine Jr (Rd.as (v':= .bool A.isNone) rfl (Rd.eqlSl (A:=A) rfl underlying28 rfl rfl)) ?_
 refine To.n (Jt (Jcond rfl (fun c4=>?_) (fun c4=>?_)))
 refine Js (Jknow (p:=l=[]) (fun w hw=>ros_noneX encI_ok (by decide) c4 0 rfl hw) (fun hl0=>?_))
 subst hl0
 refine JnilRow (encI) 2 1 (Jz 6 ?_)
 refine Jonly [0] rfl (Je1 results35 ?_)
 exact⟨_,_,rfl,rfl⟩
 refine Jz 4 ?_
 refine Jmk rfl rfl rfl (Mk.slice0R (enc:=encI) rfl s28) ?_
 rintro _ _ ⟨A5,rfl,rfl⟩
 refine Jm ?_
 refine Jge rfl rfl rfl (Ge.appendL encI_ok (i:=0) (m:=l) rfl s28 rfl rfl rfl (src_ro (i:=1) rfl) om om) ?_
 rintro _ _ ⟨A7,q7,rfl,rfl⟩
 refine Jz 4 ?_
 refine Jonly [0] rfl (Je1 results35 ?_)
 exact⟨_,_,rfl,rfl⟩
def referB(x:Ins)(mv nt nf:Nat):Bool:=
 if((x.op:Nat):Int)=2∨((x.op:Nat):Int)=24∨((x.op:Nat):Int)=33 then decide (x.a<mv)else if((x.op:Nat):Int)=4 then decide (x.a<nf)else
 if((x.op:Nat):Int)=6∨((x.op:Nat):Int)=7∨((x.op:Nat):Int)=8∨((x.op:Nat):Int)=25∨((x.op:Nat):Int)=26 then decide (x.a<nt)else true
theorem refers_fn(x:Ins)(Av At Ad Aa Ag Af:OA)(mv qv nt qt nd qd na qa nf qg nl qf:Nat)(now dk:Int):
    Dz 32 [.agg (Ins.cells x).toArray, .agg #[.slice Av mv qv, .slice At nt qt, .slice Ad nd qd], .agg #[.slice Aa na qa, .int .i64 now, .slice Ag nf qg, .int .i64 dk, .slice Af nl qf]] [] (fun v _=>v= .bool (referB x mv nt nf)):=by
 refine Does.en func32 ntmps32 fun w0=>?_
 refine Js (To.g (Jbo fun b3=>?_))
 refine Jbo fun b4=>?_
 refine Jbo fun b5=>?_
 refine Jz 18 ?_
 refine Jcp rfl ?_ ?_<;>intro k9
 refine Jsp (Jt (JcondT (congrArg (fun b=>some (Value.bool b)) (decide_eq_true k9)) (Jz 14 ?_)))
 refine Je1 results32 ?_
 simp[referB,k9]
 refine Jz 6 ?_
 refine Jcp rfl ?_ ?_<;>intro k9_2
 refine Jsp (Jt (JcondT (congrArg (fun b=>some (Value.bool b)) (decide_eq_true k9_2)) (Jz 14 ?_)))
 refine Je1 results32 ?_
 simp[referB,k9_2]
 refine Jz 5 ?_
 refine Jcp rfl ?_ ?_<;>intro k9_3
 refine Jz 14 ?_
 refine Je1 results32 ?_
 simp[referB,k9_3]
 refine Jz 6 ?_
 refine Jcp rfl ?_ ?_<;>intro k19
 refine Jz 14 ?_
 refine Je1 results32 ?_
 simp[referB,k19]
 refine Jz 7 ?_
 refine Jcp rfl ?_ ?_<;>intro k27
 refine Jsp (Jt (JcondT (congrArg (fun b=>some (Value.bool b)) (decide_eq_true k27)) (Jz 14 ?_)))
 refine Je1 results32 ?_
 simp[referB,k27]
 refine Jz 6 ?_
 refine Jcp rfl ?_ ?_<;>intro k27_2
 refine Jsp (Jt (JcondT (congrArg (fun b=>some (Value.bool b)) (decide_eq_true k27_2)) (Jz 14 ?_)))
 refine Je1 results32 ?_
 simp[referB,k27_2]
 refine Jz 6 ?_
 refine Jcp rfl ?_ ?_<;>intro k27_3
 refine Jsp (Jt (JcondT (congrArg (fun b=>some (Value.bool b)) (decide_eq_true k27_3)) (Jz 14 ?_)))
 refine Je1 results32 ?_
 simp[referB,k27_3]
 refine Jz 6 ?_
 refine Jcp rfl ?_ ?_<;>intro k27_4
 refine Jsp (Jt (JcondT (congrArg (fun b=>some (Value.bool b)) (decide_eq_true k27_4)) (Jz 14 ?_)))
 refine Je1 results32 ?_
 simp[referB,k27_4]
 refine Jz 5 ?_
 refine Jcp rfl ?_ ?_<;>intro k27_5
 refine Jz 14 ?_
 refine Je1 results32 ?_
 simp[referB,k27_5]
 refine Jz 9 ?_
 refine Je1 results32 ?_
 simp[referB,k9,k9_2,k9_3,k19,k27,k27_2,k27_3,k27_4,k27_5]
abbrev s0(A:OA)(q:Nat)(l:List Ins):Sm:=⟨A,q,l,none,0,[],0,none,0,[],0,none,0,[]⟩
open Go.Sep
def leH(h h':List Int):Prop:=h'.length=h.length∧∀(j:Nat) (y:Int),h[j]?=some y→0≤y→h'[j]?=some y
theorem leH.refl(h:List Int):leH h h:=⟨rfl,fun _ _ h _=>h⟩
theorem leH.trans{a b c:List Int}(h:leH a b)(k:leH b c):leH a c:=⟨k.1.trans h.1,fun j y hj hy=>k.2 j y (h.2 j y hj hy) hy⟩
theorem leH_set{h:List Int}{t:Nat}{v y:Int}(hy:h[t]?=some y)(hok:okH y v):leH h (h.set t v):=by
 refine⟨List.length_set,fun j z hj hz=>?_⟩
 by_cases e:t=j
 · subst e
   rw[hy]at hj
   obtain rfl:=Option.some.inj hj
   rw[List.getElem?_set_self (List.getElem?_eq_some_iff.1 hy).1]
   rcases hok with h1|h1
   ·omega
   ·rw[h1]
 ·rw[List.getElem?_set_ne e];exact hj
theorem set_get{h:List Int}{t:Nat}{v:Int}(ht:t<h.length):(h.set t v)[t]?=some v:=List.getElem?_set_self ht
structure OkAt(T:List Int)(tp:Int)(i:Nat)(x:Ins)(m:Int):Prop where
 here:T[i]?=some m
 pos:0≤m
 pops:popsN x≤m
 top:m≤tp
 next:((x.op:Nat):Int)≠27→((x.op:Nat):Int)≠34→T[i+1]?=some (aftH m x)
 jump:∀t,tgt x=some t→T[t.toNat]?=some (aftH m x)
theorem aft_pos{m:Int}{x:Ins}(h:popsN x≤m):0≤aftH m x:=by
 have:=pops_bound x.op
 unfold aftH;omega
theorem stepH_spec{pr:Int}{nc:Nat}{h h':List Int}{top top':Int}{i:Nat}{x:Ins}(hl:h.length=nc+1)(hi:i<nc)(hf:formedB pr nc x=true)(hs:stepH h top i x=some (h',top')):
    leH h h'∧top≤top'∧∃m,m=max (h.getD i 0) 0∧∀T tp,leH h' T→top'≤tp→OkAt T tp i x m:=by
 obtain⟨y,hy⟩:=exg h i om
 have hxf:=form_facts hf
 unfold stepH at hs
 simp only[getD_of hy]at hs
 obtain⟨m,hm⟩:∃m,m=max y 0:=⟨_,rfl⟩
 rw[←hm]at hs
 by_cases hbad:m<popsN x∨(((x.op:Nat):Int)=34∧m≠0)
 ·rw[if_pos hbad]at hs;cases hs
 rw[if_neg hbad]at hs
 obtain⟨h2,h2e,hs⟩:=Option.bind_eq_some_iff.1 hs
 obtain⟨h3,h3e,he⟩:=Option.map_eq_some_iff.1 hs
 simp only[Prod.mk.injEq]at he
 obtain⟨rfl,rfl⟩:=he
 have hpm:popsN x≤m:=om
 have hm0:0≤m:=om
 have hv0:=aft_pos hpm
 have l1:leH h (h.set i m):=leH_set hy (by unfold okH;omega)
 have e1:(h.set i m)[i]?=some m:=set_get om
 have l2:leH (h.set i m) h2∧(((x.op:Nat):Int)≠27→((x.op:Nat):Int)≠34→h2[i+1]?=some (aftH m x)):=by
  unfold nextH at h2e
  by_cases hc:((x.op:Nat):Int)≠27∧((x.op:Nat):Int)≠34
  · rw[if_pos hc]at h2e
    obtain⟨y2,hy2⟩:∃z0,(h.set i m)[i+1]?=some z0:=⟨(h.set i m)[i+1]'(by rw[List.length_set];omega),gge _⟩
    rw[getD_of hy2]at h2e
    by_cases hok:okH y2 (aftH m x)
    · rw[if_pos hok]at h2e
      obtain rfl:=Option.some.inj h2e
      exact⟨leH_set hy2 hok,fun _ _=>set_get (by rw[List.length_set];omega)⟩
    ·rw[if_neg hok]at h2e;cases h2e
  · rw[if_neg hc]at h2e
    obtain rfl:=Option.some.inj h2e
    exact⟨leH.refl _,fun a b=>absurd ⟨a,b⟩ hc⟩
 have l3:leH h2 h3∧∀t,tgt x=some t→h3[t.toNat]?=some (aftH m x):=by
  unfold jumpH at h3e
  cases ht:tgt x with
  | none=>
    rw[ht]at h3e
    simp only[Option.isSome_none,Bool.false_eq_true,if_false,Option.some.injEq]at h3e
    subst h3e
    exact⟨leH.refl _,fun t h=>by cases h⟩
  | some t=>
    rw[ht]at h3e hxf
    simp only[Option.isSome_some,if_true,Option.getD_some]at h3e hxf
    have hlt:t.toNat<h2.length:=by rw[l2.1.1,l1.1,hl];omega
    obtain⟨y3,hy3⟩:∃z0,h2[t.toNat]?=some z0:=⟨h2[t.toNat],gge hlt⟩
    rw[getD_of hy3]at h3e
    by_cases hok:okH y3 (aftH m x)
    · rw[if_pos hok]at h3e
      obtain rfl:=Option.some.inj h3e
      exact⟨leH_set hy3 hok,fun t' h=>by obtain rfl:=Option.some.inj h;exact set_get hlt⟩
    ·rw[if_neg hok]at h3e;cases h3e
 refine⟨(l1.trans l2.1).trans l3.1,by omega,m,by rw[getD_of hy,hm],fun T tp hT htp=>⟨hT.2 i m (l3.1.2 i m (l2.1.2 i m e1 hm0) hm0) hm0,hm0,hpm,by omega,fun a b=>hT.2 _ _ (l3.1.2 _ _ (l2.2 a b) hv0) hv0,fun t ht=>hT.2 _ _ (l3.2 t ht) hv0⟩⟩
theorem goH_spec{pr:Int}{nc:Nat}:∀(r:List Ins) (i:Nat) (h:List Int) (top:Int) (T:List Int) (tp:Int),h.length=nc+1→i+r.length=nc→(∀x∈r,formedB pr nc x=true)→goH i r h top=some (T,tp)→leH h T∧top≤tp∧∀k x,r[k]?=some x→∃m,OkAt T tp (i+k) x m
 | [],i,h,top,T,tp,_,_,_,hg=>by
   simp only[goH,Option.some.injEq,Prod.mk.injEq]at hg
   obtain⟨rfl,rfl⟩:=hg
   exact⟨leH.refl _,Int.le_refl _,fun k x h=>by simp at h⟩
 | y ::r,i,h,top,T,tp,hl,hi,hf,hg=>by
   simp only[goH]at hg
   obtain⟨⟨h',top'⟩,h1,h2⟩:=Option.bind_eq_some_iff.1 hg
   simp only[lc1]at hi
   obtain⟨a1,a2,m,_,a3⟩:=stepH_spec hl om (hf y (List.mem_cons_self ..)) h1
   obtain⟨b1,b2,b3⟩:=goH_spec r (i+1) h' top' T tp (a1.1.trans hl) om (fun x hx=>hf x (List.mem_cons_of_mem _ hx)) h2
   refine⟨a1.trans b1,by omega,fun k x hk=>?_⟩
   cases k with
   |zero=>obtain rfl:=Option.some.inj hk;exact⟨m,a3 T tp b1 b2⟩
   | succ k=>
     obtain⟨m',hm'⟩:=b3 k x (by simpa using hk)
     exact⟨m',by rw[show i+(k+1)=i+1+k from by omega];exact hm'⟩
theorem verified{pr st:Int}{l:List Ins}(h:verifyV pr st l=0):st≤64∧l.length≤4000∧(0≤pr∧pr≤4)∧(∀x∈l,formedB pr l.length x=true)∧∃T:List Int,(∀k x,l[k]?=some x→∃m,OkAt T st k x m)∧T.length=l.length+1∧(l=[]∨T[0]?=some 0):=by
 unfold verifyV at h
 by_cases h1:64<st∨4000<l.length
 ·rw[if_pos h1]at h;cases h
 rw[if_neg h1]at h
 by_cases h2:pr<0∨4<pr
 ·rw[if_pos h2]at h;cases h
 rw[if_neg h2]at h
 by_cases h3:¬ ∀x∈l,formedB pr l.length x=true
 ·rw[if_pos h3]at h;cases h
 rw[if_neg h3]at h
 have h3:=Classical.not_not.1 h3
 by_cases h4:(heightsV l).2=false∨(heightsV l).1≠st
 ·rw[if_pos h4]at h;cases h
 refine⟨by omega,by omega,by omega,h3,?_⟩
 unfold heightsV at h4
 cases hg:goH 0 l (List.replicate (l.length+1) (-1)) 0 with
 |none=>rw[hg]at h4;simp at h4
 | some p=>
   obtain⟨T,tp⟩:=p
   rw[hg]at h4
   simp only[not_or,Classical.not_not]at h4
   obtain⟨b1,b2,b3⟩:=goH_spec (pr:=pr) (nc:=l.length) l 0 _ 0 T tp (by simp) om h3 hg
   refine⟨T,fun k x hk=>?_,by rw[b1.1];simp,?_⟩
   · obtain⟨m,hm⟩:=b3 k x hk
     rw[Nat.zero_add]at hm
     exact⟨m,by rw[←h4.2];exact hm⟩
   · cases l with
     |nil=>exact .inl rfl
     | cons y r=>
       right
       simp only[goH]at hg
       obtain⟨⟨h',top'⟩,g1,g2⟩:=Option.bind_eq_some_iff.1 hg
       obtain⟨a1,a2,m,hm,a3⟩:=stepH_spec (pr:=pr) (nc:=(y::r).length) (by simp) (by simp) (h3 y (List.mem_cons_self ..)) g1
       obtain⟨c1,c2,_⟩:=goH_spec (pr:=pr) (nc:=(y::r).length) r (0+1) h' top' T tp (a1.1.trans (by simp)) (by simp;omega) (fun x hx=>h3 x (List.mem_cons_of_mem _ hx)) g2
       have hm0:m=0:=by rw[hm];simp[List.replicate_succ];rfl
       rw[←hm0]
       exact(a3 T tp c1 c2).here
theorem pushes_of(i:Ins):(1≤(i.op:Int)∧(i.op:Int)≤5→popsN i=0∧(rowOf i.op).pushes=1)∧((i.op:Int)=9∨(i.op:Int)=10→(rowOf i.op).pushes=1)∧(11≤(i.op:Int)∧(i.op:Int)≤23→(rowOf i.op).pushes=1)∧((i.op:Int)=24∨(i.op:Int)=28→(rowOf i.op).pushes=0)∧((i.op:Int)=27∨(i.op:Int)=29∨(i.op:Int)=34→popsN i=0∧(rowOf i.op).pushes=0):=by
 have key:∀o:Nat,o<35→(1≤o∧o≤5→(rowOf o).pops=0∧(rowOf o).pushes=1)∧(o=9∨o=10→(rowOf o).pushes=1)∧(11≤o∧o≤23→(rowOf o).pushes=1)∧(o=24∨o=28→(rowOf o).pushes=0)∧(o=27∨o=29∨o=34→(rowOf o).pops=0∧(rowOf o).pushes=0):=by decide
 have h:=key i.op
 unfold popsN
 refine⟨fun h1=>?_,fun h1=>?_,fun h1=>?_,fun h1=>?_,fun h1=>?_⟩
 ·rw[if_neg om];exact(h om).1 om
 ·exact(h om).2.1 om
 ·exact(h om).2.2.1 om
 ·exact(h om).2.2.2.1 om
 ·rw[if_neg om];exact(h om).2.2.2.2 om
theorem formed_ops{pr:Int}{nc:Nat}{x:Ins}(h:formedB pr nc x=true):1≤(x.op:Int)∧(x.op:Int)≤34:=by
 unfold formedB at h
 simp only[Bool.and_eq_true,decide_eq_true_eq]at h
 exact⟨h.1.1.1.1.1.1,h.1.1.1.1.1.2⟩
theorem formed_a{pr:Int}{nc:Nat}{x:Ins}(h:formedB pr nc x=true)(h1:(x.op:Int)≠27∧(x.op:Int)≠28∧(x.op:Int)≠32):((x.op:Int)≠3→0≤x.a∧x.a≤63)∧((x.op:Int)=3→0≤x.a∧x.a<pr):=by
 unfold formedB at h
 simp only[Bool.and_eq_true]at h
 obtain⟨_,hr⟩:=h
 rw[if_neg om]at hr
 constructor
 · intro h3
   rw[if_neg h3]at hr
   by_cases hb:((x.op:Int)=30∨(x.op:Int)=31)∧(x.b<0∨63<x.b∨x.n<0∨4<x.n)
   ·rw[if_pos hb]at hr;cases hr
   · rw[if_neg hb]at hr
     simpa using hr
 · intro h3
   rw[if_pos h3]at hr
   simpa using hr
theorem step_shape{s:Sm}{x:Ins}{d:Dv}(hs:Simple x)(hops:1≤(x.op:Int)∧(x.op:Int)≤34)(hp:popsN x≤d.stack.length):
    ((stepV s x d).stack.length:Int)=aftH d.stack.length x∧(stepV s x d).vars.length=d.vars.length∧(stepV s x d).effs=d.effs∧(0≤d.cost∧d.cost≤200→0≤(stepV s x d).cost∧(stepV s x d).cost≤200)∧
    (((x.op:Int)=27∧(stepV s x d).next=x.a)∨((x.op:Int)=28∧((stepV s x d).next=x.a∨(stepV s x d).next=d.next))∨((x.op:Int)=34∧(stepV s x d).next=s.code.length)∨((x.op:Int)≠27∧(x.op:Int)≠34∧(stepV s x d).next=d.next)):=by
 obtain⟨s1,s2,s3,s4,s5,s6,s7,s8,s9⟩:=hs
 have hpo:=pops_of x
 have hpu:=pushes_of x
 have hlen:(d.stack.length:Int)-popsN x+(rowOf x.op).pushes=aftH d.stack.length x:=rfl
 by_cases c1:(x.op:Int)=1
 · have e:stepV s x d={d with stack:=d.stack++[x.n]}:=by unfold stepV;rw[if_pos c1]
   rw[e]
   refine⟨by first|omega|(simp only[lap,lc1,ln0,List.length_dropLast];omega),by first|rfl|exact List.length_set,rfl,fun h=>h, .inr (.inr (.inr ⟨by omega,by omega,rfl⟩))⟩
 by_cases c2:(x.op:Int)=2
 · have e:stepV s x d={d with stack:=d.stack++[d.vars.getD x.a.toNat 0]}:=by unfold stepV;rw[if_neg c1,if_pos c2]
   rw[e]
   refine⟨by first|omega|(simp only[lap,lc1,ln0,List.length_dropLast];omega),by first|rfl|exact List.length_set,rfl,fun h=>h, .inr (.inr (.inr ⟨by omega,by omega,rfl⟩))⟩
 by_cases c3:(x.op:Int)=3
 · have e:stepV s x d={d with stack:=d.stack++[s.args.getD x.a.toNat 0]}:=by unfold stepV;rw[if_neg c1,if_neg c2,if_pos c3]
   rw[e]
   refine⟨by first|omega|(simp only[lap,lc1,ln0,List.length_dropLast];omega),by first|rfl|exact List.length_set,rfl,fun h=>h, .inr (.inr (.inr ⟨by omega,by omega,rfl⟩))⟩
 by_cases c4:(x.op:Int)=4
 · have e:stepV s x d={d with stack:=d.stack++[tru (s.flags.getD x.a.toNat false)]}:=by unfold stepV;rw[if_neg c1,if_neg c2,if_neg c3,if_pos c4]
   rw[e]
   refine⟨by first|omega|(simp only[lap,lc1,ln0,List.length_dropLast];omega),by first|rfl|exact List.length_set,rfl,fun h=>h, .inr (.inr (.inr ⟨by omega,by omega,rfl⟩))⟩
 by_cases c5:(x.op:Int)=5
 · have e:stepV s x d={d with stack:=d.stack++[s.now]}:=by unfold stepV;rw[if_neg c1,if_neg c2,if_neg c3,if_neg c4,if_pos c5]
   rw[e]
   refine⟨by first|omega|(simp only[lap,lc1,ln0,List.length_dropLast];omega),by first|rfl|exact List.length_set,rfl,fun h=>h, .inr (.inr (.inr ⟨by omega,by omega,rfl⟩))⟩
 by_cases c6:(x.op:Int)=9∨(x.op:Int)=10
 · have e:stepV s x d={d with stack:=d.stack.dropLast++[unV x.op (d.stack.getLastD 0)]}:=by unfold stepV;rw[if_neg c1,if_neg c2,if_neg c3,if_neg c4,if_neg c5,if_pos c6]
   rw[e]
   refine⟨by first|omega|(simp only[lap,lc1,ln0,List.length_dropLast];omega),by first|rfl|exact List.length_set,rfl,fun h=>h, .inr (.inr (.inr ⟨by omega,by omega,rfl⟩))⟩
 by_cases c7:(x.op:Int)=24
 · have e:stepV s x d={d with stack:=d.stack.dropLast,vars:=d.vars.set x.a.toNat (d.stack.getLastD 0)}:=by unfold stepV;rw[if_neg c1,if_neg c2,if_neg c3,if_neg c4,if_neg c5,if_neg c6,if_pos c7]
   rw[e]
   refine⟨by first|omega|(simp only[lap,lc1,ln0,List.length_dropLast];omega),by first|rfl|exact List.length_set,rfl,fun h=>h, .inr (.inr (.inr ⟨by omega,by omega,rfl⟩))⟩
 by_cases c8:(x.op:Int)=27
 · have e:stepV s x d={d with next:=x.a}:=by unfold stepV;rw[if_neg c1,if_neg c2,if_neg c3,if_neg c4,if_neg c5,if_neg c6,if_neg c7,if_pos c8]
   rw[e]
   refine⟨by first|omega|(simp only[lap,lc1,ln0,List.length_dropLast];omega),by first|rfl|exact List.length_set,rfl,fun h=>h, .inl ⟨c8,rfl⟩⟩
 by_cases c9:(x.op:Int)=28
 · have e:stepV s x d={d with stack:=d.stack.dropLast,next:=if d.stack.getLastD 0=0 then x.a else d.next}:=by unfold stepV;rw[if_neg c1,if_neg c2,if_neg c3,if_neg c4,if_neg c5,if_neg c6,if_neg c7,if_neg c8,if_pos c9]
   rw[e]
   refine⟨by first|omega|(simp only[lap,lc1,ln0,List.length_dropLast];omega),by first|rfl|exact List.length_set,rfl,fun h=>h, .inr (.inl ⟨c9,?_⟩)⟩
   show(if d.stack.getLastD 0=0 then x.a else d.next)=x.a∨(if d.stack.getLastD 0=0 then x.a else d.next)=d.next
   split
   ·exact .inl rfl
   ·exact .inr rfl
 by_cases c10:(x.op:Int)=29
 · have e:stepV s x d={d with fault:=decide (d.cost=200),cost:=min (d.cost+1) 200}:=by unfold stepV;rw[if_neg c1,if_neg c2,if_neg c3,if_neg c4,if_neg c5,if_neg c6,if_neg c7,if_neg c8,if_neg c9,if_pos c10]
   rw[e]
   refine⟨by first|omega|(simp only[lap,lc1,ln0,List.length_dropLast];omega),by first|rfl|exact List.length_set,rfl,fun h=>by show 0≤min (d.cost+1) 200∧min (d.cost+1) 200≤200;omega, .inr (.inr (.inr ⟨by omega,by omega,rfl⟩))⟩
 have c11:¬((x.op:Int)=30∨(x.op:Int)=31):=om
 have c12:¬((x.op:Int)=32∨(x.op:Int)=33):=om
 have c14:¬((x.op:Int)=6∨(x.op:Int)=7∨(x.op:Int)=8∨(x.op:Int)=25∨(x.op:Int)=26):=om
 by_cases c13:(x.op:Int)=34
 · have e:stepV s x d={d with next:=s.code.length}:=by unfold stepV;rw[if_neg c1,if_neg c2,if_neg c3,if_neg c4,if_neg c5,if_neg c6,if_neg c7,if_neg c8,if_neg c9,if_neg c10,if_neg c11,if_neg c12,if_pos c13]
   rw[e]
   refine⟨by first|omega|(simp only[lap,lc1,ln0,List.length_dropLast];omega),by first|rfl|exact List.length_set,rfl,fun h=>h, .inr (.inr (.inl ⟨c13,rfl⟩))⟩
 · have e:stepV s x d={d with stack:=d.stack.dropLast.dropLast++[binV x.op (d.stack.dropLast.getLastD 0) (d.stack.getLastD 0)]}:=by unfold stepV;rw[if_neg c1,if_neg c2,if_neg c3,if_neg c4,if_neg c5,if_neg c6,if_neg c7,if_neg c8,if_neg c9,if_neg c10,if_neg c11,if_neg c12,if_neg c13,if_neg c14]
   rw[e]
   refine⟨by first|omega|(simp only[lap,lc1,ln0,List.length_dropLast];omega),by first|rfl|exact List.length_set,rfl,fun h=>h, .inr (.inr (.inr ⟨by omega,by omega,rfl⟩))⟩
def exC0:List Ins:=[⟨29,0,0,0⟩,⟨1,0,0,1⟩,⟨28,8,0,0⟩,⟨29,0,0,0⟩,⟨2,0,0,0⟩,⟨1,0,0,1⟩,⟨14,0,0,0⟩,⟨24,0,0,0⟩,⟨27,0,0,0⟩]
def exC:List Ins:=[⟨29,0,0,0⟩,⟨1,0,0,1⟩,⟨28,9,0,0⟩,⟨29,0,0,0⟩,⟨2,0,0,0⟩,⟨1,0,0,1⟩,⟨14,0,0,0⟩,⟨24,0,0,0⟩,⟨27,0,0,0⟩]
theorem ex_verify:verifyV 0 2 exC=0:=by decide+kernel
theorem ex_refers:∀x∈exC,referB x 1 0 0=true:=by decide+kernel
instance(x:Ins):Decidable (Simple x):=by unfold Simple;infer_instance
end Go.Proofs.YtlihklladkagpaaGreatDoor
