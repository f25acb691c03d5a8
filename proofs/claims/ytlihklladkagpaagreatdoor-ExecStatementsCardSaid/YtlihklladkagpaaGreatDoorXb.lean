/- Own text. -/
import Derived.Test.YtlihklladkagpaaGreatDoorXa
set_option linter.unusedVariables false
set_option linter.unusedSimpArgs false
set_option maxHeartbeats 2000000
set_option maxRecDepth 100000
namespace Go.Proofs.YtlihklladkagpaaGreatDoor
open Go.Proofs.Tryz
open Go.RowKit Go.Flow Go.Mem Go.Sep
def Ph:EfV:=⟨5,0,0,0,0,0,false,[]⟩
def Zu(d:Dv):Dv:={d with effs:=d.effs++[Ph]}
def Nl(s:Sm):Nat→Dv→Dv
 |0,d=>if d.next<s.code.length then Zu {d with fault:=true}else d
 | f +1,d=>if d.next<s.code.length then
     (let d':=Bj s (s.code.getD d.next.toNat ⟨0,0,0,0⟩) {d with next:=d.next+1}
      if d'.fault=true then Zu d' else Nl s f d')else d
def Ui(x:Ins):Prop:=((x.op:Nat):Int)≠6∧((x.op:Nat):Int)≠7∧((x.op:Nat):Int)≠8∧((x.op:Nat):Int)≠25∧((x.op:Nat):Int)≠26∧((x.op:Nat):Int)≠30∧((x.op:Nat):Int)≠31∧((x.op:Nat):Int)≠32∧((x.op:Nat):Int)≠33
structure aDz(s:Sm)(I:Dv→Prop):Prop where
 next:∀d,I d→0≤d.next
 fit:∀d x,I d→s.code[d.next.toNat]?=some x→Fit s x {d with next:=d.next+1}∧Ui x
 step:∀d x,I d→s.code[d.next.toNat]?=some x→(Bj s x {d with next:=d.next+1}).fault=false→I (Bj s x {d with next:=d.next+1})
 effs:∀d,I d→d.effs.length≤1000
theorem Zv{s:Sm}{d:Dv}(h:¬d.next<s.code.length):∀f,Nl s f d=d
 |0=>by rw[Nl,aEa h]
 |f+1=>by rw[Nl,aEa h]
theorem Wt{s:Sm}{d:Dv}{x:Ins}(h:d.next<s.code.length)(hx:s.code[d.next.toNat]?=some x)(f:Nat):Nl s (f+1) d=if(Bj s x {d with next:=d.next+1}).fault=true then Zu (Bj s x {d with next:=d.next+1})else Nl s f (Bj s x {d with next:=d.next+1}):=by
 rw[Nl,aEh h,show s.code.getD d.next.toNat ⟨0,0,0,0⟩=x from by rw[aEx,hx];rfl]
theorem KD(n:Nat)(hn:n<256):
    Dz 110 [.int .u64 ((n:Nat):Int)] [] (fun v Γ'=>∃k:Int,v=iv k∧Γ'=[]):=by
 refine Am func110 ntmps110 fun w0=>?_
 refine Jz 12 ?_
 refine Jcp rfl ?_ ?_<;>intro c4
 exact absurd c4 om
 refine Jz 9 ?_
 refine Jcp rfl ?_ ?_<;>intro c8
 exact absurd c8 om
 refine Jz 9 ?_
 refine Jcp rfl ?_ ?_<;>intro c14
 exact absurd c14 om
 refine Jz 6 ?_
 refine Jr (Fv rfl rfl underlying267 underlying5 (IntWalk.u8_in _ om)) ?_
 refine DU (j:=n) rfl rfl rfl rfl underlying9 rfl rfl (by show n<256;exact hn) (fun n22 hn22=>?_)
 refine Jr (Fv rfl rfl underlying5 underlying3 (IntWalk.i64_in _ om)) ?_
 refine Jr (Hl rfl rfl rfl om) ?_
 refine Jz 4 ?_
 refine Ce [] rfl (Je1 results110 ?_)
 exact⟨_,rfl,rfl⟩
theorem QO(n:Nat)(hn:n<256):
    Dz 62 [.int .u64 ((n:Nat):Int)] [] (fun v Γ'=>∃k:Int,v=iv k∧Γ'=[]):=by
 refine Am func62 ntmps62 fun w0=>?_
 refine Jz 12 ?_
 refine Jqf (KD n om) rfl (ocn _) ?_
 rintro _ _ ⟨k1,rfl,rfl⟩
 refine⟨rfl,?_⟩
 refine Jz 4 ?_
 refine Ce [] rfl (Je1 results62 ?_)
 exact⟨_,rfl,rfl⟩
theorem bL{Γ:List Ai}{w:World}{α:Type}{enc:α→List Value}{size:Nat}(E:Enc enc size)(hp:0<size){A:OA}{l:List α}(hA:A.isNone=true)(i:Nat)(h:Γ[i]?=some (ros enc A l))(hs:sat Γ w):l=[]:=by
 cases hl:l with
 |nil=>rfl
 | cons x r=>
   have:=rR E hp (A:=A) (l:=l) (by rw[hl];simp) i h hs
   rw[hA]at this;cases this
theorem iL(A:OA)(q:Nat)(l:List Int)(hl:l.length≤1000000):
    Dz 35 [vs A l q] [ros aLz A l] (fun v Γ'=>∃B p,v=vs B l p∧Γ'=[rows aLz 2 1 B p l]):=by
 refine Am func35 ntmps35 fun w0=>?_
 refine Jz 9 ?_
 refine Jr (Cr (v':= .bool A.isNone) rfl (Tp (A:=A) rfl underlying28 rfl rfl)) ?_
 refine Jn (Jt (Ed rfl (fun c4=>?_) (fun c4=>?_)))
 refine Js (Lt (p:=l=[]) (fun w hw=>bL Cy (by decide) c4 0 rfl hw) (fun hl0=>?_))
 subst hl0
 refine Cz (aLz) 2 1 (Jz 6 ?_)
 refine Ce [0] rfl (Je1 results35 ?_)
 exact⟨_,_,rfl,rfl⟩
 refine Jz 4 ?_
 refine Jmk rfl rfl rfl (Hg (enc:=aLz) rfl s28) ?_
 rintro _ _ ⟨A5,rfl,rfl⟩
 refine Jm ?_
 refine Jge rfl rfl rfl (Hf Cy (i:=0) (m:=l) rfl s28 rfl rfl rfl (Ya (i:=1) rfl) om om) ?_
 rintro _ _ ⟨A7,q7,rfl,rfl⟩
 refine Jz 4 ?_
 refine Ce [0] rfl (Je1 results35 ?_)
 exact⟨_,_,rfl,rfl⟩
def Fq(x:Ins)(mv nt nf:Nat):Bool:=
 if((x.op:Nat):Int)=2∨((x.op:Nat):Int)=24∨((x.op:Nat):Int)=33 then decide (x.a<mv)else if((x.op:Nat):Int)=4 then decide (x.a<nf)else
 if((x.op:Nat):Int)=6∨((x.op:Nat):Int)=7∨((x.op:Nat):Int)=8∨((x.op:Nat):Int)=25∨((x.op:Nat):Int)=26 then decide (x.a<nt)else true
theorem EH(x:Ins)(Av At Ad Aa Ag Af:OA)(mv qv nt qt nd qd na qa nf qg nl qf:Nat)(now dk:Int):
    Dz 32 [.agg (Ins.cells x).toArray, .agg #[.slice Av mv qv, .slice At nt qt, .slice Ad nd qd], .agg #[.slice Aa na qa,iv now, .slice Ag nf qg,iv dk, .slice Af nl qf]] [] (fun v _=>v= .bool (Fq x mv nt nf)):=by
 refine Am func32 ntmps32 fun w0=>?_
 refine Js (To.g (Jbo fun b3=>?_))
 refine Jbo fun b4=>?_
 refine Jbo fun b5=>?_
 refine Jz 18 ?_
 refine Jcp rfl ?_ ?_<;>intro k9
 refine Jsp (Jt (Gm (congrArg (fun b=>some (Value.bool b)) (aEk k9)) (Jz 14 ?_)))
 refine Je1 results32 ?_
 simp[Fq,k9]
 refine Jz 6 ?_
 refine Jcp rfl ?_ ?_<;>intro k9_2
 refine Jsp (Jt (Gm (congrArg (fun b=>some (Value.bool b)) (aEk k9_2)) (Jz 14 ?_)))
 refine Je1 results32 ?_
 simp[Fq,k9_2]
 refine Jz 5 ?_
 refine Jcp rfl ?_ ?_<;>intro k9_3
 refine Jz 14 ?_
 refine Je1 results32 ?_
 simp[Fq,k9_3]
 refine Jz 6 ?_
 refine Jcp rfl ?_ ?_<;>intro k19
 refine Jz 14 ?_
 refine Je1 results32 ?_
 simp[Fq,k19]
 refine Jz 7 ?_
 refine Jcp rfl ?_ ?_<;>intro k27
 refine Jsp (Jt (Gm (congrArg (fun b=>some (Value.bool b)) (aEk k27)) (Jz 14 ?_)))
 refine Je1 results32 ?_
 simp[Fq,k27]
 refine Jz 6 ?_
 refine Jcp rfl ?_ ?_<;>intro k27_2
 refine Jsp (Jt (Gm (congrArg (fun b=>some (Value.bool b)) (aEk k27_2)) (Jz 14 ?_)))
 refine Je1 results32 ?_
 simp[Fq,k27_2]
 refine Jz 6 ?_
 refine Jcp rfl ?_ ?_<;>intro k27_3
 refine Jsp (Jt (Gm (congrArg (fun b=>some (Value.bool b)) (aEk k27_3)) (Jz 14 ?_)))
 refine Je1 results32 ?_
 simp[Fq,k27_3]
 refine Jz 6 ?_
 refine Jcp rfl ?_ ?_<;>intro k27_4
 refine Jsp (Jt (Gm (congrArg (fun b=>some (Value.bool b)) (aEk k27_4)) (Jz 14 ?_)))
 refine Je1 results32 ?_
 simp[Fq,k27_4]
 refine Jz 5 ?_
 refine Jcp rfl ?_ ?_<;>intro k27_5
 refine Jz 14 ?_
 refine Je1 results32 ?_
 simp[Fq,k27_5]
 refine Jz 9 ?_
 refine Je1 results32 ?_
 simp[Fq,k9,k9_2,k9_3,k19,k27,k27_2,k27_3,k27_4,k27_5]
abbrev s0(A:OA)(q:Nat)(l:List Ins):Sm:=⟨A,q,l,none,0,[],0,none,0,[],0,none,0,[]⟩
open Go.Sep
def leH(h h':List Int):Prop:=h'.length=h.length∧∀(j:Nat) (y:Int),h[j]?=some y→0≤y→h'[j]?=some y
theorem leH.refl(h:List Int):leH h h:=⟨rfl,fun _ _ h _=>h⟩
theorem leH.trans{a b c:List Int}(h:leH a b)(k:leH b c):leH a c:=⟨k.1.trans h.1,fun j y hj hy=>k.2 j y (h.2 j y hj hy) hy⟩
theorem pE{h:List Int}{t:Nat}{v y:Int}(hy:h[t]?=some y)(hok:okH y v):leH h (h.set t v):=by
 refine⟨aEj,fun j z hj hz=>?_⟩
 by_cases e:t=j
 · subst e
   rw[hy]at hj
   obtain rfl:=aEn hj
   rw[List.getElem?_set_self (aEc.1 hy).1]
   rcases hok with h1|h1
   ·omega
   ·rw[h1]
 ·rw[List.getElem?_set_ne e];exact hj
theorem aGu{h:List Int}{t:Nat}{v:Int}(ht:t<h.length):(h.set t v)[t]?=some v:=List.getElem?_set_self ht
structure QP(T:List Int)(tp:Int)(i:Nat)(x:Ins)(m:Int):Prop where
 here:T[i]?=some m
 pos:0≤m
 pops:Fx x≤m
 top:m≤tp
 next:((x.op:Nat):Int)≠27→((x.op:Nat):Int)≠34→T[i+1]?=some (Mi m x)
 jump:∀t,tgt x=some t→T[t.toNat]?=some (Mi m x)
theorem QQ{m:Int}{x:Ins}(h:Fx x≤m):0≤Mi m x:=by
 have:=iI x.op
 unfold Mi;omega
theorem iM{pr:Int}{nc:Nat}{h h':List Int}{top top':Int}{i:Nat}{x:Ins}(hl:h.length=nc+1)(hi:i<nc)(hf:Gn pr nc x=true)(hs:Mj h top i x=some (h',top')):
    leH h h'∧top≤top'∧∃m,m=max (h.getD i 0) 0∧∀T tp,leH h' T→top'≤tp→QP T tp i x m:=by
 obtain⟨y,hy⟩:=exg h i om
 have hxf:=Yf hf
 unfold Mj at hs
 simp only[Ld hy]at hs
 obtain⟨m,hm⟩:∃m,m=max y 0:=⟨_,rfl⟩
 rw[←hm]at hs
 by_cases hbad:m<Fx x∨(((x.op:Nat):Int)=34∧m≠0)
 ·rw[aEh hbad]at hs;cases hs
 rw[aEa hbad]at hs
 obtain⟨h2,h2e,hs⟩:=Option.bind_eq_some_iff.1 hs
 obtain⟨h3,h3e,he⟩:=aFg.1 hs
 simp only[Prod.mk.injEq]at he
 obtain⟨rfl,rfl⟩:=he
 have hpm:Fx x≤m:=om
 have hm0:0≤m:=om
 have hv0:=QQ hpm
 have l1:leH h (h.set i m):=pE hy (by unfold okH;omega)
 have e1:(h.set i m)[i]?=some m:=aGu om
 have l2:leH (h.set i m) h2∧(((x.op:Nat):Int)≠27→((x.op:Nat):Int)≠34→h2[i+1]?=some (Mi m x)):=by
  unfold Vq at h2e
  by_cases hc:((x.op:Nat):Int)≠27∧((x.op:Nat):Int)≠34
  · rw[aEh hc]at h2e
    obtain⟨y2,hy2⟩:∃z0,(h.set i m)[i+1]?=some z0:=⟨(h.set i m)[i+1]'(by rw[aEj];omega),gge _⟩
    rw[Ld hy2]at h2e
    by_cases hok:okH y2 (Mi m x)
    · rw[aEh hok]at h2e
      obtain rfl:=aEn h2e
      exact⟨pE hy2 hok,fun _ _=>aGu (by rw[aEj];omega)⟩
    ·rw[aEa hok]at h2e;cases h2e
  · rw[aEa hc]at h2e
    obtain rfl:=aEn h2e
    exact⟨leH.refl _,fun a b=>absurd ⟨a,b⟩ hc⟩
 have l3:leH h2 h3∧∀t,tgt x=some t→h3[t.toNat]?=some (Mi m x):=by
  unfold Vt at h3e
  cases ht:tgt x with
  | none=>
    rw[ht]at h3e
    simp only[Option.isSome_none,Bool.false_eq_true,if_false,Option.some.injEq]at h3e
    subst h3e
    exact⟨leH.refl _,fun t h=>by cases h⟩
  | some t=>
    rw[ht]at h3e hxf
    simp only[Option.isSome_some,if_true,Option.getD_some]at h3e hxf
    have hlt:t.toNat<h2.length:=by rw[l2.1.1,l1.1,hl];omega
    obtain⟨y3,hy3⟩:∃z0,h2[t.toNat]?=some z0:=⟨h2[t.toNat],gge hlt⟩
    rw[Ld hy3]at h3e
    by_cases hok:okH y3 (Mi m x)
    · rw[aEh hok]at h3e
      obtain rfl:=aEn h3e
      exact⟨pE hy3 hok,fun t' h=>by obtain rfl:=aEn h;exact aGu hlt⟩
    ·rw[aEa hok]at h3e;cases h3e
 refine⟨(l1.trans l2.1).trans l3.1,by omega,m,by rw[Ld hy,hm],fun T tp hT htp=>⟨hT.2 i m (l3.1.2 i m (l2.1.2 i m e1 hm0) hm0) hm0,hm0,hpm,by omega,fun a b=>hT.2 _ _ (l3.1.2 _ _ (l2.2 a b) hv0) hv0,fun t ht=>hT.2 _ _ (l3.2 t ht) hv0⟩⟩
theorem iN{pr:Int}{nc:Nat}:∀(r:List Ins) (i:Nat) (h:List Int) (top:Int) (T:List Int) (tp:Int),h.length=nc+1→i+r.length=nc→(∀x∈r,Gn pr nc x=true)→goH i r h top=some (T,tp)→leH h T∧top≤tp∧∀k x,r[k]?=some x→∃m,QP T tp (i+k) x m
 | [],i,h,top,T,tp,_,_,_,hg=>by
   simp only[goH,Option.some.injEq,Prod.mk.injEq]at hg
   obtain⟨rfl,rfl⟩:=hg
   exact⟨leH.refl _,Int.le_refl _,fun k x h=>by simp at h⟩
 | y ::r,i,h,top,T,tp,hl,hi,hf,hg=>by
   simp only[goH]at hg
   obtain⟨⟨h',top'⟩,h1,h2⟩:=Option.bind_eq_some_iff.1 hg
   simp only[lc1]at hi
   obtain⟨a1,a2,m,_,a3⟩:=iM hl om (hf y (aEd ..)) h1
   obtain⟨b1,b2,b3⟩:=iN r (i+1) h' top' T tp (a1.1.trans hl) om (fun x hx=>hf x (aEb _ hx)) h2
   refine⟨a1.trans b1,by omega,fun k x hk=>?_⟩
   cases k with
   |zero=>obtain rfl:=aEn hk;exact⟨m,a3 T tp b1 b2⟩
   | succ k=>
     obtain⟨m',hm'⟩:=b3 k x (by simpa using hk)
     exact⟨m',by rw[show i+(k+1)=i+1+k from by omega];exact hm'⟩
theorem sI{pr st:Int}{l:List Ins}(h:Kg pr st l=0):st≤64∧l.length≤4000∧(0≤pr∧pr≤4)∧(∀x∈l,Gn pr l.length x=true)∧∃T:List Int,(∀k x,l[k]?=some x→∃m,QP T st k x m)∧T.length=l.length+1∧(l=[]∨T[0]?=some 0):=by
 unfold Kg at h
 by_cases h1:64<st∨4000<l.length
 ·rw[aEh h1]at h;cases h
 rw[aEa h1]at h
 by_cases h2:pr<0∨4<pr
 ·rw[aEh h2]at h;cases h
 rw[aEa h2]at h
 by_cases h3:¬ ∀x∈l,Gn pr l.length x=true
 ·rw[aEh h3]at h;cases h
 rw[aEa h3]at h
 have h3:=Classical.not_not.1 h3
 by_cases h4:(Et l).2=false∨(Et l).1≠st
 ·rw[aEh h4]at h;cases h
 refine⟨by omega,by omega,by omega,h3,?_⟩
 unfold Et at h4
 cases hg:goH 0 l (List.replicate (l.length+1) (-1)) 0 with
 |none=>rw[hg]at h4;simp at h4
 | some p=>
   obtain⟨T,tp⟩:=p
   rw[hg]at h4
   simp only[not_or,Classical.not_not]at h4
   obtain⟨b1,b2,b3⟩:=iN (pr:=pr) (nc:=l.length) l 0 _ 0 T tp (by simp) om h3 hg
   refine⟨T,fun k x hk=>?_,by rw[b1.1];simp,?_⟩
   · obtain⟨m,hm⟩:=b3 k x hk
     rw[aFl]at hm
     exact⟨m,by rw[←h4.2];exact hm⟩
   · cases l with
     |nil=>exact .inl rfl
     | cons y r=>
       right
       simp only[goH]at hg
       obtain⟨⟨h',top'⟩,g1,g2⟩:=Option.bind_eq_some_iff.1 hg
       obtain⟨a1,a2,m,hm,a3⟩:=iM (pr:=pr) (nc:=(y::r).length) (by simp) (by simp) (h3 y (aEd ..)) g1
       obtain⟨c1,c2,_⟩:=iN (pr:=pr) (nc:=(y::r).length) r (0+1) h' top' T tp (a1.1.trans (by simp)) (by simp;omega) (fun x hx=>h3 x (aEb _ hx)) g2
       have hm0:m=0:=by rw[hm];simp[List.replicate_succ];rfl
       rw[←hm0]
       exact(a3 T tp c1 c2).here
theorem EI(i:Ins):(1≤(i.op:Int)∧(i.op:Int)≤5→Fx i=0∧(rowOf i.op).pushes=1)∧((i.op:Int)=9∨(i.op:Int)=10→(rowOf i.op).pushes=1)∧(11≤(i.op:Int)∧(i.op:Int)≤23→(rowOf i.op).pushes=1)∧((i.op:Int)=24∨(i.op:Int)=28→(rowOf i.op).pushes=0)∧((i.op:Int)=27∨(i.op:Int)=29∨(i.op:Int)=34→Fx i=0∧(rowOf i.op).pushes=0):=by
 have key:∀o:Nat,o<35→(1≤o∧o≤5→(rowOf o).pops=0∧(rowOf o).pushes=1)∧(o=9∨o=10→(rowOf o).pushes=1)∧(11≤o∧o≤23→(rowOf o).pushes=1)∧(o=24∨o=28→(rowOf o).pushes=0)∧(o=27∨o=29∨o=34→(rowOf o).pops=0∧(rowOf o).pushes=0):=by decide
 have h:=key i.op
 unfold Fx
 refine⟨fun h1=>?_,fun h1=>?_,fun h1=>?_,fun h1=>?_,fun h1=>?_⟩
 ·rw[aEa om];exact(h om).1 om
 ·exact(h om).2.1 om
 ·exact(h om).2.2.1 om
 ·exact(h om).2.2.2.1 om
 ·rw[aEa om];exact(h om).2.2.2.2 om
theorem iO{pr:Int}{nc:Nat}{x:Ins}(h:Gn pr nc x=true):1≤(x.op:Int)∧(x.op:Int)≤34:=by
 unfold Gn at h
 simp only[aFd,aFm]at h
 exact⟨h.1.1.1.1.1.1,h.1.1.1.1.1.2⟩
theorem KE{pr:Int}{nc:Nat}{x:Ins}(h:Gn pr nc x=true)(h1:(x.op:Int)≠27∧(x.op:Int)≠28∧(x.op:Int)≠32):((x.op:Int)≠3→0≤x.a∧x.a≤63)∧((x.op:Int)=3→0≤x.a∧x.a<pr):=by
 unfold Gn at h
 simp only[aFd]at h
 obtain⟨_,hr⟩:=h
 rw[aEa om]at hr
 constructor
 · intro h3
   rw[aEa h3]at hr
   by_cases hb:((x.op:Int)=30∨(x.op:Int)=31)∧(x.b<0∨63<x.b∨x.n<0∨4<x.n)
   ·rw[aEh hb]at hr;cases hr
   · rw[aEa hb]at hr
     simpa using hr
 · intro h3
   rw[aEh h3]at hr
   simpa using hr
theorem iP{s:Sm}{x:Ins}{d:Dv}(hs:Ui x)(hops:1≤(x.op:Int)∧(x.op:Int)≤34)(hp:Fx x≤d.stack.length):
    ((Bj s x d).stack.length:Int)=Mi d.stack.length x∧(Bj s x d).vars.length=d.vars.length∧(Bj s x d).effs=d.effs∧(0≤d.cost∧d.cost≤200→0≤(Bj s x d).cost∧(Bj s x d).cost≤200)∧
    (((x.op:Int)=27∧(Bj s x d).next=x.a)∨((x.op:Int)=28∧((Bj s x d).next=x.a∨(Bj s x d).next=d.next))∨((x.op:Int)=34∧(Bj s x d).next=s.code.length)∨((x.op:Int)≠27∧(x.op:Int)≠34∧(Bj s x d).next=d.next)):=by
 obtain⟨s1,s2,s3,s4,s5,s6,s7,s8,s9⟩:=hs
 have hpo:=Ql x
 have hpu:=EI x
 have hlen:(d.stack.length:Int)-Fx x+(rowOf x.op).pushes=Mi d.stack.length x:=rfl
 by_cases c1:(x.op:Int)=1
 · have e:Bj s x d={d with stack:=d.stack++[x.n]}:=by unfold Bj;rw[aEh c1]
   rw[e]
   refine⟨by first|omega|(simp only[lap,lc1,ln0,aEf];omega),by first|rfl|exact aEj,rfl,fun h=>h, .inr (.inr (.inr ⟨by omega,by omega,rfl⟩))⟩
 by_cases c2:(x.op:Int)=2
 · have e:Bj s x d={d with stack:=d.stack++[d.vars.getD x.a.toNat 0]}:=by unfold Bj;rw[aEa c1,aEh c2]
   rw[e]
   refine⟨by first|omega|(simp only[lap,lc1,ln0,aEf];omega),by first|rfl|exact aEj,rfl,fun h=>h, .inr (.inr (.inr ⟨by omega,by omega,rfl⟩))⟩
 by_cases c3:(x.op:Int)=3
 · have e:Bj s x d={d with stack:=d.stack++[s.args.getD x.a.toNat 0]}:=by unfold Bj;rw[aEa c1,aEa c2,aEh c3]
   rw[e]
   refine⟨by first|omega|(simp only[lap,lc1,ln0,aEf];omega),by first|rfl|exact aEj,rfl,fun h=>h, .inr (.inr (.inr ⟨by omega,by omega,rfl⟩))⟩
 by_cases c4:(x.op:Int)=4
 · have e:Bj s x d={d with stack:=d.stack++[tru (s.flags.getD x.a.toNat false)]}:=by unfold Bj;rw[aEa c1,aEa c2,aEa c3,aEh c4]
   rw[e]
   refine⟨by first|omega|(simp only[lap,lc1,ln0,aEf];omega),by first|rfl|exact aEj,rfl,fun h=>h, .inr (.inr (.inr ⟨by omega,by omega,rfl⟩))⟩
 by_cases c5:(x.op:Int)=5
 · have e:Bj s x d={d with stack:=d.stack++[s.now]}:=by unfold Bj;rw[aEa c1,aEa c2,aEa c3,aEa c4,aEh c5]
   rw[e]
   refine⟨by first|omega|(simp only[lap,lc1,ln0,aEf];omega),by first|rfl|exact aEj,rfl,fun h=>h, .inr (.inr (.inr ⟨by omega,by omega,rfl⟩))⟩
 by_cases c6:(x.op:Int)=9∨(x.op:Int)=10
 · have e:Bj s x d={d with stack:=d.stack.dropLast++[unV x.op (d.stack.getLastD 0)]}:=by unfold Bj;rw[aEa c1,aEa c2,aEa c3,aEa c4,aEa c5,aEh c6]
   rw[e]
   refine⟨by first|omega|(simp only[lap,lc1,ln0,aEf];omega),by first|rfl|exact aEj,rfl,fun h=>h, .inr (.inr (.inr ⟨by omega,by omega,rfl⟩))⟩
 by_cases c7:(x.op:Int)=24
 · have e:Bj s x d={d with stack:=d.stack.dropLast,vars:=d.vars.set x.a.toNat (d.stack.getLastD 0)}:=by unfold Bj;rw[aEa c1,aEa c2,aEa c3,aEa c4,aEa c5,aEa c6,aEh c7]
   rw[e]
   refine⟨by first|omega|(simp only[lap,lc1,ln0,aEf];omega),by first|rfl|exact aEj,rfl,fun h=>h, .inr (.inr (.inr ⟨by omega,by omega,rfl⟩))⟩
 by_cases c8:(x.op:Int)=27
 · have e:Bj s x d={d with next:=x.a}:=by unfold Bj;rw[aEa c1,aEa c2,aEa c3,aEa c4,aEa c5,aEa c6,aEa c7,aEh c8]
   rw[e]
   refine⟨by first|omega|(simp only[lap,lc1,ln0,aEf];omega),by first|rfl|exact aEj,rfl,fun h=>h, .inl ⟨c8,rfl⟩⟩
 by_cases c9:(x.op:Int)=28
 · have e:Bj s x d={d with stack:=d.stack.dropLast,next:=if d.stack.getLastD 0=0 then x.a else d.next}:=by unfold Bj;rw[aEa c1,aEa c2,aEa c3,aEa c4,aEa c5,aEa c6,aEa c7,aEa c8,aEh c9]
   rw[e]
   refine⟨by first|omega|(simp only[lap,lc1,ln0,aEf];omega),by first|rfl|exact aEj,rfl,fun h=>h, .inr (.inl ⟨c9,?_⟩)⟩
   show(if d.stack.getLastD 0=0 then x.a else d.next)=x.a∨(if d.stack.getLastD 0=0 then x.a else d.next)=d.next
   split
   ·exact .inl rfl
   ·exact .inr rfl
 by_cases c10:(x.op:Int)=29
 · have e:Bj s x d={d with fault:=decide (d.cost=200),cost:=min (d.cost+1) 200}:=by unfold Bj;rw[aEa c1,aEa c2,aEa c3,aEa c4,aEa c5,aEa c6,aEa c7,aEa c8,aEa c9,aEh c10]
   rw[e]
   refine⟨by first|omega|(simp only[lap,lc1,ln0,aEf];omega),by first|rfl|exact aEj,rfl,fun h=>by show 0≤min (d.cost+1) 200∧min (d.cost+1) 200≤200;omega, .inr (.inr (.inr ⟨by omega,by omega,rfl⟩))⟩
 have c11:¬((x.op:Int)=30∨(x.op:Int)=31):=om
 have c12:¬((x.op:Int)=32∨(x.op:Int)=33):=om
 have c14:¬((x.op:Int)=6∨(x.op:Int)=7∨(x.op:Int)=8∨(x.op:Int)=25∨(x.op:Int)=26):=om
 by_cases c13:(x.op:Int)=34
 · have e:Bj s x d={d with next:=s.code.length}:=by unfold Bj;rw[aEa c1,aEa c2,aEa c3,aEa c4,aEa c5,aEa c6,aEa c7,aEa c8,aEa c9,aEa c10,aEa c11,aEa c12,aEh c13]
   rw[e]
   refine⟨by first|omega|(simp only[lap,lc1,ln0,aEf];omega),by first|rfl|exact aEj,rfl,fun h=>h, .inr (.inr (.inl ⟨c13,rfl⟩))⟩
 · have e:Bj s x d={d with stack:=d.stack.dropLast.dropLast++[Ha x.op (d.stack.dropLast.getLastD 0) (d.stack.getLastD 0)]}:=by unfold Bj;rw[aEa c1,aEa c2,aEa c3,aEa c4,aEa c5,aEa c6,aEa c7,aEa c8,aEa c9,aEa c10,aEa c11,aEa c12,aEa c13,aEa c14]
   rw[e]
   refine⟨by first|omega|(simp only[lap,lc1,ln0,aEf];omega),by first|rfl|exact aEj,rfl,fun h=>h, .inr (.inr (.inr ⟨by omega,by omega,rfl⟩))⟩
def QR:List Ins:=[⟨29,0,0,0⟩,⟨1,0,0,1⟩,⟨28,8,0,0⟩,⟨29,0,0,0⟩,⟨2,0,0,0⟩,⟨1,0,0,1⟩,⟨14,0,0,0⟩,⟨24,0,0,0⟩,⟨27,0,0,0⟩]
def exC:List Ins:=[⟨29,0,0,0⟩,⟨1,0,0,1⟩,⟨28,9,0,0⟩,⟨29,0,0,0⟩,⟨2,0,0,0⟩,⟨1,0,0,1⟩,⟨14,0,0,0⟩,⟨24,0,0,0⟩,⟨27,0,0,0⟩]
theorem EJ:Kg 0 2 exC=0:=by decide+kernel
theorem EK:∀x∈exC,Fq x 1 0 0=true:=by decide+kernel
instance(x:Ins):Decidable (Ui x):=by unfold Ui;infer_instance
end Go.Proofs.YtlihklladkagpaaGreatDoor
