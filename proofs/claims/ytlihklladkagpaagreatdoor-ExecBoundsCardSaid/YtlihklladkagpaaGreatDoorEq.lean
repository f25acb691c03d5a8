/- Own text. -/
import Derived.Test.YtlihklladkagpaaGreatDoorXh
set_option linter.unusedVariables false
set_option linter.unusedSimpArgs false
namespace Go.Proofs.YtlihklladkagpaaGreatDoor
open Go.RowKit Go.Flow Go.Mem Go.Sep Go.In
def nxC(c:Nat)(x:Ins):Nat:=if x.op=29 then 1 else if x.op≤23 then c else 0
def crd(l:List Ins):Nat:=l.foldl nxC 0
theorem crd_app(l m:List Ins):crd (l++m)=m.foldl nxC (crd l):=List.foldl_append
theorem crd_one(l:List Ins)(x:Ins):crd (l++[x])=nxC (crd l) x:=crd_app l [x]
theorem crd_low:∀(l:List Ins) (c:Nat),(∀x∈l,x.op≤23)→l.foldl nxC c=c
 |[],_,_=>rfl
 | x::r,c,h=>by
   have h0:=h x (List.mem_cons_self ..)
   show r.foldl nxC (nxC c x)=c
   rw[show nxC c x=c from by unfold nxC;rw[if_neg om,if_pos h0],crd_low r c fun y hy=>h y (List.mem_cons_of_mem _ hy)]
def isDk(x:Ins):Prop:=x.op=32∨x.op=33
def CrL(L:List Ins)(i n:Nat):Prop:=∀k,i≤k→k<i+n→∀x,L[k]?=some x→(isDk x→crd (L.take k)=1)∧∀t,tgt x=some t→∃j:Nat,j≤L.length∧t=(j:Int)∧crd (L.take j)=0
theorem CrL.nil{L:List Ins}{i:Nat}:CrL L i 0:=fun k h1 h2=>by omega
theorem CrL.add{L:List Ins}{i a b:Nat}(h:CrL L i a)(k:CrL L (i+a) b):CrL L i (a+b):=fun n h1 h2 x hx=>by
 by_cases e:n<i+a
 ·exact h n h1 e x hx
 ·exact k n om om x hx
theorem CrL.one{L:List Ins}{i:Nat}{x:Ins}(hx:L[i]?=some x)(h1:isDk x→crd (L.take i)=1)(h2:∀t,tgt x=some t→∃j:Nat,j≤L.length∧t=(j:Int)∧crd (L.take j)=0):CrL L i 1:=fun k a b y hy=>by
 obtain rfl:k=i:=om
 rw[hx]at hy
 obtain rfl:=Option.some.inj hy
 exact⟨h1,h2⟩
theorem mid_get{A l B:List Ins}{k:Nat}{x:Ins}(h1:A.length≤k)(h2:k<A.length+l.length)(hx:(A++(l++B))[k]?=some x):x∈l:=by
 rw[List.getElem?_append_right h1,List.getElem?_append_left om]at hx
 exact mog hx
theorem CrL.low{A l B:List Ins}(h:∀x∈l,x.op≤23∨x.op=29):CrL (A++(l++B)) A.length l.length:=fun k a b x hx=>by
 have hm:=h x (mid_get a b hx)
 refine⟨fun hd=>by unfold isDk at hd;omega,fun t ht=>?_⟩
 unfold tgt at ht
 rw[if_neg om,if_neg om]at ht
 cases ht
theorem cE_low{c:Cc}(hc:c.Loads){d:Nat}{e:PE}(h:WfE d e):∀x∈cE c e,x.op≤23:=by
 induction h with
 | leaf d op s n h=>
   intro x hx
   have hx:x∈([]++[opI c op s n]:List Ins):=hx
   rw[List.nil_append,List.mem_singleton]at hx
   rw[hx];exact(opI_moves hc s n om).1.2
 | un d op s n a h ha ih=>
   intro x hx
   have hx:x∈(cE c a++[])++[opI c op s n]:=hx
   rw[List.append_nil]at hx
   rcases List.mem_append.1 hx with h1|h1
   ·exact ih x h1
   ·rw[List.mem_singleton.1 h1];exact(opI_moves hc s n om).1.2
 | bin d op s n a b h ha hb iha ihb=>
   intro x hx
   have hx:x∈(cE c a++(cE c b++[]))++[opI c op s n]:=hx
   rw[List.append_nil]at hx
   rcases List.mem_append.1 hx with h1|h1
   · rcases List.mem_append.1 h1 with h2|h2
     ·exact iha x h2
     ·exact ihb x h2
   ·rw[List.mem_singleton.1 h1];exact(opI_moves hc s n om).1.2
theorem cEs_low{c:Cc}(hc:c.Loads){d:Nat}:∀{l:List PE},(∀e∈l,WfE d e)→∀x∈cEs c l,x.op≤23
 |[],_,x,hx=>by cases hx
 | e::r,h,x,hx=>by
   have hx:x∈cE c e++cEs c r:=hx
   rcases List.mem_append.1 hx with h1|h1
   ·exact cE_low hc (h e (List.mem_cons_self ..)) x h1
   ·exact cEs_low hc (fun y hy=>h y (List.mem_cons_of_mem _ hy)) x h1
section
variable{c:Cc}(hc:c.Loads)
include hc
theorem hd_crd{es:List PE}{d:Nat}(h:∀e∈es,WfE d e)(A:List Ins):crd (A++hdC c es)=1:=by
 rw[crd_app]
 show(cEs c es).foldl nxC (nxC (crd A) ⟨29,0,0,0⟩)=1
 rw[crd_low _ _ (cEs_low hc h)];rfl
theorem hd_low{es:List PE}{d:Nat}(h:∀e∈es,WfE d e):∀x∈hdC c es,x.op≤23∨x.op=29:=fun x hx=>by
 rcases List.mem_cons.1 hx with rfl|hx
 ·exact .inr rfl
 ·exact .inl (cEs_low hc h x hx)
def CrS(c:Cc)(l:Nat→List Ins):Prop:=∀A B L:List Ins,L=A++(l A.length++B)→crd A=0→CrL L A.length (l A.length).length∧crd (A++l A.length)=0
omit hc in
theorem cB_crs:∀(l:List PS),(∀s∈l,CrS c (cS c s))→CrS c (cB c l)
 |[],_=>fun A B L hL h0=>⟨CrL.nil,by show crd (A++[])=0;rw[List.append_nil];exact h0⟩
 | s::r,h=>fun A B L hL h0=>by
   have e:cB c (s::r) A.length=cS c s A.length++cB c r (A.length+(cS c s A.length).length):=rfl
   rw[e]at hL⊢
   obtain⟨h1,h2⟩:=h s (List.mem_cons_self ..) A (cB c r (A.length+(cS c s A.length).length)++B) L (by rw[hL,List.append_assoc]) h0
   have hl:(A++cS c s A.length).length=A.length+(cS c s A.length).length:=lap
   obtain⟨h3,h4⟩:=cB_crs r (fun x hx=>h x (List.mem_cons_of_mem _ hx)) (A++cS c s A.length) B L (by rw[hL,hl];simp only[List.append_assoc]) h2
   rw[hl]at h3 h4
   refine⟨by rw[lap];exact h1.add h3,by rw[←List.append_assoc];exact h4⟩
theorem head_crs{es:List PE}{d:Nat}(h:∀e∈es,WfE d e){A R L:List Ins}{y:Ins}(hL:L=A++(hdC c es++(y::R)))(hy:23<y.op∧y.op≠29)(hj:∀t,tgt y=some t→∃j:Nat,j≤L.length∧t=(j:Int)∧crd (L.take j)=0):
    CrL L A.length ((hdC c es).length+1)∧crd (A++(hdC c es++[y]))=0:=by
 have hg:L[A.length+(hdC c es).length]?=some y:=by
  rw[hL,List.getElem?_append_right om,Nat.add_sub_cancel_left,List.getElem?_append_right (Nat.le_refl _),Nat.sub_self];rfl
 have ht:L.take (A.length+(hdC c es).length)=A++hdC c es:=by
  rw[hL,←List.append_assoc,←lap,List.take_left']
  rfl
 refine⟨CrL.add (hL▸CrL.low (hd_low hc h)) (CrL.one hg (fun _=>by rw[ht];exact hd_crd hc h A) hj),?_⟩
 rw[←List.append_assoc,crd_one]
 unfold nxC
 rw[if_neg om,if_neg om]
omit hc in
theorem take_len{A B L:List Ins}(hL:L=A++B):A.length≤L.length∧L.take A.length=A:=by
 rw[hL];exact⟨by rw[lap];omega,List.take_left' rfl⟩
omit hc in
theorem ovr_crs{es:List PE}{d:Nat}(h:∀e∈es,WfE d e){e:List PS}(he:CrS c (cB c e)){A B L T:List Ins}{P:Nat}(hP:P=T.length)(hT:crd T=0)(hL:L=T++(ovr P (cB c e (P+1)) e.isEmpty++B)):
    CrL L T.length (ovr P (cB c e (P+1)) e.isEmpty).length∧crd (T++ovr P (cB c e (P+1)) e.isEmpty)=0∧crd (L.take (P+(if e.isEmpty then 0 else 1)))=0∧P+(if e.isEmpty then 0 else 1)≤L.length:=by
 subst hP
 cases hb:e.isEmpty with
 | true=>
   rw[hb]at hL
   have hL:L=T++B:=hL
   obtain⟨k1,k2⟩:=take_len hL
   refine⟨CrL.nil,by show crd (T++[])=0;rw[List.append_nil];exact hT,?_,?_⟩
   ·rw[if_pos rfl,Nat.add_zero,k2];exact hT
   ·rw[if_pos rfl];exact k1
 | false=>
   rw[hb]at hL
   obtain⟨j27,hj27⟩:∃j:Ins,j=⟨27,((T.length+1+(cB c e (T.length+1)).length:Nat):Int),0,0⟩:=⟨_,rfl⟩
   have eo:ovr T.length (cB c e (T.length+1)) false=[j27]++cB c e (T.length+1):=by rw[hj27];rfl
   rw[eo]at hL⊢
   have h27:j27.op=27:=by rw[hj27]
   have hl1:(T++[j27]).length=T.length+1:=lap
   have h0:crd (T++[j27])=0:=by rw[crd_one];unfold nxC;rw[if_neg om,if_neg om]
   obtain⟨h3,h4⟩:=he (T++[j27]) B L (by rw[hL,hl1];simp only[List.append_assoc]) h0
   rw[hl1]at h3 h4
   have hfull:L=(T++([j27]++cB c e (T.length+1)))++B:=by rw[hL];simp only[List.append_assoc]
   obtain⟨k1,k2⟩:=take_len hfull
   have hlen:(T++([j27]++cB c e (T.length+1))).length=T.length+1+(cB c e (T.length+1)).length:=by simp only[lap,lc1,ln0];omega
   have h5:crd (T++([j27]++cB c e (T.length+1)))=0:=by rw[←List.append_assoc];exact h4
   have hg:L[T.length]?=some j27:=by rw[hL,List.getElem?_append_right (Nat.le_refl _),Nat.sub_self];rfl
   refine⟨?_,h5,?_,?_⟩
   · rw[lap]
     refine CrL.add (CrL.one hg (fun hd=>by unfold isDk at hd;omega) fun t ht=>(⟨T.length+1+(cB c e (T.length+1)).length,by rw[←hlen];exact k1,?_,by rw[←hlen,k2];exact h5⟩)) h3
     rw[hj27]at ht;exact(Option.some.inj ht).symm
   · rw[if_neg (by decide)]
     have hL2:L=(T++[j27])++(cB c e (T.length+1)++B):=by rw[hL];simp only[List.append_assoc]
     rw[←hl1,(take_len hL2).2];exact h0
   ·rw[if_neg (by decide)];omega
theorem cS_crs{s:PS}(h:WfS s):CrS c (cS c s):=by
 induction h with
 | one k s h es hk he=>
   intro A B L hL h0
   have key:∀y:Ins,cS c ⟨k,s,h,es,[],[]⟩ A.length=hdC c es++[y]→(y.op≤26∧24≤y.op∨y.op=30∨y.op=31)→CrL L A.length (cS c ⟨k,s,h,es,[],[]⟩ A.length).length∧crd (A++cS c ⟨k,s,h,es,[],[]⟩ A.length)=0:=fun y e hy=>by
    rw[e]at hL⊢
    obtain⟨h1,h2⟩:=head_crs hc he (R:=B) (hL.trans (by rw[List.append_assoc]<;>rfl)) (y:=y) om (fun t ht=>by unfold tgt at ht;rw[if_neg om,if_neg om]at ht;cases ht)
    exact⟨by rw[lap];exact h1,h2⟩
   rcases hk with⟨rfl,_⟩|⟨rfl,_⟩|⟨rfl,_⟩|⟨rfl,_⟩|⟨rfl,_⟩
   ·exact key _ rfl (by dsimp only;omega)
   ·exact key _ rfl (by dsimp only;omega)
   ·exact key _ rfl (by dsimp only;omega)
   ·exact key _ rfl (by dsimp only;omega)
   ·exact key _ rfl (by dsimp only;omega)
 | ife s h a t e ha ht he iht ihe=>
   intro A B L hL h0
   obtain⟨r,hr⟩:∃r,A.length+(hdC c [a]).length+1=r:=⟨_,rfl⟩
   obtain⟨y,hy⟩:∃y:Ins,y=⟨28,((r+(cB c t r).length+(if e.isEmpty then 0 else 1):Nat):Int),0,0⟩:=⟨_,rfl⟩
   have e0:cS c ⟨4,s,h,[a],t,e⟩ A.length=hdC c [a]++(y::(cB c t r++ovr (r+(cB c t r).length) (cB c e (r+(cB c t r).length+1)) e.isEmpty)):=by rw[hy,←hr];rfl
   rw[e0]at hL⊢
   obtain⟨V,hV⟩:∃V,V=ovr (r+(cB c t r).length) (cB c e (r+(cB c t r).length+1)) e.isEmpty:=⟨_,rfl⟩
   have hA1:(A++(hdC c [a]++[y])).length=r:=by rw[←hr];simp only[lap,lc1,ln0];omega
   have y28:y.op=28:=by rw[hy]
   have c1:crd (A++(hdC c [a]++[y]))=0:=by
    rw[←List.append_assoc,crd_one];unfold nxC;rw[if_neg om,if_neg om]
   obtain⟨b1,b2⟩:=cB_crs t iht (A++(hdC c [a]++[y])) (V++B) L (by rw[hL,hA1,hV];simp only[List.append_assoc,List.cons_append,List.nil_append]) c1
   rw[hA1]at b1 b2
   have hT:((A++(hdC c [a]++[y]))++cB c t r).length=r+(cB c t r).length:=by rw[lap,hA1]
   obtain⟨o1,o2,o3,o4⟩:=ovr_crs (one1 ha) (cB_crs e ihe) (A:=A) (B:=B) (L:=L) (T:=(A++(hdC c [a]++[y]))++cB c t r) hT.symm b2 (by rw[hL];simp only[List.append_assoc,List.cons_append,List.nil_append])
   rw[hT]at o1
   obtain⟨k1,_⟩:=head_crs hc (one1 ha) (y:=y) (hL.trans (by rw[List.append_assoc]<;>rfl)) om (fun t' ht'=>⟨_,o4,by rw[hy]at ht';exact(Option.some.inj ht').symm,o3⟩)
   refine⟨?_,?_⟩
   · rw[lap,lc1,lap,show(hdC c [a]).length+((cB c t r).length+(ovr (r+(cB c t r).length) (cB c e (r+(cB c t r).length+1)) e.isEmpty).length+1)=(hdC c [a]).length+1+((cB c t r).length+(ovr (r+(cB c t r).length) (cB c e (r+(cB c t r).length+1)) e.isEmpty).length) by omega]
     have hr2:A.length+((hdC c [a]).length+1)=r:=om
     exact k1.add (by rw[hr2];exact b1.add o1)
   · have:=o2
     simp only[List.append_assoc,List.cons_append,List.nil_append]at this⊢
     exact this
 | whl s h a t ha ht iht=>
   intro A B L hL h0
   obtain⟨r,hr⟩:∃r,A.length+(hdC c [a]).length+1=r:=⟨_,rfl⟩
   obtain⟨y,hy⟩:∃y:Ins,y=⟨28,((r+(cB c t r).length+1:Nat):Int),0,0⟩:=⟨_,rfl⟩
   obtain⟨z,hz⟩:∃z:Ins,z=⟨27,((A.length:Nat):Int),0,0⟩:=⟨_,rfl⟩
   have e0:cS c ⟨5,s,h,[a],t,[]⟩ A.length=hdC c [a]++(y::(cB c t r++[z])):=by rw[hy,hz,←hr];rfl
   rw[e0]at hL⊢
   have hA1:(A++(hdC c [a]++[y])).length=r:=by rw[←hr];simp only[lap,lc1,ln0];omega
   have y28:y.op=28:=by rw[hy]
   have z27:z.op=27:=by rw[hz]
   have c1:crd (A++(hdC c [a]++[y]))=0:=by
    rw[←List.append_assoc,crd_one];unfold nxC;rw[if_neg om,if_neg om]
   obtain⟨b1,b2⟩:=cB_crs t iht (A++(hdC c [a]++[y])) ([z]++B) L (by rw[hL,hA1];simp only[List.append_assoc,List.cons_append,List.nil_append]) c1
   rw[hA1]at b1 b2
   have hT:((A++(hdC c [a]++[y]))++cB c t r).length=r+(cB c t r).length:=by rw[lap,hA1]
   have hL3:L=(((A++(hdC c [a]++[y]))++cB c t r)++[z])++B:=by rw[hL];simp only[List.append_assoc,List.cons_append,List.nil_append]
   have hz0:crd (((A++(hdC c [a]++[y]))++cB c t r)++[z])=0:=by rw[crd_one];unfold nxC;rw[if_neg om,if_neg om]
   obtain⟨m1,m2⟩:=take_len hL3
   have hl3:(((A++(hdC c [a]++[y]))++cB c t r)++[z]).length=r+(cB c t r).length+1:=by rw[lap,hT];rfl
   obtain⟨k1,_⟩:=head_crs hc (one1 ha) (y:=y) (hL.trans (by rw[List.append_assoc]<;>rfl)) om (fun t' ht'=>⟨r+(cB c t r).length+1,by rw[←hl3];exact m1,by rw[hy]at ht';exact(Option.some.inj ht').symm,by rw[←hl3,m2];exact hz0⟩)
   obtain⟨n1,n2⟩:=take_len (show L=A++_ from hL)
   have hgz:L[r+(cB c t r).length]?=some z:=by
    have:L=((A++(hdC c [a]++[y]))++cB c t r)++(z::B):=by rw[hL3];simp only[List.append_assoc,List.cons_append,List.nil_append]
    rw[this,←hT,List.getElem?_append_right (Nat.le_refl _),Nat.sub_self];rfl
   refine⟨?_,?_⟩
   · rw[lap,lc1,lap,show(hdC c [a]).length+((cB c t r).length+[z].length+1)=(hdC c [a]).length+1+((cB c t r).length+1) by show _+(_+1+1)=_;omega]
     have hr2:A.length+((hdC c [a]).length+1)=r:=om
     exact k1.add (by rw[hr2];exact b1.add (CrL.one hgz (fun hd=>by unfold isDk at hd;omega) fun t' ht'=>⟨A.length,n1,by rw[hz]at ht';exact(Option.some.inj ht').symm,by rw[n2];exact h0⟩))
   · have:=hz0
     simp only[List.append_assoc,List.cons_append,List.nil_append]at this⊢
     exact this
 | sto s h a b e ha hb he ihe=>
   intro A B L hL h0
   obtain⟨r,hr⟩:∃r,A.length+(hdC c [a,b]).length+1=r:=⟨_,rfl⟩
   obtain⟨y,hy⟩:∃y:Ins,y=⟨32,0,((r+(if e.isEmpty then 0 else 1):Nat):Int),0⟩:=⟨_,rfl⟩
   have e0:cS c ⟨8,s,h,[a,b],[],e⟩ A.length=hdC c [a,b]++(y::ovr r (cB c e (r+1)) e.isEmpty):=by rw[hy,←hr];rfl
   rw[e0]at hL⊢
   have hA1:(A++(hdC c [a,b]++[y])).length=r:=by rw[←hr];simp only[lap,lc1,ln0];omega
   have y32:y.op=32:=by rw[hy]
   have c1:crd (A++(hdC c [a,b]++[y]))=0:=by
    rw[←List.append_assoc,crd_one];unfold nxC;rw[if_neg om,if_neg om]
   obtain⟨o1,o2,o3,o4⟩:=ovr_crs (two2 ha hb) (cB_crs e ihe) (A:=A) (B:=B) (L:=L) (T:=A++(hdC c [a,b]++[y])) hA1.symm c1 (by rw[hL];simp only[List.append_assoc,List.cons_append,List.nil_append])
   rw[hA1]at o1
   obtain⟨k1,_⟩:=head_crs hc (two2 ha hb) (y:=y) (hL.trans (by rw[List.append_assoc]<;>rfl)) om (fun t' ht'=>⟨_,o4,by rw[hy]at ht';exact(Option.some.inj ht').symm,o3⟩)
   refine⟨?_,?_⟩
   · rw[lap,lc1,show(hdC c [a,b]).length+((ovr r (cB c e (r+1)) e.isEmpty).length+1)=(hdC c [a,b]).length+1+(ovr r (cB c e (r+1)) e.isEmpty).length by omega]
     have hr2:A.length+((hdC c [a,b]).length+1)=r:=om
     exact k1.add (by rw[hr2];exact o1)
   · have:=o2
     simp only[List.append_assoc,List.cons_append,List.nil_append]at this⊢
     exact this
 | fet s h a e ha he ihe=>
   intro A B L hL h0
   obtain⟨r,hr⟩:∃r,A.length+(hdC c [a]).length+1=r:=⟨_,rfl⟩
   obtain⟨y,hy⟩:∃y:Ins,y=⟨33,c.vs s,((r+(if e.isEmpty then 0 else 1):Nat):Int),0⟩:=⟨_,rfl⟩
   have e0:cS c ⟨9,s,h,[a],[],e⟩ A.length=hdC c [a]++(y::ovr r (cB c e (r+1)) e.isEmpty):=by rw[hy,←hr];rfl
   rw[e0]at hL⊢
   have hA1:(A++(hdC c [a]++[y])).length=r:=by rw[←hr];simp only[lap,lc1,ln0];omega
   have y33:y.op=33:=by rw[hy]
   have c1:crd (A++(hdC c [a]++[y]))=0:=by
    rw[←List.append_assoc,crd_one];unfold nxC;rw[if_neg om,if_neg om]
   obtain⟨o1,o2,o3,o4⟩:=ovr_crs (one1 ha) (cB_crs e ihe) (A:=A) (B:=B) (L:=L) (T:=A++(hdC c [a]++[y])) hA1.symm c1 (by rw[hL];simp only[List.append_assoc,List.cons_append,List.nil_append])
   rw[hA1]at o1
   obtain⟨k1,_⟩:=head_crs hc (one1 ha) (y:=y) (hL.trans (by rw[List.append_assoc]<;>rfl)) om (fun t' ht'=>⟨_,o4,by rw[hy]at ht';exact(Option.some.inj ht').symm,o3⟩)
   refine⟨?_,?_⟩
   · rw[lap,lc1,show(hdC c [a]).length+((ovr r (cB c e (r+1)) e.isEmpty).length+1)=(hdC c [a]).length+1+(ovr r (cB c e (r+1)) e.isEmpty).length by omega]
     have hr2:A.length+((hdC c [a]).length+1)=r:=om
     exact k1.add (by rw[hr2];exact o1)
   · have:=o2
     simp only[List.append_assoc,List.cons_append,List.nil_append]at this⊢
     exact this
 | stop s h=>
   intro A B L hL h0
   have e0:cS c ⟨10,s,h,[],[],[]⟩ A.length=hdC c []++[⟨34,0,0,0⟩]:=rfl
   rw[e0]at hL⊢
   obtain⟨h1,h2⟩:=head_crs hc (es:=[]) (d:=0) (fun e he=>by cases he) (R:=B) (y:=⟨34,0,0,0⟩) (hL.trans (by rw[List.append_assoc]<;>rfl)) (by decide) (fun t ht=>by cases ht)
   exact⟨by rw[lap];exact h1,h2⟩
end
def Paid(l:List Ins):Prop:=∀k x,l[k]?=some x→(isDk x→crd (l.take k)=1)∧∀t,tgt x=some t→∃j:Nat,j≤l.length∧t=(j:Int)∧crd (l.take j)=0
theorem paidR{F:Fl}(h:GoodF F.pure){ci:Nat}{c:Cm}(hc:F.comps[ci]?=some c){v:Vs}(hv:v∈c.vers){x:Hd}(hx:x∈v.l):Paid (codeR F c x):=by
 obtain⟨ct,ar,ok⟩:=h.okC (pure_comp hc)
 have hgv:=ok.vers v.pure (List.mem_map.2 ⟨v,hv,rfl⟩)
 obtain⟨k,hk⟩:=List.getElem?_of_mem hx
 have gh:=hgv.2.2 k x.pure (by show(v.l.map Hd.pure)[k]?=_;rw[List.getElem?_map,hk];rfl)
 obtain⟨np,hnp,hps,hst⟩:=gh.ps
 have hst:∀s∈St.pL x.body,StE ct np 3 s:=hst
 have:=(cB_crs (c:=ccR F.pure c.name c.vars x.ps) (St.pL x.body) (fun s hs=>cS_crs (ccR_loads F.pure c.name c.vars x.ps) ((hst s hs).wf ok.ok))) [] [] (codeR F c x) (by show codeR F c x=cB _ _ 0++[];rw[List.append_nil]<;>rfl) rfl
 intro i y hy
 have hi:=(List.getElem?_eq_some_iff.1 hy).1
 exact this.1 i (Nat.zero_le _) (by show i<0+(codeR F c x).length;omega) y hy
def dkN(l:List EfV):Nat:=(l.filter fun e=>decide (e.k=3∨e.k=4)).length
def sdN(l:List EfV):Nat:=(l.filter fun e=>decide (e.k=1∨e.k=2)).length
theorem dkN_snoc(l:List EfV)(e:EfV):dkN (l++[e])=dkN l+(if e.k=3∨e.k=4 then 1 else 0):=by
 unfold dkN
 rw[List.filter_append,lap]
 by_cases h:e.k=3∨e.k=4<;>simp[h]
theorem sdN_snoc(l:List EfV)(e:EfV):sdN (l++[e])=sdN l+(if e.k=1∨e.k=2 then 1 else 0):=by
 unfold sdN
 rw[List.filter_append,lap]
 by_cases h:e.k=1∨e.k=2<;>simp[h]
def Kp4(d e:Dv):Prop:=e.cost=d.cost∧e.effs=d.effs∧e.sends=d.sends∧e.fault=d.fault
theorem ite_kp{p:Prop} [Decidable p]{a b d:Dv}(h1:Kp4 d a)(h2:Kp4 d b):Kp4 d (if p then a else b):=by split<;>assumption
theorem step_kp{s:Sm}{x:Ins}{d:Dv}(h1:¬(x.op:Int)=29)(h2:¬((x.op:Int)=30∨(x.op:Int)=31))(h3:¬((x.op:Int)=32∨(x.op:Int)=33)):Kp4 d (stepV s x d):=by
 by_cases h4:(x.op:Int)=6∨(x.op:Int)=7∨(x.op:Int)=8∨(x.op:Int)=25∨(x.op:Int)=26
 · rw[stepV_table h4]
   unfold tableV
   simp only[]
   repeat (refine ite_kp ⟨rfl,rfl,rfl,rfl⟩ ?_)
   exact⟨rfl,rfl,rfl,rfl⟩
 · unfold stepV
   rw[if_neg h1,if_neg h2,if_neg h3,if_neg h4]
   repeat (refine ite_kp ⟨rfl,rfl,rfl,rfl⟩ ?_)
   exact⟨rfl,rfl,rfl,rfl⟩
theorem step_29{s:Sm}{x:Ins}{d:Dv}(h:(x.op:Int)=29):stepV s x d={d with fault:=decide (d.cost=200),cost:=min (d.cost+1) 200}:=by
 unfold stepV
 rw[if_neg om,if_neg om,if_neg om,if_neg om,if_neg om,if_neg om,if_neg om,if_neg om,if_neg om,if_pos h]
structure InvB(L:List Ins)(d:Dv):Prop where
 dk:((dkN d.effs:Nat):Int)≤d.cost
 paid:d.next<(L.length:Int)→((dkN d.effs+crd (L.take d.next.toNat):Nat):Int)≤d.cost
 sent:((sdN d.effs:Nat):Int)=d.sends
 nof:∀e∈d.effs,e.k≠5
 flt:d.fault=false
structure FinB(d:Dv):Prop where
 cost:0≤d.cost∧d.cost≤200
 dk:((dkN d.effs:Nat):Int)≤d.cost
 sent:sdN d.effs≤8
 last:∀i e,d.effs[i]?=some e→e.k=5→i+1=d.effs.length
 tabs:∀t∈d.tabs,t.length≤16
 disk:d.disk.length≤16
 len:d.effs.length≤1048577
 tl:d.tabs.length≤1000
theorem FinB.stop{d:Dv}(h1:0≤d.cost∧d.cost≤200)(h2:((dkN d.effs:Nat):Int)≤d.cost)(h3:sdN d.effs≤8)(h4:∀e∈d.effs,e.k≠5)(h5:∀t∈d.tabs,t.length≤16)(h6:d.disk.length≤16)(h7:d.effs.length≤1048576)(h8:d.tabs.length≤1000):FinB (stopV d):=by
 refine⟨h1,by show((dkN (d.effs++[faultE]):Nat):Int)≤d.cost;rw[dkN_snoc,if_neg (by decide)];exact h2,by show sdN (d.effs++[faultE])≤8;rw[sdN_snoc,if_neg (by decide)];exact h3,fun i e hi hk=>?_,h5,h6,by show(d.effs++[faultE]).length≤_;rw[lap];show d.effs.length+1≤_;omega,h8⟩
 have hi:(d.effs++[faultE])[i]?=some e:=hi
 show i+1=(d.effs++[faultE]).length
 rw[lap]
 by_cases hl:i<d.effs.length
 · rw[List.getElem?_append_left hl]at hi
   exact absurd hk (h4 e (mog hi))
 · have:=(List.getElem?_eq_some_iff.1 hi).1
   rw[lap]at this
   show i+1=d.effs.length+1
   have:i<d.effs.length+1:=this
   omega
theorem take_crd{L:List Ins}{n:Nat}{x:Ins}(hx:L[n]?=some x):crd (L.take (n+1))=nxC (crd (L.take n)) x:=by
 rw[take_of_get hx,crd_one]
section
variable{s:Sm}{T:List Int}{nv' nt:Nat}
theorem inv_step(hP:Paid s.code){k:Nat}{d:Dv}{x:Ins}(hI:InvG T s.code.length nv' nt k d)(hB:InvB s.code d)(hx:s.code[d.next.toNat]?=some x)(hft:Fit s x {d with next:=d.next+1})(hf:(stepV s x {d with next:=d.next+1}).fault=false):InvB s.code (stepV s x {d with next:=d.next+1}):=by
 obtain⟨n,hn⟩:∃n:Nat,d.next=(n:Int):=⟨d.next.toNat,by have:=hI.next;omega⟩
 have hnn:d.next.toNat=n:=om
 rw[hnn]at hx
 have hlt:=(List.getElem?_eq_some_iff.1 hx).1
 have hp:=hB.paid om
 rw[hnn]at hp
 obtain⟨hdk,htg⟩:=hP n x hx
 have hc1:=take_crd hx
 obtain⟨_,hnx⟩:=step_shape2 (s:=s) (d:={d with next:=d.next+1}) hft.ops hft.sends hft.pops hf
 have hops:=hft.ops
 -- the place, and what is paid there
 have hpl:∀e:Dv,(stepV s x {d with next:=d.next+1}).next=e.next→e.next<(s.code.length:Int)→(crd (s.code.take e.next.toNat)=0∨(e.next=d.next+1∧crd (s.code.take e.next.toNat)=nxC (crd (s.code.take n)) x∧x.op≠27)):=fun e he hl=>by
  rw[he]at hnx
  have jmp:∀t:Int,tgt x=some t→e.next=t→crd (s.code.take e.next.toNat)=0:=fun t h1 h2=>by
   obtain⟨j,_,h3,h4⟩:=htg t h1
   rw[h2,h3,Int.toNat_natCast];exact h4
  have nxt:e.next=d.next+1→x.op≠27→(crd (s.code.take e.next.toNat)=0∨(e.next=d.next+1∧crd (s.code.take e.next.toNat)=nxC (crd (s.code.take n)) x∧x.op≠27)):=fun h1 h2=>Or.inr ⟨h1,by rw[h1,hn,show((n:Int)+1).toNat=n+1 by omega];exact hc1,h2⟩
  rcases hnx with⟨a,b⟩|⟨a,b|b⟩|⟨a,b⟩|⟨a,b⟩|⟨a,_,b⟩
  ·exact .inl (jmp x.a (by unfold tgt;rw[if_pos (.inl a)]) b)
  ·exact .inl (jmp x.a (by unfold tgt;rw[if_pos (.inr a)]) b)
  ·exact nxt b om
  ·rw[b]at hl;exact absurd hl (Int.lt_irrefl _)
  ·exact .inl (jmp x.b (by unfold tgt;rw[if_neg om,if_pos a]) b)
  ·exact nxt b om
 by_cases h29:(x.op:Int)=29
 · rw [step_29 h29]at hf hpl⊢
   have hne:¬d.cost=200:=of_decide_eq_false hf
   have hcb:=hI.cost
   have hm:min (d.cost+1) 200=d.cost+1:=om
   refine⟨?_,fun hl=>?_,hB.sent,hB.nof,hf⟩
   ·show((dkN d.effs:Nat):Int)≤min (d.cost+1) 200;rw[hm];have:=hB.dk;omega
   · show((dkN d.effs+_:Nat):Int)≤min (d.cost+1) 200
     rw[hm]
     rcases hpl _ rfl hl with h0|⟨_,h1,_⟩
     · have h0:crd (s.code.take (d.next+1).toNat)=0:=h0
       show((dkN d.effs+crd (s.code.take (d.next+1).toNat):Nat):Int)≤_
       rw[h0];have:=hB.dk;omega
     · have h1:crd (s.code.take (d.next+1).toNat)=nxC (crd (s.code.take n)) x:=h1
       show((dkN d.effs+crd (s.code.take (d.next+1).toNat):Nat):Int)≤_
       rw[h1];unfold nxC;rw[if_pos om];have:=hB.dk;omega
 by_cases hs:(x.op:Int)=30∨(x.op:Int)=31
 · have h0:nxC (crd (s.code.take n)) x=0:=by unfold nxC;rw[if_neg om,if_neg om]
   have z:∀e:Dv,(stepV s x {d with next:=d.next+1}).next=e.next→e.next<(s.code.length:Int)→crd (s.code.take e.next.toNat)=0:=fun e h1 h2=>by
    rcases hpl e h1 h2 with h|⟨_,h,_⟩
    ·exact h
    ·rw[h,h0]
   rw[stepV_send hs]at hf z⊢
   by_cases h8:d.sends=8
   ·rw[sendV_8 (show({d with next:=d.next+1}:Dv).sends=8 from h8)]at hf;cases hf
   · have h8':({d with next:=d.next+1}:Dv).sends≠8:=h8
     have mk:∀(st:List Int) (ef:EfV),(ef.k=1∨ef.k=2)→(∀e:Dv,d.next+1=e.next→e.next<(s.code.length:Int)→crd (s.code.take e.next.toNat)=0)→InvB s.code {d with next:=d.next+1,sends:=d.sends+1,stack:=st,effs:=d.effs++[ef]}:=fun st ef hk z=>by
      have e1:dkN (d.effs++[ef])=dkN d.effs:=by rw[dkN_snoc,if_neg om];rfl
      refine⟨?_,fun hl=>?_,?_,fun e he=>?_,hB.flt⟩
      ·show((dkN (d.effs++[ef]):Nat):Int)≤d.cost;rw[e1];exact hB.dk
      · show((dkN (d.effs++[ef])+crd (s.code.take (d.next+1).toNat):Nat):Int)≤d.cost
        rw[e1,z {d with next:=d.next+1} rfl hl];exact hB.dk
      · show((sdN (d.effs++[ef]):Nat):Int)=d.sends+1
        rw[sdN_snoc,if_pos hk];have:=hB.sent;omega
      · rcases List.mem_append.1 he with h|h
        ·exact hB.nof e h
        ·rw[List.mem_singleton.1 h];omega
     by_cases h31:(x.op:Int)=31
     · rw[sendV_31 h8' h31]at z⊢
       exact mk _ _ (.inr rfl) fun e h1 h2=>z e h1 h2
     · rw[sendV_30 h8' h31]at z⊢
       exact mk _ _ (.inl rfl) fun e h1 h2=>z e h1 h2
 by_cases hd:(x.op:Int)=32∨(x.op:Int)=33
 · have h0:nxC (crd (s.code.take n)) x=0:=by unfold nxC;rw[if_neg om,if_neg om]
   have h1c:crd (s.code.take n)=1:=hdk (by unfold isDk;omega)
   have z:∀e:Dv,(stepV s x {d with next:=d.next+1}).next=e.next→e.next<(s.code.length:Int)→crd (s.code.take e.next.toNat)=0:=fun e h1 h2=>by
    rcases hpl e h1 h2 with h|⟨_,h,_⟩
    ·exact h
    ·rw[h,h0]
   have mk:∀(e:Dv) (ef:EfV),(ef.k=3∨ef.k=4)→e.effs=d.effs++[ef]→e.cost=d.cost→e.sends=d.sends→e.fault=d.fault→(e.next<(s.code.length:Int)→crd (s.code.take e.next.toNat)=0)→InvB s.code e:=fun e ef hk h1 h2 h3 h4 h5=>by
    have e1:dkN e.effs=dkN d.effs+1:=by rw[h1,dkN_snoc,if_pos hk]
    refine⟨by rw[e1,h2];omega,fun hl=>by rw[e1,h2,h5 hl];omega,?_,fun y hy=>?_,by rw[h4];exact hB.flt⟩
    ·rw[h1,sdN_snoc,if_neg om,h3];exact hB.sent
    · rw[h1]at hy
      rcases List.mem_append.1 hy with h|h
      ·exact hB.nof y h
      ·rw[List.mem_singleton.1 h];omega
   rw[stepV_disk hd]at hf z⊢
   by_cases h32:(x.op:Int)=32
   · rw[diskV_32 h32]at z⊢
     exact mk _ _ (.inl rfl) rfl rfl rfl rfl (z _ rfl)
   · by_cases hb:s.dsk+({d with next:=d.next+1}:Dv).disks∈s.fail
     · rw[diskV_33b h32 hb]at z⊢
       exact mk _ _ (.inr rfl) rfl rfl rfl rfl (z _ rfl)
     · rw[diskV_33g h32 hb]at z⊢
       exact mk _ _ (.inr rfl) rfl rfl rfl rfl (z _ rfl)
 · obtain⟨k1,k2,k3,k4⟩:=step_kp (s:=s) (d:={d with next:=d.next+1}) h29 hs hd
   have k1:(stepV s x {d with next:=d.next+1}).cost=d.cost:=k1
   have k2:(stepV s x {d with next:=d.next+1}).effs=d.effs:=k2
   have k3:(stepV s x {d with next:=d.next+1}).sends=d.sends:=k3
   refine⟨by rw[k1,k2];exact hB.dk,fun hl=>?_,by rw[k2,k3];exact hB.sent,by rw[k2];exact hB.nof,hf⟩
   rw[k1,k2]
   rcases hpl _ rfl hl with h|⟨_,h,_⟩
   ·rw[h];exact hB.dk
   · rw[h]
     have:nxC (crd (s.code.take n)) x≤crd (s.code.take n):=by
      unfold nxC
      rw[if_neg om]
      split
      ·exact Nat.le_refl _
      ·exact Nat.zero_le _
     omega
theorem run_fin(hR:Runs2 s (InvG T s.code.length nv' nt))(hnt:nt≤1000)(hP:Paid s.code):∀(f k:Nat) (d:Dv),InvG T s.code.length nv' nt k d→InvB s.code d→k+f≤1048576→FinB (runV s f d):=by
 have el:∀k d,InvG T s.code.length nv' nt k d→d.effs.length≤1048576∧d.tabs.length≤1000:=fun k d hI=>⟨by have:=hI.effs;have:=hI.few;omega,by rw[hI.tabs];exact hnt⟩
 have fin:∀k d,InvG T s.code.length nv' nt k d→InvB s.code d→FinB d:=fun k d hI hB=>
  ⟨hI.cost,hB.dk,by have:=hB.sent;have:=hI.sends;omega,fun i e hi hk=>absurd hk (hB.nof e (mog hi)),fun t ht=>(hI.good t ht).len,hI.disk.len,by have:=hI.effs;have:=hI.few;omega,by rw[hI.tabs];exact hnt⟩
 intro f
 induction f with
 | zero=>
   intro k d hI hB _
   rw[runV]
   split
   · have h:=fin k d hI hB
     exact FinB.stop h.cost h.dk h.sent hB.nof h.tabs h.disk (el k d hI).1 (el k d hI).2
   ·exact fin k d hI hB
 | succ f ih =>
   intro k d hI hB hk
   by_cases hl:d.next<(s.code.length:Int)
   · have hn :=hI.next
     have hx:s.code[d.next.toNat]?=some (s.code[d.next.toNat]'om):=gge _
     obtain⟨x,hxx⟩:∃x,s.code[d.next.toNat]'om=x:=⟨_,rfl⟩
     rw[hxx]at hx
     obtain⟨hft,_⟩:=hR.fit k d x hI hx
     rw[runV_step hl hx]
     have h:=fin k d hI hB
     by_cases hf:(stepV s x {d with next:=d.next+1}).fault=true
     · rw [if_pos hf]
       by_cases h29:(x.op:Int)=29
       · rw[step_29 h29]
         have hcb:=hI.cost
         refine FinB.stop ?_ ?_ h.sent hB.nof h.tabs h.disk (el k d hI).1 (el k d hI).2
         ·show 0≤min (d.cost+1) 200∧min (d.cost+1) 200≤200;omega
         ·show((dkN d.effs:Nat):Int)≤min (d.cost+1) 200;have:=hB.dk;omega
       by_cases hs:(x.op:Int)=30∨(x.op:Int)=31
       · rw [stepV_send hs]at hf⊢
         by_cases h8:d.sends=8
         · rw[sendV_8 (show({d with next:=d.next+1}:Dv).sends=8 from h8)]
           exact FinB.stop h.cost h.dk h.sent hB.nof h.tabs h.disk (el k d hI).1 (el k d hI).2
         · have h8':({d with next:=d.next+1}:Dv).sends≠8:=h8
           have hff:d.fault=true:=by
            by_cases h31:(x.op:Int)=31
            ·rw[sendV_31 h8' h31]at hf;exact hf
            ·rw[sendV_30 h8' h31]at hf;exact hf
           rw[hB.flt]at hff;cases hff
       by_cases hd:(x.op:Int)=32∨(x.op:Int)=33
       · have hff:d.fault=true:=by
           rw[stepV_disk hd]at hf
           by_cases h32:(x.op:Int)=32
           ·rw[diskV_32 h32]at hf;exact hf
           · by_cases hb:s.dsk+({d with next:=d.next+1}:Dv).disks∈s.fail
             ·rw[diskV_33b h32 hb]at hf;exact hf
             ·rw[diskV_33g h32 hb]at hf;exact hf
         rw[hB.flt]at hff;cases hff
       · have hff:=(step_kp (s:=s) (d:={d with next:=d.next+1}) h29 hs hd).2.2.2
         rw[hf]at hff
         have hff:true=d.fault:=hff
         rw[hB.flt]at hff;cases hff
     · rw[if_neg hf]
       have hf0:(stepV s x {d with next:=d.next+1}).fault=false:=by simpa using hf
       exact ih (k+1) _ (hR.step k d x hI om hx hf0) (inv_step hP hI hB hx hft hf0) om
   ·rw[runV_end hl];exact fin k d hI hB
end
theorem run_bounds{s:Sm}{pr st:Int}{V:List Int}{tb:List (List (Int×Int))}{dk:List (Int×Int)}(hv:verifyV pr st s.code=0)(href:∀x∈s.code,referB x V.length tb.length s.flags.length=true)(hpr:(s.args.length:Int)=pr)
    (hasc:AscI s.fail) (hfl:s.fail.length≤1000000) (hds:0≤s.dsk∧s.dsk≤1000000000) (hgt:∀t∈tb,Good t) (hgd:Good dk) (htl:tb.length≤1000) (hP:Paid s.code):FinB (runV s 1048576 (d0G V tb dk)):=by
 obtain⟨h1,h2,h3,h4,T,h5,h6,h7⟩:=verified hv
 refine run_fin (runs_all h1 h4 h5 href hpr hasc hfl hds) htl hP 1048576 0 _ ⟨⟨Int.le_refl _,Int.natCast_nonneg _⟩,fun hlt=>?_,rfl,(show(0:Int)≤0∧(0:Int)≤200 by decide),rfl,hgt,hgd,(show(0:Int)≤0∧(0:Int)≤8 by decide),(show(0:Int)≤0∧(0:Int)≤((0:Nat):Int) by decide),Nat.le_refl _,Nat.zero_le _⟩ ⟨Int.le_refl _,fun _=>?_,rfl,fun e he=>(by cases he),rfl⟩ (Nat.le_refl _)
 · rcases h7 with h7|h7
   ·rw[h7]at hlt;simp at hlt
   ·exact h7
 · show((0+crd (s.code.take 0):Nat):Int)≤0
   exact Int.le_refl _
theorem fit_each{c:Ct}{np n:Nat}:Each c np (fun x=>referB x (c.ints+1) c.tables c.flags=true)∧EachJ n c.ints (fun x=>referB x (c.ints+1) c.tables c.flags=true):=by
 refine⟨⟨fun k _ _=>?_,fun op ho=>?_,fun k hk=>?_,fun k hk=>?_,fun k hk=>?_,fun k hk=>?_,fun op ht ho=>?_,fun to h k h1 h2 h3=>?_,fun h k h1 h2=>?_⟩,⟨fun op t ho ht=>?_,fun t ht=>?_,fun k t hk ht=>?_⟩⟩
 ·simp[referB]
 ·unfold referB;rw[if_neg (by dsimp only;omega),if_neg (by dsimp only;omega),if_neg (by dsimp only;omega)]
 ·simp[referB];omega
 ·simp[referB]
 ·simp[referB];omega
 ·simp[referB];omega
 ·unfold referB;rw[if_neg (by dsimp only;omega),if_neg (by dsimp only;omega),if_pos (by dsimp only;omega)];exact decide_eq_true (by dsimp only;omega)
 ·simp[referB]
 ·simp[referB]
 ·unfold referB;rw[if_neg (by dsimp only;omega),if_neg (by dsimp only;omega),if_neg (by dsimp only;omega)]
 ·simp[referB]
 ·simp[referB];omega
theorem nVT_of{i t:Nat}(hi:i≤3)(ht:t≤1):nV (varsOf i t)=i+1∧nT (varsOf i t)=t:=by
 have h:∀i,i<4→∀t,t<2→nV (varsOf i t)=i+1∧nT (varsOf i t)=t:=by decide+kernel
 exact h i om t om
theorem fitR{F:Fl}(h:GoodF F.pure){ci:Nat}{c:Cm}(hc:F.comps[ci]?=some c){v:Vs}(hv:v∈c.vers){x:Hd}(hx:x∈v.l):∀i∈codeR F c x,referB i (nV c.vars) (nT c.vars) F.flags.length=true:=by
 obtain⟨ct,ar,ok⟩:=h.okC (pure_comp hc)
 have hgv:=ok.vers v.pure (List.mem_map.2 ⟨v,hv,rfl⟩)
 obtain⟨k,hk⟩:=List.getElem?_of_mem hx
 have gh:=hgv.2.2 k x.pure (by show(v.l.map Hd.pure)[k]?=_;rw[List.getElem?_map,hk];rfl)
 obtain⟨np,hnp,hps,hst⟩:=gh.ps
 have hnp2:np≤2:=(ok.ok.each ar (mog ok.arr)).2.2 np (mog hnp)
 have hps:x.ps=nms 112 np:=hps
 have hst:∀s∈St.pL x.body,StE ct np 3 s:=hst
 have his:(ccR F.pure c.name c.vars (nms 112 np)).Is ct np:=ok.isR hnp2
 have fe:=fit_each (c:=ct) (np:=np) (n:=(codeR F c x).length)
 have e1:codeR F c x=cB (ccR F.pure c.name c.vars (nms 112 np)) (St.pL x.body) 0:=by show cB (ccR F.pure c.name c.vars x.ps) _ _=_;rw[hps]
 have key:=cB_all (Q:=fun i=>referB i (ct.ints+1) ct.tables ct.flags=true) (n:=(codeR F c x).length) (St.pL x.body) 0 (cc:=ccR F.pure c.name c.vars (nms 112 np)) (fun s hs p hp=>(hst s hs).all ok.ok fe.1 fe.2 his p hp) (by rw[←e1];omega)
 rw[←e1]at key
 have hvs:c.vars=varsOf ct.ints ct.tables:=ok.vars
 have hn:=nVT_of ok.ok.ints.2 ok.ok.tables
 have hfl:F.flags.length=ct.flags:=by
  have h1:=congrArg List.length (show F.flags.map Fg.name=nms 102 ct.flags from ok.flags)
  rwa[List.length_map,nms_len]at h1
 rw[hvs,hn.1,hn.2,hfl]
 exact key
structure SkFit(U:RU)(a b n:Nat):Prop where
 fit:∀i∈U.l,referB i a b n=true
 paid:Paid U.l
theorem sk_fit{F:Fl}(hG:GoodF F.pure){c:Cm}{k v:Nat}{s:ByteArray}(hc:F.comps[k]?=some c)(hv:1≤v∧v≤c.vers.length)(h:(fndV s none (c.vers.take v)).isSome=true):SkFit (pU F c v s) (nV c.vars) (nT c.vars) F.flags.length:=by
 obtain⟨x,hx⟩:=Option.isSome_iff_exists.1 h
 have e:pU F c v s=⟨true,x.ps.length,(heightsV (codeR F c x)).1,codeR F c x⟩:=by rw[pU_is hv,hx]
 obtain⟨v',hv',hxm⟩:=fnd_good hG hc hx
 rw[e]
 exact⟨fitR hG hc hv' hxm,paidR hG hc hv' hxm⟩
end Go.Proofs.YtlihklladkagpaaGreatDoor
