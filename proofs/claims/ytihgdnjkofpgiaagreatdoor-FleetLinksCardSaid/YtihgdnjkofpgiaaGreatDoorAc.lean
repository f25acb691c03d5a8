/- Own text. -/
import Derived.Test.YtihgdnjkofpgiaaGreatDoorAb
set_option linter.unusedVariables false
set_option linter.unusedSimpArgs false
namespace Go.Sep
open Go.RowKit Go.Flow Go.Mem
def Zx(o:Oper):Prop:=∀(ρ:Operand→Value) (P:Program) (w w':World),(∀f args,(execOp ρ o).run P w≠ .ok (.enter f args) w')∧(∀row args,(execOp ρ o).run P w≠ .ok (.row row args) w')
def aDf(o:Oper):Bool:=match o.op with
 | .call c=>match c.callee with
   | .builtin .len=>true
   | .builtin .append=>true
   |_=>false
 |_=>false
def Tx(o:Oper):Bool:=kS o||aDf o
theorem qO{o:Oper}(h:Tx o=true):Zx o:=fun ρ P w w'=>by
 unfold Tx at h;rw[aPu]at h;rcases h with h|h
 ·exact sZ h ρ P w w'
 · have hv:∀s:Sem Value,(∀f args,(do pure (.value (←s)):Sem Next).run P w≠ .ok (.enter f args) w')∧(∀row args,(do pure (.value (←s)):Sem Next).run P w≠ .ok (.row row args) w'):=fun s=>by
     simp only[aPg];cases s.run P w<;>simp[Result.andThen]
   unfold aDf at h;split at h
   · rename_i c hc
     obtain⟨cl,as,ts⟩:=c;simp only at h;split at h
     · unfold execOp
       simp only[hc,resolve,invoke,builtin,aPg,aPp,aOy];have:=hv (Builtin.len_ ts o.type (as.map ρ));simpa only[aPg,aPp]using this
     · unfold execOp
       simp only[hc,resolve,invoke,builtin,aPg,aPp,aOy];have:=hv (Builtin.append_ ts o.type (as.map ρ));simpa only[aPg,aPp]using this
     ·cases h
   ·cases h
theorem qP{P:Program}{ops:Array Oper}{o:Oper}{a:Act}{w:World}{K K':Value→World→Prop}(hp:Zx o)(h:Hm P ops o a w K)(h':Hm P ops o a w K'):Hm P ops o a w fun v w'=>K v w'∧K' v w':=by
 unfold Hm at*;split
 · rename_i hw
   rw[aOn hw]at h h';have hq:=hp a.eval P w;unfold vX at*;split
   ·rename_i he;rw[he]at h h';exact⟨h,h'⟩
   ·rename_i he;rw[he]at h h';exact⟨h,h'⟩
   ·rename_i w' he;exact aOx he ((hq w').1 _ _)
   ·rename_i w' he;exact aOx he ((hq w').2 _ _)
   · rename_i h1 h2 h3 h4
     generalize (execOp a.eval o).run P w=r at*;cases r with
     |ok n w'=>cases n<;>first|exact aOx rfl (h1 _ _)|exact aOx rfl (h2 _)|exact aOx rfl (h3 _ _ _)|exact aOx rfl (h4 _ _ _)|exact h
     |halt x w'=>exact h
 · rename_i hw
   rw[aNy hw]at h h';exact⟨h,h'⟩
def Tz(m p:Nat):Nat→List Oper→Bool
 |_,[]=>true
 |i,o::l=>(Tx o||Nat.beq i m||Nat.beq i p||aDc m p o)&&Tz m p (i+1) l
theorem gP{m p:Nat}:∀{l:List Oper} {k i:Nat} {o:Oper},Tz m p k l=true→l[i]?=some o→Tx o=true∨k+i=m∨k+i=p∨∃e∈o.after,Region.binds .any e=true∧(e.on=m∨e.on=p)
 |[],_,_,_,_,h=>by simp at h
 | o ::l,k,i,o',h,hi=>by
   rw[Tz,aOc]at h;cases i with
   | zero=>
     obtain rfl:o=o':=by simpa using hi
     have h1:=h.1;simp only[aPu]at h1;rcases h1 with((h1|h1)|h1)|h1
     ·exact .inl h1
     ·exact .inr (.inl (aOg h1))
     ·exact .inr (.inr (.inl (aOg h1)))
     · obtain⟨e,he,h2⟩:=List.any_eq_true.1 h1
       simp only[aOc,aPu]at h2;exact .inr (.inr (.inr ⟨e,Array.mem_toList_iff.1 he,h2.1,h2.2.imp aOg aOg⟩))
   | succ i=>
     have:=gP h.2 (i:=i) (o:=o') (by simpa using hi);rwa[show k+1+i=k+(i+1) by omega]at this
section
variable{P:Program}{l:List Oper}{Q:Act→World→Prop}
theorem lW{m p:Nat}(hne:m≠p)(hpl:∀i o,l[i]?=some o→Zx o∨i=m∨i=p∨∃e∈o.after,Region.binds .any e=true∧(e.on=m∨e.on=p)):∀(fuel:Nat) (listed:Array Bool) (a:Act) (w:World),Ni P (tie l m p).toArray Q fuel listed a w→Ni P (tie l p m).toArray Q fuel listed a w→listed.getD p false=false→listed.getD m false=false→Ni P l.toArray Q fuel listed a w
 | 0,listed,a,w,h1,h2,hp,hm=>by
   refine⟨aPk.2 fun i hi=>?_,h1.2⟩;by_cases e:i=m
   · have:=Fx (m:=p) (p:=m).2 ⟨hi,fun e2=>aOx (e.symm.trans e2) hne⟩
     rw[h2.1]at this;cases this
   · have:=Fx (m:=m) (p:=p).2 ⟨hi,fun e2=>aOx e2 e⟩
     rw[h1.1]at this;cases this
 | fuel + 1,listed,a,w,h1,h2,hp,hm=>by
   refine⟨fun hr=>h1.1 (aPk.2 fun i hi=>?_),fun i hi=>?_⟩
   · have h1:=(Fx.1 hi).1
     rw[hr]at h1;cases h1
   · have hl:=(Ho.1 hi).1
     by_cases em:i=m
     · obtain⟨o,h3,h4⟩:=aV (h2.2 i (Fx.2 ⟨hi,fun e2=>aOx (em.symm.trans e2) hne⟩))
       exact⟨o,by simpa using h3,h4.mono fun v w' hv=>kK fuel _ _ _ (by rw[em]at hl⊢;exact Ul hl) hv⟩
     · by_cases ep:i=p
       · obtain⟨o,h3,h4⟩:=aV (h1.2 i (Fx.2 ⟨hi,fun e2=>aOx e2 em⟩))
         exact⟨o,by simpa using h3,h4.mono fun v w' hv=>kK fuel _ _ _ (by rw[ep]at hl⊢;exact Ul hl) hv⟩
       · obtain⟨o,h3,h4⟩:=aV (h1.2 i (Fx.2 ⟨hi,fun e2=>aOx e2 em⟩))
         obtain⟨o',h3',h4'⟩:=aV (h2.2 i (Fx.2 ⟨hi,fun e2=>aOx e2 ep⟩));rw[h3]at h3';obtain rfl:=aOj h3';have hun:∀k,i≠k→listed.getD k false=false→(listed.setIfInBounds i true).getD k false=false:=fun k hk hf=>by
          rw[aOp]at*;rw[Array.getElem?_setIfInBounds,aNy hk];exact hf
         have hpo:Zx o:=by
          rcases hpl i o h3 with hq|hq|hq|⟨e,he,hb,hq⟩
          ·exact hq
          ·exact aOx hq em
          ·exact aOx hq ep
          · obtain⟨_,o2,h5,h6⟩:=Ho.1 hi
            rw[h3]at h5;obtain rfl:=aOj h5;have h7:=h6 e he hb;rcases hq with hq|hq<;>rw[hq]at h7
            ·rw[hm]at h7;cases h7
            ·rw[hp]at h7;cases h7
         exact⟨o,by simpa using h3,(qP hpo h4 h4').mono fun v w' ⟨hv,hv'⟩=>lW hne hpl fuel _ _ _ hv hv' (hun p ep hp) (hun m em hm)⟩
def uH(n:Nat)(e:Edge):Edge:=⟨e.on-n,e.ground⟩
def Uw(n:Nat)(o:Oper):Oper:={o with after:=((o.after.toList.filter fun e=>Nat.ble n e.on).map (uH n)).toArray}
def Qp(n:Nat)(l:List Oper):List Oper:=(l.drop n).map (Uw n)
def IM(n:Nat):Nat→List Oper→Bool
 |_,[]=>true
 |i,o::r=>(o.after.toList.all fun e=> !Region.binds .any e||Nat.blt e.on i)&&(match o.guard with|none=>true|some (j,_)=>Nat.blt j n)&&IM n (i+1) r
def IP(n:Nat)(A:List Nat):Nat→List Oper→Bool
 |_,[]=>true
 |i,o::r=>o.guard.isNone&&((List.range n).all fun j=>(A.getD i 0).testBit j)&&IP n A (i+1) r
def SE(n:Nat)(l:List Oper):Bool:=IM n 0 (l.take n)&&IP n (Oj l []) n (l.drop n)&&Nat.ble n l.length
theorem xK{n:Nat}:∀{l:List Oper} {k i:Nat} {o:Oper},IM n k l=true→l[i]?=some o→(∀e∈o.after,Region.binds .any e=true→e.on<k+i)∧∀j s,o.guard=some (j,s)→j<n
 |[],_,_,_,_,h=>by simp at h
 | o ::l,k,i,o',h,hi=>by
   simp only[IM,aOc]at h;cases i with
   | zero=>
     obtain rfl:o=o':=by simpa using hi
     refine⟨fun e he hb=>?_,fun j s hg=>?_⟩
     · have:=aPt.1 h.1.1 e (Array.mem_toList_iff.2 he)
       rw[hb]at this;exact aNt this
     · have:=h.1.2
       rw[hg]at this;exact aNt this
   | succ i=>
     have:=xK h.2 (i:=i) (o:=o') (by simpa using hi);rwa[show k+1+i=k+(i+1) by omega]at this
theorem xL{n:Nat}{A:List Nat}:∀{l:List Oper} {k i:Nat} {o:Oper},IP n A k l=true→l[i]?=some o→o.guard=none∧∀j,j<n→(A.getD (k+i) 0).testBit j=true
 |[],_,_,_,_,h=>by simp at h
 | o ::l,k,i,o',h,hi=>by
   simp only[IP,aOc,Option.isNone_iff_eq_none]at h;cases i with
   | zero=>
     obtain rfl:o=o':=by simpa using hi
     exact⟨h.1.1,fun j hj=>aPt.1 h.1.2 j (List.mem_range.2 hj)⟩
   | succ i=>
     have:=xL h.2 (i:=i) (o:=o') (by simpa using hi);rwa[show k+1+i=k+(i+1) by omega]at this
structure xM(n:Nat)(l:List Oper):Prop where
 le:n≤l.length
 hd:∀i o,l[i]?=some o→i<n→(∀e∈o.after,Region.binds .any e=true→e.on<i)∧∀j s,o.guard=some (j,s)→j<n
 tl:∀i o,l[i]?=some o→n≤i→o.guard=none∧∀j,j<n→anc l i j=true
theorem XY{n:Nat}{l:List Oper}(h:SE n l=true):xM n l:=by
 simp only[SE,aOc]at h;obtain⟨⟨h1,h2⟩,h3⟩:=h;refine⟨aNt h3,fun i o ho hi=>?_,fun i o ho hi=>?_⟩
 · have:=xK h1 (i:=i) (o:=o) (by rw[aQc,aOn hi];exact ho)
   rwa[aOz]at this
 · have:=xL h2 (i:=i-n) (o:=o) (by rw[aQl,show n+(i-n)=i by omega];exact ho)
   rw[show n+(i-n)=i by omega]at this;exact this
theorem lX{o:Oper}{d:Nat}:d∈direct o↔ ∃e∈o.after,Region.binds .any e=true∧e.on=d:=by
 unfold direct;rw[aOm];constructor
 · rintro⟨e,he,rfl⟩
   obtain⟨h1,h2⟩:=aQm.1 he;exact⟨e,Array.mem_toList_iff.1 h1,h2,rfl⟩
 · rintro⟨e,he,hb,rfl⟩
   exact⟨e,aQm.2 ⟨Array.mem_toList_iff.2 he,hb⟩,rfl⟩
def IQ(l:List Oper)(A:Array Bool):Prop:=∀i o,l[i]?=some o→A.getD i false=true→∀d∈direct o,A.getD d false=true
def AnyQ(P:Program)(l:List Oper)(Q:Act→World→Prop)(a:Act)(w:World):Prop:=Ni P l.toArray Q l.length (Array.replicate l.length false) a w
theorem qQ:∀{fuel:Nat} (k:Nat) {listed:Array Bool} {a:Act} {w:World},Ni P l.toArray Q fuel listed a w→Ni P l.toArray Q (fuel+k) listed a w
 |0,0,_,_,_,h=>h
 | 0,k+1,listed,a,w,h=>by
   show Ni P l.toArray Q (0+k+1) listed a w;exact⟨fun _=>h.2,fun i hi=>by rw[h.1]at hi;cases hi⟩
 | fuel+1,k,listed,a,w,h=>by
   rw[show fuel+1+k=(fuel+k)+1 by omega];exact⟨h.1,fun i hi=>(h.2 i hi).mono fun a w hh=>qQ k hh⟩
theorem Rt{A B:Array Bool}{i:Nat}{d:Bool}(h:i<A.size):(A++B).getD i d=A.getD i d:=by
 rw[aOp,aOp,Array.getElem?_append_left h]
theorem Ua{A B:Array Bool}{i:Nat}{d:Bool}(h:A.size≤i):(A++B).getD i d=B.getD (i-A.size) d:=by
 rw[aOp,aOp,Array.getElem?_append_right h]
theorem xN{n i:Nat}{b d:Bool}(h:i<n):(Array.replicate n b).getD i d=b:=by
 rw[aOp,Array.getElem?_replicate,aOn h];rfl
theorem IR{A:Array Bool}{i:Nat}{d e:Bool}(h:i<A.size):A.getD i d=A.getD i e:=by
 rw[aOp,aOp,Array.getElem?_eq_getElem h];rfl
theorem MI{n:Nat}(c:xM n l){i:Nat}{o:Oper}(ho:l[i]?=some o)(hi:i<n){a:Act}{w:World}{K:Value→World→Prop}(h:Hm P (l.take n).toArray o a w K):Hm P l.toArray o a w K:=by
 have hg:=(c.hd i o ho hi).2;have e:Region.wanted o (yielded l.toArray a.tmps)=Region.wanted o (yielded (l.take n).toArray a.tmps):=by
  unfold Region.wanted;cases hgu:o.guard with
  |none=>rfl
  | some p=>
    obtain⟨j,s⟩:=p;have hj:=hg j s hgu;simp only[yielded,List.getElem?_toArray,aQc,aOn hj]
 unfold Hm at*;rw[e];exact h
theorem xO{n:Nat}(c:xM n l){A:Array Bool}(hA:A.size=n)(hr:Region.ready .any (l.take n).toArray A=[]):A=Array.replicate n true:=by
 have key:∀i,i<n→A.getD i true=true:=by
  intro i
  induction i using Nat.strongRecOn with
  | _ i ih=>
    intro hi;cases hb:A.getD i true with
    |true=>rfl
    | false=>
      have hlt:i<l.length:=aQo hi c.le;have ho:l[i]?=some l[i]:=gge hlt;have:i∈Region.ready .any (l.take n).toArray A:=Ho.2 ⟨hb,l[i],by rw[aQc,aOn hi];exact ho,fun e he hb9=>by
       have h1:=(c.hd i _ ho hi).1 e he hb9;have:=ih e.on h1 om;rw[IR (by rw[hA];omega)];exact this⟩
      rw[hr]at this;cases this
 apply Array.ext
 ·simp[hA]
 · intro i h1 h2
   have:=key i om;rw[aOp,Array.getElem?_eq_getElem h1]at this;simpa using this
theorem aIv{n f2:Nat}(c:xM n l){Q':Act→World→Prop}{B:Array Bool}(hB:B=Array.replicate (l.length-n) false)(hQ:∀a w,Q' a w→Ni P l.toArray Q f2 (Array.replicate n true++B) a w):
    ∀(fuel:Nat) (A:Array Bool) (a:Act) (w:World),A.size=n→IQ l A→Ni P (l.take n).toArray Q' fuel A a w→Ni P l.toArray Q (fuel+f2) (A++B) a w
 | 0,A,a,w,hA,hcl,h=>by
   rw[aOz,xO c hA h.1];exact hQ a w h.2
 | fuel + 1,A,a,w,hA,hcl,h=>by
   by_cases hr:Region.ready .any (l.take n).toArray A=[]
   · rw[xO c hA hr,Nat.add_comm]
     exact qQ (fuel+1) (hQ a w (h.1 hr))
   · have hin:∀i,i∈Region.ready .any (l.take n).toArray A→i∈Region.ready .any l.toArray (A++B):=fun i hi=>by
       obtain⟨h1,o,h2,h3⟩:=Ho.1 hi;rw[aQc]at h2;have hin:i<n:=by
        rcases Nat.lt_or_ge i n with h|h
        ·exact h
        ·rw[aNy om]at h2;cases h2
       rw[aOn hin]at h2;refine Ho.2 ⟨by rw[Rt om];exact h1,o,h2,fun e he hb=>?_⟩;have h4:=(c.hd i o h2 hin).1 e he hb;rw[Rt om];exact h3 e he hb
     have hout:∀i,i∈Region.ready .any l.toArray (A++B)→i<n∧i∈Region.ready .any (l.take n).toArray A:=fun i hi=>by
      obtain⟨h1,o,h2,h3⟩:=Ho.1 hi;rcases Nat.lt_or_ge i n with hlt|hge
      · refine⟨hlt,Ho.2 ⟨by rw[Rt om]at h1;exact h1,o,by rw[aQc,aOn hlt];exact h2,fun e he hb=>?_⟩⟩
        have h4:=(c.hd i o h2 hlt).1 e he hb;have:=h3 e he hb;rw[Rt om]at this;exact this
      · refine aOx ?_ hr
        refine aPk.2 fun j hj=>?_;obtain⟨j1,_,j2,_⟩:=Ho.1 hj;have hjn:j<n:=by
         rcases Nat.lt_or_ge j n with h|h
         ·exact h
         ·rw[aQc,aNy om]at j2;cases j2
        have hX:∀d,d∈direct o→(A++B).getD d false=true:=fun d hd=>by
         obtain⟨e,he,hb,rfl⟩:=lX.1 hd;exact h3 e he hb
        have hAB:∀k,(A++B).getD k false=true→A.getD k false=true:=fun k hk=>by
         rcases Nat.lt_or_ge k n with hkn|hkn
         ·rwa[Rt om]at hk
         · rw[Ua om,hB,aOp,Array.getElem?_replicate]at hk
           split at hk<;>cases hk
        have hj:A.getD j false=true:=by
         obtain⟨d,hd,hdj⟩:=aO h2 ((c.tl i o h2 hge).2 j hjn);have h5:=hAB d (hX d hd);rcases hdj with rfl|⟨_,hdj⟩
         ·exact h5
         ·exact Ga (X:=fun k=>A.getD k false=true) hcl d j h5 hdj
        rw[IR (e:=true) om,j1]at hj;cases hj
     rw[show fuel+1+f2=(fuel+f2)+1 by omega];refine⟨fun hr2=>?_,fun i hi=>?_⟩
     · refine aOx ?_ hr
       exact aPk.2 fun j hj=>by
        have:=hin j hj;rw[hr2]at this;cases this
     · obtain⟨hlt,hi'⟩:=hout i hi
       obtain⟨o,h1,h2⟩:=h.2 i hi';have ho:l[i]?=some o:=by
        simp only[List.getElem?_toArray,aQc,aOn hlt]at h1;exact h1
       refine⟨o,by simpa using ho,(MI c ho hlt h2).mono fun v w' hv=>?_⟩;have hcl2:IQ l (A.setIfInBounds i true):=fun k ok hk hkt d hd=>by
        have hset:∀x,A.getD x false=true→(A.setIfInBounds i true).getD x false=true:=fun x hx=>Zp hx;by_cases e:k=i
        · subst e
          obtain⟨_,o2,h5,h6⟩:=Ho.1 hi';rw[aQc,aOn hlt,hk]at h5;cases h5;obtain⟨e,he,hb,rfl⟩:=lX.1 hd;exact hset _ (h6 e he hb)
        · refine hset _ (hcl k ok hk ?_ d hd)
          rw[aOp]at hkt⊢;rwa[Array.getElem?_setIfInBounds,aNy (Ne.symm e)]at hkt
       have:=aIv c hB hQ fuel (A.setIfInBounds i true) _ _ (by simp[hA]) hcl2 hv;rw [show(A++B).setIfInBounds i true=A.setIfInBounds i true++B by
        apply Array.ext_getElem?;intro j;rw[Array.getElem?_setIfInBounds];by_cases hj:j<A.size
        · rw[Array.getElem?_append_left hj,Array.getElem?_append_left (by simpa using hj),Array.getElem?_setIfInBounds]
          by_cases e:i=j
          ·simp[e,hj];omega
          ·simp[e]
        · rw[Array.getElem?_append_right om,Array.getElem?_append_right (by simp;omega)]
          have:i≠j:=om;simp[this]]
       exact this
theorem fD{n i:Nat}:(Qp n l)[i]?=(l[n+i]?).map (Uw n):=by unfold Qp;rw[aOf,aQl]
theorem aMg{n:Nat}(c:xM n l):∀(fuel:Nat) (B:Array Bool) (a:Act) (w:World),B.size=l.length-n→Ni P (Qp n l).toArray Q fuel B a w→Ni P l.toArray Q fuel (Array.replicate n true++B) a w:=by
 have hready:∀(B:Array Bool),B.size=l.length-n→∀i,i∈Region.ready .any l.toArray (Array.replicate n true++B)↔n≤i∧(i-n)∈Region.ready .any (Qp n l).toArray B:=by
  intro B hB i;rw[Ho,Ho];constructor
  · rintro⟨h1,o,h2,h3⟩
    have hge:n≤i:=by
     rcases Nat.lt_or_ge i n with h|h
     ·rw[Rt (by simpa using h),xN h]at h1;cases h1
     ·exact h
    refine⟨hge,by rw[Ua (by simpa using hge)]at h1;simpa using h1,Uw n o,by rw[fD,show n+(i-n)=i by omega,h2];rfl,fun e he hb=>?_⟩;simp only[Uw,List.mem_toArray,aOm,aQm]at he;obtain⟨e',⟨he',hle⟩,rfl⟩:=he;have hle:=aNt hle;have:=h3 e' (Array.mem_toList_iff.1 he') hb;rw[Ua (by simpa using hle)]at this;simpa[uH]using this
  · rintro⟨hge,h1,o,h2,h3⟩
    rw[fD,show n+(i-n)=i by omega]at h2;obtain⟨o',h4,rfl⟩:=aOr.1 h2;refine⟨by rw[Ua (by simpa using hge)];simpa using h1,o',h4,fun e he hb=>?_⟩;rcases Nat.lt_or_ge e.on n with h|h
    ·rw[Rt (by simpa using h),xN h]
    · rw[Ua (by simpa using h)]
      have:=h3 (uH n e) (by
       simp only[Uw,List.mem_toArray,aOm,aQm];exact⟨e,⟨Array.mem_toList_iff.2 he,Nat.ble_eq_true_of_le h⟩,rfl⟩) hb
      simpa[uH]using this
 have hnil:∀(B:Array Bool),B.size=l.length-n→(Region.ready .any l.toArray (Array.replicate n true++B)=[]↔Region.ready .any (Qp n l).toArray B=[]):=by
  intro B hB;constructor
  · intro h
    refine aPk.2 fun i hi=>?_;have:=(hready B hB (n+i)).2 ⟨by omega,by rwa[show n+i-n=i by omega]⟩;rw[h]at this;cases this
  · intro h
    refine aPk.2 fun i hi=>?_;have:=((hready B hB i).1 hi).2;rw[h]at this;cases this
 intro fuel
 induction fuel with
 |zero=>intro B a w hB h;exact⟨(hnil B hB).2 h.1,h.2⟩
 | succ fuel ih=>
   intro B a w hB h;refine⟨fun hr=>h.1 ((hnil B hB).1 hr),fun i hi=>?_⟩;obtain⟨hge,hi'⟩:=(hready B hB i).1 hi;obtain⟨o,h1,h2⟩:=h.2 _ hi';simp only[List.getElem?_toArray,fD,show n+(i-n)=i by omega]at h1;obtain⟨o',h3,rfl⟩:=aOr.1 h1;have hg:=(c.tl i o' h3 hge).1;refine⟨o',by simpa using h3,?_⟩;have h4:Hm P l.toArray o' a w fun v w'=>Ni P (Qp n l).toArray Q fuel (B.setIfInBounds (i-n) true) (a.put o'.dst v) w':=by
    unfold Hm at*;have e1:Region.wanted o' (yielded l.toArray a.tmps)=true:=by unfold Region.wanted;rw[hg]
    have e2:Region.wanted (Uw n o') (yielded (Qp n l).toArray a.tmps)=true:=by unfold Region.wanted;rw[show(Uw n o').guard=o'.guard from rfl,hg]
    rw[aOn e1];rw[aOn e2]at h2;exact h2
   refine h4.mono fun v w' hv=>?_;have:=ih (B.setIfInBounds (i-n) true) _ _ (by simpa using hB) hv;rw [show(Array.replicate n true++B).setIfInBounds i true=Array.replicate n true++B.setIfInBounds (i-n) true by
    apply Array.ext_getElem?;intro j;rw[Array.getElem?_setIfInBounds];by_cases hj:j<n
    · have:i≠j:=om
      rw[aNy this,Array.getElem?_append_left (by simpa using hj),Array.getElem?_append_left (by simpa using hj)]
    · have hjn:n≤j:=om
      rw[Array.getElem?_append_right (by simpa using hjn),Array.getElem?_append_right (by simpa using hjn),Array.getElem?_setIfInBounds];by_cases e:i=j
      · subst e
        have h9:(i<n+B.size)=(i-n<B.size):=propext om;simp[h9]
      · have:¬(i-n=j-n):=om
        simp[e,this]]
   exact this
variable{C:Cx}{ρ:Bj}{Γ:List Ad}
theorem uI{id:Nat}{R:Exit→Act→World→Prop}(hm:P.follows .mixedOrders=true)(h:To C ρ Γ (AnyQ P l (R .normal))):To C ρ Γ ((Code.region id l.toArray true).wp P R):=fun a w ha hp=>by
 refine wp_region_any hm (Ni.any (fun _ _ h=>h) _ _ _ _ ?_);have:=h a w.drew ha (hp.ext (pK w));simpa[AnyQ]using this
theorem DL(Θ:List Ad)(ms:List Ep)(hB:Lc l ms=true)(hΘ:∀w,oks Γ w→oks Θ w)(h:Dt P noT l Θ Q ms C ρ Γ []):To C ρ Γ (AnyQ P l Q):=fun a w ha hp=>by
 have hS:=hΘ w hp.sat.each;have hfl:=h a w [] ha hp trivial;have hx:Ext w w:=Ie w;show Ni P l.toArray Q l.length (Array.replicate l.length false) a w;refine(Zn (S:=oks Θ) (ms:=ms) (a0:=a) hB (fun _ _=>iT) (vZ ms) _ _ _ _ ?_ ?_).anyI
 · have hno:∀j,¬exd (Array.replicate l.length false) j:=fun j=>by
     unfold exd;simp only[aOp,Array.getElem?_replicate];split<;>simp
   exact⟨[],ms,a,w,[],fun _=>undef,fun _=>w,fun _=>w,rfl,by simp,fun i o _ hx=>(hno i hx).elim,⟨rfl,rfl,fun _ _=>rfl,fun j _ _ _ _ hx=>(hno j hx).elim⟩,
    ⟨rfl,rfl,fun _ _=>rfl,fun j _ _ _ _ hx=>by obtain⟨m,hm,_⟩:=hx;simp at hm⟩,hfl,hx,hS,fun p hp=>by simp at hp,fun j hx=>(hno j hx).elim,fun i _ hx=>(hno i hx).elim,fun p hp=>by simp at hp,fun p _ hx=>(hno _ hx).elim⟩
 ·simp[List.countP_replicate]
theorem xP(m p:Nat)(hne:Nat.beq m p=false)(hpl:Tz m p 0 l=true)(h1:To C ρ Γ (AnyQ P (tie l m p) Q))(h2:To C ρ Γ (AnyQ P (tie l p m) Q)):To C ρ Γ (AnyQ P l Q):=fun a w ha hp=>by
 have g1:=h1 a w ha hp;have g2:=h2 a w ha hp;unfold AnyQ at*;rw[sU]at g1 g2;have hno:∀j,(Array.replicate l.length false).getD j false=false:=fun j=>by
  simp only[aOp,Array.getElem?_replicate];split<;>rfl
 refine lW (fun e=>by rw[e,Nat.beq_refl]at hne;cases hne) (fun i o ho=>?_) _ _ _ _ g1 g2 (hno p) (hno m);have:=gP hpl ho;rw[aOz]at this;exact this.imp qO id
theorem MJ(n:Nat)(hc:SE n l=true)(h:To C ρ Γ (AnyQ P (l.take n) (AnyQ P (Qp n l) Q))):To C ρ Γ (AnyQ P l Q):=fun a w ha hp=>by
 have c:=XY hc;have g:=h a w ha hp;have hl:(l.take n).length=n:=by rw[aOh];exact Nat.min_eq_left c.le
 unfold AnyQ at g⊢;rw[hl]at g;have hs:(Qp n l).length=l.length-n:=by unfold Qp;simp
 have:=aIv (f2:=l.length-n) c (B:=Array.replicate (l.length-n) false) rfl (fun a w hq=>aMg c _ _ _ _ (by simp) (by rw[hs]at hq;exact hq)) n (Array.replicate n false) a w (by simp) (fun k ok _ hk=>by rw[aOp,Array.getElem?_replicate]at hk;split at hk<;>cases hk) g;rw[show n+(l.length-n)=l.length by have:=c.le;omega]at this;rw[show Array.replicate l.length false=Array.replicate n false++Array.replicate (l.length-n) false by
  rw[Array.replicate_append_replicate];congr 1;have:=c.le;omega]
 exact this
end
end Go.Sep
namespace Go.In
open Go.RowKit Go.Flow Go.Mem Go.Sep
mutual
def ren(π:Nat→Nat):AV→AV
 | .ptr i o=> .ptr (π i) o
 | .sl i o l c=> .sl (π i) o l c
 | .slu i o l c d=> .slu (π i) o l (π c) d
 | .mp i=> .mp (π i)
 | .fn f a b=> .fn f (uJ π a) (uJ π b)
 | .ifc t v=> .ifc t (ren π v)
 | .agg l=> .agg (uJ π l)
 | .tup l=> .tup (uJ π l)
 | .bool b=> .bool b
 | .int k n=> .int k n
 | .str s=> .str s
 | .nilp=> .nilp
 | .nils=> .nils
 | .nilm=> .nilm
 | .nilf=> .nilf
 | .nili=> .nili
 | .und=> .und
def uJ(π:Nat→Nat):List AV→List AV
 |[]=>[]
 |v::l=>ren π v::uJ π l
end
structure Ren(π:Nat→Nat)(k:Nat):Prop where
 fix:∀i,i<k→π i=i
 big:∀i,k≤i→k≤π i
def after(σ π:Nat→Nat):Nat→Nat:=fun i=>σ (π i)
theorem Xj{σ π:Nat→Nat}{k:Nat}(hk:4096≤k)(h:Ren π k)(i:Nat):bl σ (π i)=bl (after σ π) i:=by
 unfold bl after;rcases Nat.lt_or_ge i k with hi|hi
 ·rw[h.fix i hi]
 · have h1:Nat.blt i 4096=false:=by
     cases hb:Nat.blt i 4096 with
     |false=>rfl
     |true=>have:=aNt hb;omega
   have h2:Nat.blt (π i) 4096=false:=by
    have:=h.big i hi;cases hb:Nat.blt (π i) 4096 with
    |false=>rfl
    |true=>have:=aNt hb;omega
   rw[h1,h2];rfl
mutual
theorem jA{σ π:Nat→Nat}{k:Nat}(hk:4096≤k)(h:Ren π k):∀v:AV,val σ (ren π v)=val (after σ π) v
 | .ptr i o=>by simp only[ren,val,Xj hk h]
 | .sl i o l c=>by simp only[ren,val,Xj hk h]
 | .slu i o l c d=>by simp only[ren,val,Xj hk h];rfl
 | .mp i=>by simp only[ren,val,Xj hk h]
 | .fn f a b=>by simp only[ren,val,Qj hk h a,Qj hk h b]
 | .ifc t v=>by simp only[ren,val,jA hk h v]
 | .agg l=>by simp only[ren,val,Qj hk h l]
 | .tup l=>by simp only[ren,val,Qj hk h l]
 | .bool _=>by simp only[ren,val]
 | .int _ _=>by simp only[ren,val]
 | .str _=>by simp only[ren,val]
 | .nilp=>by simp only[ren,val]
 | .nils=>by simp only[ren,val]
 | .nilm=>by simp only[ren,val]
 | .nilf=>by simp only[ren,val]
 | .nili=>by simp only[ren,val]
 | .und=>by simp only[ren,val]
theorem Qj{σ π:Nat→Nat}{k:Nat}(hk:4096≤k)(h:Ren π k):∀l:List AV,Dm σ (uJ π l)=Dm (after σ π) l
 |[]=>by simp only[uJ,Dm]
 |v::l=>by simp only[uJ,Dm,jA hk h v,Qj hk h l]
end
def aIw(π:Nat→Nat):AC→AC
 | .kn c=> .kn c
 | .un c d=> .un (π c) d
def SF(π:Nat→Nat):MK→MK
 | .box t=> .box t
 | .row e s n c=> .row e s n (aIw π c)
 | .ro=> .ro
 | .maps m=> .maps (m.map fun p=>(p.1,ren π p.2))
def SG(π:Nat→Nat)(c:MC):MC:=⟨π c.i,SF π c.kd,uJ π c.cs⟩
theorem aEx{σ π:Nat→Nat}{k:Nat}(hk:4096≤k)(h:Ren π k)(c:MC):ck σ (SG π c)=ck (after σ π) c:=by
 obtain⟨i,kd,cs⟩:=c;unfold SG ck;cases kd with
 |box t=>simp only[SF,Xj hk h,Qj hk h]
 | row e s n c=>
   have:cp σ (aIw π c)=cp (after σ π) c:=by cases c<;>rfl
   simp only[SF,Xj hk h,Qj hk h,this]
 |ro=>simp only[SF,Xj hk h,Qj hk h]
 | maps m=>
   have:prs σ (m.map fun p=>(p.1,ren π p.2))=prs (after σ π) m:=by
    unfold prs;rw[aQe];exact List.map_congr_left fun p _=>by simp only[Function.comp_def,jA hk h]
   simp only[SF,Xj hk h,this]
theorem XZ{σ π:Nat→Nat}{k:Nat}(hk:4096≤k)(h:Ren π k)(M:List MC):mem σ (M.map (SG π))=mem (after σ π) M:=by
 unfold mem;rw[aQe];exact List.map_congr_left fun c _=>aEx hk h c
def rot(k a i:Nat):Nat:=bif Nat.blt i k then i else bif Nat.blt i (k+a)then i+1 else bif Nat.beq i (k+a)then k else i
theorem YA(k a:Nat):Ren (rot k a) k:=by
 refine⟨fun i hi=>?_,fun i hi=>?_⟩
 · unfold rot
   rw[show Nat.blt i k=true from Nat.ble_eq_true_of_le hi];rfl
 · unfold rot
   cases h1:Nat.blt i k with
   |true=>have:=aNt h1;omega
   | false=>
     cases h2:Nat.blt i (k+a)with
     |true=>show k≤i+1;omega
     | false=>
       cases h3:Nat.beq i (k+a)with
       |true=>exact aOd _
       |false=>exact hi
theorem aEy(k:Nat):Ren (fun i=>i) k:=⟨fun _ _=>rfl,fun _ h=>h⟩
def Vv(ρ:Dn):List Nat→Dn
 |[]=>[]
 | t::r=>match Sr ρ t with
   |some v=>(t,v)::Vv ρ r
   |none=>Vv ρ r
def bO(π:Nat→Nat)(ρ ρ':Dn):List Nat→Bool
 |[]=>true
 | t ::r=>(match Sr ρ t with
   |none=>true
   | some u=>match Sr ρ' t with
     |some v=>eqV (ren π u) v
     |none=>false)&&bO π ρ ρ' r
def IU:List MC→MC→oP (List MC)
 |[],_=>none
 | d::r,c=>bif Nat.beq d.i c.i then(bif eqK d.kd c.kd&&iL d.cs c.cs then some r else none)else match IU r c with
   |some r'=>some (d::r')
   |none=>none
def xQ:List MC→List MC→oP (List MC)
 |M,[]=>some M
 | M,c::r=>match IU M c with
   |some M'=>xQ M' r
   |none=>none
def aEz:AV→oP Nat
 | .ptr i _=>some i
 | .sl i _ _ _=>some i
 | .slu i _ _ _ _=>some i
 |_=>none
def lY(ρ:Dn)(M:List MC):List Nat→oP (List MC)
 |[]=>some []
 | t ::r=>match Sr ρ t,lY ρ M r with
   | some v,some l=>match aEz v with
     | some i=>match find M i with
       |some (_,c)=>some (c::l)
       |none=>none
     |none=>some l
   |_,_=>none
inductive Hq where
 |flow (ms:List Ep) (ts:List Nat)
 |split (m p:Nat) (rest:oP Nat) (a b:Hq) (keep:List Nat)
 |cut (n:Nat) (a b:Hq)
def gQ(k k':Nat):oP Nat→Nat→Nat
 |some r=>rot k (k'-k-1-r)
 |none=>fun i=>i
def bP{P:pG}(S:Same P)(F:Oz)(n:Nat):Hq→List Oper→St→oP St
 | .flow ms ts,l,s=>bif Lc l ms then(match lY s.ρ s.M ts with
     | some Th=>match xG S F n l Th ms ⟨s.ρ,s.M,[],s.k⟩with
       |some s'=>some ⟨s'.ρ,Vu s'.N++s'.M,s'.k⟩
       |none=>none
     |none=>none)else none
 | .cut j a b,l,s=>bif SE j l then(match bP S F n a (l.take j) s with
     |some s1=>bP S F n b (Qp j l) s1
     |none=>none)else none
 | .split m p r a b keep,l,s=>bif !Nat.beq m p&&Tz m p 0 l then(match bP S F n a (tie l m p) s,bP S F n b (tie l p m) s with
     |some s1,some s2=>bif Nat.beq s1.k s2.k&&bO (gQ s.k s1.k r) s1.ρ s2.ρ keep then(match xQ s2.M (s1.M.map (SG (gQ s.k s1.k r)))with
         |some _=>some ⟨Vv s1.ρ keep,s1.M,s1.k⟩
         |none=>none)else none
     |_,_=>none)else none
section
variable{P:pG}{S:Same P}{F:Oz}{C:Cx}{σ:Nat→Nat}{s s':St}{k:Nat}
theorem Ux{ρ:Dn}{M:List MC}:∀{ts:List Nat} {Th:List MC},lY ρ M ts=some Th→∀c∈Th,c∈M
 |[],Th,h,c,hc=>by simp only[lY,aOi]at h;subst h;cases hc
 | t :: r,Th,h,c,hc=>by
   unfold lY at h;split at h
   · rename_i v l hv hl
     split at h
     · split at h
       · rename_i j b hf
         cases h;rcases aNx.1 hc with rfl|hc
         ·exact Qf hf
         ·exact Ux hl c hc
       ·cases h
     ·cases h;exact Ux hl c hc
   ·cases h
theorem Yl{ρ:Dn}(h:Qy k ρ):∀l,Qy k (Vv ρ l)
 |[]=>fun p hp=>by cases hp
 | t::r=>by
   unfold Vv;split
   ·rename_i v hv;exact Fy (aZ h hv) (Yl h r)
   ·exact Yl h r
theorem Uy{ρ:Dn}:∀l,Wd (Jo σ ρ) (Jo σ (Vv ρ l))
 |[]=>trivial
 | t::r=>by
   unfold Vv;split
   ·rename_i v hv;exact⟨Ph σ hv,Uy r⟩
   ·exact Uy r
theorem bQ{π:Nat→Nat}(hk:4096≤k)(h:Ren π k){ρ ρ':Dn}:∀{l:List Nat},bO π ρ ρ' l=true→Wd (Jo σ ρ') (Jo (after σ π) (Vv ρ l))
 |[],_=>trivial
 | t ::r,hq=>by
   simp only[bO,aOc]at hq;have ih:=bQ hk h hq.2;have h1:=hq.1;unfold Vv;split
   · rename_i u hu
     rw[hu]at h1;simp only at h1;split at h1
     · rename_i v hv
       have e:=fA _ _ h1;refine⟨?_,ih⟩;rw[Ph σ hv,←e,jA hk h]
     ·cases h1
   ·exact ih
theorem lZ:∀{M:List MC} {c:MC} {R:List MC},IU M c=some R→M.Perm (c::R)
 |[],_,_,h=>by cases h
 | d ::r,c,R,h=>by
   unfold IU at h;cases hb:Nat.beq d.i c.i with
   | true=>
     rw[hb]at h;simp only[aPo]at h;cases hq:(eqK d.kd c.kd&&iL d.cs c.cs)with
     |false=>rw[hq]at h;cases h
     | true=>
       rw[hq]at h;cases h;rw[aOc]at hq;have e1:=aOg hb;have e2:=RX hq.1;have e3:=Ut _ _ hq.2;obtain⟨i,kd,cs⟩:=d;obtain⟨i',kd',cs'⟩:=c;simp only at e1 e2 e3;subst e1 e2 e3;exact List.Perm.refl _
   | false=>
     rw[hb]at h;simp only[cond_false]at h;split at h
     · rename_i r' hr
       cases h;exact((lZ hr).cons d).trans (aPd _ _ _)
     ·cases h
theorem mD:∀{L M R:List MC},xQ M L=some R→M.Perm (L++R)
 |[],M,R,h=>by simp only[xQ,aOi]at h;subst h;exact List.Perm.refl _
 | c ::r,M,R,h=>by
   unfold xQ at h;split at h
   · rename_i M' hm
     exact(lZ hm).trans ((mD h).cons c)
   ·cases h
theorem ML{k':Nat}{r:oP Nat}:Ren (gQ k k' r) k:=by
 cases r with
 |none=>exact aEy k
 |some r=>exact YA k _
theorem Xk(hF:Nb P F):∀(pl:Hq) (l:List Oper) (s s':St),bP S F C.n pl l s=some s'→s.Good→s'.Good∧s.k≤s'.k∧∀Q,Goes C s s' Q (AnyQ P l Q)
 | .flow ms ts,l,s,s',h,hs=>by
   simp only[bP]at h;cases hB:Lc l ms with
   |false=>rw[hB]at h;cases h
   | true=>
     rw[hB]at h;simp only[aPo]at h;split at h
     · rename_i Th hTh
       split at h
       · rename_i s1 h1
         cases h;have hT:Le s.k Th:=fun c hc=>hs.me c (Ux hTh c hc);have hfl:=fun Q=>xJ (C:=C) (Q:=Q) hF ms _ _ ⟨hs.big,hs.sl,hs.me,fun c hc=>by cases hc⟩ hT h1;obtain⟨a,b,_⟩:=hfl fun _ _=>True;refine⟨⟨a.big,a.sl,Hg a.nw a.me⟩,b,fun Q σ k=>?_⟩;refine DL (mem σ Th) ms hB (fun w hw c hc=>?_) ((hfl Q).2.2 σ k);obtain⟨d,hd,rfl⟩:=aOm.1 hc;exact hw _ (List.mem_map_of_mem (Ux hTh d hd))
       ·cases h
     ·cases h
 | .cut j a b,l,s,s',h,hs=>by
   simp only[bP]at h;cases hB:SE j l with
   |false=>rw[hB]at h;cases h
   | true=>
     rw[hB]at h;simp only[aPo]at h;split at h
     · rename_i s1 h1
       obtain⟨g1,g2,g3⟩:=Xk hF a _ _ _ h1 hs;obtain⟨k1,k2,k3⟩:=Xk hF b _ _ _ h g1;exact⟨k1,aPx g2 k2,fun Q σ k=>MJ j hB (Goes.trans g2 (g3 (AnyQ P (Qp j l) Q)) (k3 Q) σ k)⟩
     ·cases h
 | .split m p r a b keep,l,s,s',h,hs=>by
   simp only[bP]at h;cases hB:(!Nat.beq m p&&Tz m p 0 l)with
   |false=>rw[hB]at h;cases h
   | true=>
     rw[hB]at h;simp only[aPo]at h;rw[aOc,Bool.not_eq_true']at hB;split at h
     · rename_i s1 s2 h1 h2
       cases hq:(Nat.beq s1.k s2.k&&bO (gQ s.k s1.k r) s1.ρ s2.ρ keep)with
       |false=>rw[hq]at h;cases h
       | true =>
         rw[hq]at h;simp only[aPo]at h;rw[aOc]at hq;split at h
         · rename_i R hR
           cases h;obtain⟨a1,a2,a3⟩:=Xk hF a _ _ _ h1 hs;obtain⟨b1,b2,b3⟩:=Xk hF b _ _ _ h2 hs;have hren:Ren (gQ s.k s1.k r) s.k:=ML;refine⟨⟨a1.big,Yl a1.sl _,a1.me⟩,a2,fun Q σ k=>xP m p hB.1 hB.2 ?_ ?_⟩
           ·exact a3 Q σ fun σ' he=>Ju _ (Uy keep) (k σ' he)
           · refine b3 Q σ fun σ' he=>?_
             have hσ:Sup s.k σ (after σ' (gQ s.k s1.k r)):=fun i hi=>by
              show σ i=σ' (gQ s.k s1.k r i);rw[hren.fix i hi];exact he i hi
             have hk:=k _ hσ;refine Ju _ (bQ hs.big hren hq.2) (bz (Γ':=mem σ' (s1.M.map (SG (gQ s.k s1.k r)))++mem σ' R) (by rw[←bu];exact xI (mD hR)) (To.drop ?_));rw[XZ hs.big hren];exact hk
         ·cases h
     ·cases h
end
structure Env(P:pG) where
 S:Same P
 flow:Nat→Nat→oP Hq
 live:Nat→List Nat
 drop:Nat→Nat
 fuel:Nat
 mixed:P.follows .mixedOrders=true
def uK{P:pG}(E:Env P)(F:Oz)(n f:Nat)(id:Nat)(ops:Array Oper)(draw:Bool)(s:St):oP St:=
 match draw with
 |false=>RS E.S F n ops ops.toList s
 | true=>match E.flow f id with
   |some pl=>bP E.S F n pl ops.toList s
   |none=>none
inductive Ex where
 |nor
 |exi (id:Nat)
 |ret
def Ex.to:Ex→Exit
 | .nor=> .normal
 | .exi id=> .exit id
 | .ret=> .ret
def IV(g:St→oP (Ex×St))(live:List Nat):Nat→St→oP (Ex×St)
 |0,_=>none
 | m+1,s=>match g ⟨Vv s.ρ live,s.M,s.k⟩with
   |some (.nor,s1)=>IV g live m s1
   |some (.exi id,s1)=>some (.exi id,s1)
   |some (.ret,s1)=>some (.ret,s1)
   |none=>none
def Nk{P:pG}(E:Env P)(F:Oz)(n f:Nat):Code→St→oP (Ex×St)
 | .skip,s=>some (.nor,s)
 | .region id ops draw,s=>match uK E F n f id ops draw s with
   |some s'=>some (.nor,s')
   |none=>none
 | .seq a b,s=>match Nk E F n f a s with
   |some (.nor,s1)=>Nk E F n f b s1
   |some (.exi id,s1)=>some (.exi id,s1)
   |some (.ret,s1)=>some (.ret,s1)
   |none=>none
 | .cond c x y,s=>match aev s.ρ c with
   |some (.bool true)=>Nk E F n f x s
   |some (.bool false)=>Nk E F n f y s
   |_=>none
 | .block id c,s=>match Nk E F n f c s with
   |some (.exi j,s1)=>bif Nat.beq j id then some (.nor,s1)else some (.exi j,s1)
   |some (.nor,s1)=>some (.nor,s1)
   |some (.ret,s1)=>some (.ret,s1)
   |none=>none
 | .loop c,s=>IV (Nk E F n f c) (E.live f) E.fuel s
 | .exit id,s=>some (.exi id,s)
 | .ret,s=>some (.ret,s)
 |_,_=>none
def iM(P:pG)(s:St):List ResultVar→oP (List AV)
 |[]=>some []
 | .tmp t::r=>match Sr s.ρ t,iM P s r with
   |some v,some l=>some (v::l)
   |_,_=>none
 | .cell t ty::r=>match lJ P s.ρ s.M (.load ty (.tmp t)),iM P s r with
   |some v,some l=>some (v::l)
   |_,_=>none
def Zj:List AV→AV
 |[v]=>v
 |l=> .tup l
def Zy:Nat→List AV→Dn
 |_,[]=>[]
 |k,v::r=>(k,v)::Zy (k+1) r
def xR(mode k:Nat)(M:List MC):List MC:=
 match mode with
 |0=>M
 |1=>M.filter fun c=>Nat.blt c.i k||(match c.kd with| .box _=>false| .maps _=>false|_=>true)
 |_=>M.filter fun c=>Nat.blt c.i k
def aFa{P:pG}(E:Env P)(F:Oz)(f:Nat)(vs:List AV)(M:List MC)(k:Nat):oP (AV×List MC×Nat):=
 match P.funcs[f]? with
 | some fn=>match fn.body with
   | some c=>bif Nat.ble vs.length fn.ntmps then(match Nk E F fn.ntmps f c ⟨Zy 0 vs,M,k⟩with
     |some (.exi _,_)=>none
     | some (_,s)=>match iM P s fn.results.toList with
       |some l=>some (Zj l,xR (E.drop f) k s.M,s.k)
       |none=>none
     |none=>none)else none
   |none=>none
 |none=>none
def bR{P:pG}(E:Env P)(O:Oz):Nat→Oz
 |0,_,_,_,_=>none
 | d+1,f,vs,M,k=>match O f vs M k with
   |some r=>some r
   |none=>aFa E (bR E O d) f vs M k
section
variable{P:pG}{E:Env P}{F:Oz}{C:Cx}{σ:Nat→Nat}{s s':St}{Q:Exit→Act→wD→Prop}{f k:Nat}
theorem DN(hF:Nb P F){id:Nat}{ops:Array Oper}{draw:Bool}(hs:s.Good)(h:uK E F C.n f id ops draw s=some s'):s'.Good∧s.k≤s'.k∧Goes C s s' (Q .normal) ((Code.region id ops draw).wp P Q):=by
 unfold uK at h;split at h
 · obtain⟨a,b,c⟩:=IK (Q:=Q) hF ops.toList s s' h hs
   exact⟨a,b,fun σ k=>cz (l:=ops.toList) (c σ k)⟩
 · split at h
   · rename_i pl _
     obtain⟨a,b,c⟩:=Xk hF pl ops.toList s s' h hs;exact⟨a,b,fun σ k=>uI (l:=ops.toList) E.mixed (c (Q .normal) σ k)⟩
   ·cases h
def mE(C:Cx)(P:pG)(c:Code)(g:St→oP (Ex×St)):Prop:=
 ∀s e s',g s=some (e,s')→s.Good→s'.Good∧s.k≤s'.k∧∀Q,Goes C s s' (Q e.to) (c.wp P Q)
theorem xS{c:Code}{g:St→oP (Ex×St)}{live:List Nat}(hg:mE C P c g):∀(m:Nat) (s:St) (e:Ex) (s':St),IV g live m s=some (e,s')→s.Good→s'.Good∧s.k≤s'.k∧∀Q,Goes C s s' (Q e.to) (Code.rounds P c Q m)
 |0,s,e,s',h,_=>by cases h
 | m +1,s,e,s',h,hs=>by
   unfold IV at h;have hs0:St.Good ⟨Vv s.ρ live,s.M,s.k⟩:=⟨hs.big,Yl hs.sl _,hs.me⟩
   have pre:∀{K' K:Act→wD→Prop} {s1:St},Goes C ⟨Vv s.ρ live,s.M,s.k⟩ s1 K' K→Goes C s s1 K' K:=fun hh σ k=>Ju _ (Uy live) (hh σ k);split at h
   · rename_i s1 h1
     obtain⟨a,b,c1⟩:=hg _ _ _ h1 hs0;obtain⟨a',b',c2⟩:=xS hg m s1 e s' h a;exact⟨a',aPx b b',fun Q=>pre (Goes.trans b (c1 (Exit.then (Code.rounds P c Q m) Q)) (c2 Q))⟩
   · rename_i id s1 h1
     cases h;obtain⟨a,b,c1⟩:=hg _ _ _ h1 hs0;exact⟨a,b,fun Q=>pre (c1 (Exit.then (Code.rounds P c Q m) Q))⟩
   · rename_i s1 h1
     cases h;obtain⟨a,b,c1⟩:=hg _ _ _ h1 hs0;exact⟨a,b,fun Q=>pre (c1 (Exit.then (Code.rounds P c Q m) Q))⟩
   ·cases h
theorem Mh(hF:Nb P F):∀(c:Code),mE C P c (Nk E F C.n f c)
 | .skip=>fun s e s' h hs=>by simp only[Nk,aOi,Prod.mk.injEq]at h;obtain⟨rfl,rfl⟩:=h;exact⟨hs,aOd _,fun Q σ k=>Jsp (k σ fun _ _=>rfl)⟩
 | .region id ops draw=>fun s e s' h hs=>by
   simp only[Nk]at h;split at h
   · rename_i s1 h1
     cases h;have h0:=fun Q=>DN (C:=C) (Q:=Q) hF hs h1;exact⟨(h0 fun _ _ _=>True).1,(h0 fun _ _ _=>True).2.1,fun Q=>(h0 Q).2.2⟩
   ·cases h
 | .seq a b=>fun s e s' h hs=>by
   simp only[Nk]at h;split at h
   · rename_i s1 h1
     obtain⟨g1,g2,g3⟩:=Mh hF a s _ _ h1 hs;obtain⟨k1,k2,k3⟩:=Mh hF b s1 _ _ h g1;exact⟨k1,aPx g2 k2,fun Q σ k=>Js (Goes.trans g2 (g3 (Exit.then (b.wp P Q) Q)) (k3 Q) σ k)⟩
   · rename_i id s1 h1
     cases h;obtain⟨g1,g2,g3⟩:=Mh hF a s _ _ h1 hs;exact⟨g1,g2,fun Q σ k=>Js (g3 (Exit.then (b.wp P Q) Q) σ k)⟩
   · rename_i s1 h1
     cases h;obtain⟨g1,g2,g3⟩:=Mh hF a s _ _ h1 hs;exact⟨g1,g2,fun Q σ k=>Js (g3 (Exit.then (b.wp P Q) Q) σ k)⟩
   ·cases h
 | .cond c x y=>fun s e s' h hs=>by
   simp only[Nk]at h;split at h
   · rename_i hc
     obtain⟨g1,g2,g3⟩:=Mh hF x s _ _ h hs;exact⟨g1,g2,fun Q σ k=>Ld (evv (σ:=σ) hc) (g3 Q σ k)⟩
   · rename_i hc
     obtain⟨g1,g2,g3⟩:=Mh hF y s _ _ h hs;exact⟨g1,g2,fun Q σ k=>BS (evv (σ:=σ) hc) (g3 Q σ k)⟩
   ·cases h
 | .block id c=>fun s e s' h hs=>by
   simp only[Nk]at h;split at h
   · rename_i j s1 h1
     obtain⟨g1,g2,g3⟩:=Mh hF c s _ _ h1 hs;cases hj:Nat.beq j id with
     | true=>
       rw[hj]at h;cases h;have e0:=aOg hj;subst e0;exact⟨g1,g2,fun Q σ k=>To.b (g3 (Exit.inBlock j Q) σ fun σ' he=>Jbx (k σ' he))⟩
     | false=>
       rw[hj]at h;cases h;exact⟨g1,g2,fun Q σ k=>To.b (g3 (Exit.inBlock id Q) σ fun σ' he=>GQ hj (k σ' he))⟩
   · rename_i s1 h1
     cases h;obtain⟨g1,g2,g3⟩:=Mh hF c s _ _ h1 hs;exact⟨g1,g2,fun Q σ k=>To.b (g3 (Exit.inBlock id Q) σ k)⟩
   · rename_i s1 h1
     cases h;obtain⟨g1,g2,g3⟩:=Mh hF c s _ _ h1 hs;exact⟨g1,g2,fun Q σ k=>To.b (g3 (Exit.inBlock id Q) σ k)⟩
   ·cases h
 | .loop c=>fun s e s' h hs=>by
   simp only[Nk]at h;obtain⟨a,b,d⟩:=xS (Mh hF c) E.fuel s e s' h hs;exact⟨a,b,fun Q σ k=>To.rounds E.fuel (d Q σ k)⟩
 | .exit id=>fun s e s' h hs=>by simp only[Nk,aOi,Prod.mk.injEq]at h;obtain⟨rfl,rfl⟩:=h;exact⟨hs,aOd _,fun Q σ k=>Jex (k σ fun _ _=>rfl)⟩
 | .ret=>fun s e s' h hs=>by simp only[Nk,aOi,Prod.mk.injEq]at h;obtain⟨rfl,rfl⟩:=h;exact⟨hs,aOd _,fun Q σ k=>Jrt (k σ fun _ _=>rfl)⟩
 | .rangeFunc _ _ _ _=>fun s e s' h hs=>by simp[Nk]at h
 | .scope _=>fun s e s' h hs=>by simp[Nk]at h
 | .label _=>fun s e s' h hs=>by simp[Nk]at h
 | .goto _=>fun s e s' h hs=>by simp[Nk]at h
 | .refuse _=>fun s e s' h hs=>by simp[Nk]at h
theorem mF(hs:s.Good):∀{rs:List ResultVar} {l:List AV},iM P s rs=some l→Ej s.k l
 |[],l,h=>by simp only[iM,aOi]at h;subst h;simp only[Ej]
 | .tmp t::r,l,h=>by
   unfold iM at h;split at h
   · rename_i v l' hv hl
     cases h;simp only[Ej];exact⟨aZ hs.sl hv,mF hs hl⟩
   ·cases h
 | .cell t ty::r,l,h=>by
   unfold iM at h;split at h
   · rename_i v l' hv hl
     cases h;simp only[Ej];exact⟨(Xd (o:=⟨none, .load ty (.tmp t),0, "",#[],none⟩) hs.big hs.sl hs.me hv).1,mF hs hl⟩
   ·cases h
def YB(a:Act):ResultVar→Sem vU
 | .tmp t=>pure (a.tmps.getD t undef)
 | .cell t ty=>do loadVar ty (←asAddr (a.tmps.getD t undef))
theorem xU(x:Addr):asAddr (.pointer (some x))=pure x:=rfl
theorem mG(hs:s.Good){a:Act}{w:wD}(ha:Vz (Jo σ s.ρ) a)(hw:oks (mem σ s.M) w):∀{rs:List ResultVar} {l:List AV},iM P s rs=some l→
    (rs.mapM (YB a)).run P w= .ok (Dm σ l) w
 |[],l,h=>by simp only[iM,aOi]at h;subst h;rfl
 | .tmp t::r,l,h=>by
   unfold iM at h;split at h
   · rename_i v l' hv hl
     cases h;have h1:a.tmps.getD t undef=val σ v:=by rw[aOp,ha t _ (Ph σ hv)];rfl
     rw[List.mapM_cons];simp only[aPg,aPp,aOy,YB,h1,mG hs ha hw hl,Dm]
   ·cases h
 | .cell t ty::r,l,h=>by
   unfold iM at h;split at h
   · rename_i v l' hv hl
     cases h;have h2:=(Xd (o:=⟨none, .load ty (.tmp t),0, "",#[],none⟩) hs.big hs.sl hs.me hv).2 σ a w ha hw;simp only[lJ]at hv;split at hv
     · rename_i i q hx
       have hx':ev (Jo σ s.ρ) (.tmp t)=some (.pointer (some ⟨bl σ i,q,none⟩)):=evv hx;have h3:a.tmps.getD t undef= .pointer (some ⟨bl σ i,q,none⟩):=by rw[aOp,ha t _ hx'];rfl
       have h4:(loadVar ty ⟨bl σ i,q,none⟩).run P w= .ok (val σ v) w:=by
        unfold execOp at h2;have h5:a.eval (.tmp t)= .pointer (some ⟨bl σ i,q,none⟩):=h3;simp only[h5,Instr.loadAt,Instr.sureAddr,aPg,aPp,aOy]at h2;cases hr:(loadVar ty ⟨bl σ i,q,none⟩).run P w with
        |ok v2 w2=>rw[hr]at h2;simp at h2;rw[h2.1,h2.2]
        |halt hh w2=>rw[hr]at h2;simp[Result.andThen]at h2
       rw[List.mapM_cons];simp only[aPg,aPp,aOy,YB,h3,xU,h4,mG hs ha hw hl,Dm]
     ·cases hv
   ·cases h
theorem MM{l:List AV}:(if h:(Dm σ l).toArray.size=1 then(Dm σ l).toArray[0]else .tuple (Dm σ l).toArray)=val σ (Zj l):=by
 match l with
 |[]=>simp[Zj,Dm,val]
 |[v]=>simp[Zj,Dm]
 |u::v::r=>simp[Zj,Dm,val]
theorem MN{l:List AV}(h:Ej k l):bq k (Zj l):=by
 match l with
 |[]=>simp only[Zj,bq,Ej]
 |[v]=>simp only[Ej]at h;exact h.1
 |u::v::r=>simp only[Zj,bq];exact h
theorem gT:∀(l:List AV) (i:Nat),Jo σ (Zy i l)=slotsOf i (Dm σ l)
 |[],_=>rfl
 | v::r,i=>by
   show(i,val σ v)::Jo σ (Zy (i+1) r)=_;rw[gT r (i+1)];rfl
theorem mH:∀{l:List AV} (i:Nat),Ej k l→Qy k (Zy i l)
 |[],_,_=>fun p hp=>by cases hp
 | v::r,i,h=>by
   simp only[Ej]at h;exact Fy h.1 (mH (i+1) h.2)
theorem xV{fn:Func}(hs:s.Good){a:Act}{w:wD}(ha:Vz (Jo σ s.ρ) a)(hw:oks (mem σ s.M) w){l:List AV}(h:iM P s fn.results.toList=some l):(results fn a.tmps).run P w= .ok (val σ (Zj l)) w:=by
 have h1:=mG hs ha hw h;have e:results fn a.tmps=(fn.results.mapM (YB a)>>=fun vs=>pure (if h:vs.size=1 then vs[0]else .tuple vs)):=rfl;have e2:∀x:Sem (List vU),(List.toArray<$>x:Sem (Array vU))=(x>>=fun l=>pure l.toArray):=fun _=>rfl;rw[e,Array.mapM_eq_mapM_toList,e2];simp only[aPg,h1,aOy,aPp,MM]
theorem MO{mode k k':Nat}{M:List MC}(h:Le k M):Le k (xR mode k' M):=by
 unfold xR;split
 ·exact h
 ·exact Xi h
 ·exact Xi h
theorem DR{mode k k':Nat}{M:List MC}{vs:List vU}{Γ:List Ad}{v:AV}(h:Bd P f vs Γ (iK k σ v M)):Bd P f vs Γ (iK k σ v (xR mode k' M)):=by
 unfold xR;split
 ·exact h
 ·exact fC h
 ·exact fC h
theorem YC(hF:Nb P F):Nb P (aFa E F):=fun f vs M k v M' k' h hbig hvs hM=>by
 unfold aFa at h;split at h
 · rename_i fn hfn
   split at h
   · rename_i c hc
     cases hl:Nat.ble vs.length fn.ntmps with
     |false=>rw[hl]at h;cases h
     | true=>
       rw[hl]at h;simp only[aPo]at h;have hs0:St.Good ⟨Zy 0 vs,M,k⟩:=⟨hbig,mH 0 hvs,hM⟩
       split at h
       ·cases h
       · rename_i e s hne hco
         split at h
         · rename_i l hr
           cases h;have hco':=fun C (hn:C.n=fn.ntmps)=>Mh (C:=C) (E:=E) (f:=f) hF c ⟨Zy 0 vs,M,k⟩ e s (by rw[hn];exact hco);obtain⟨g1,g2,_⟩:=hco' ⟨fn.ntmps,[],default,[]⟩ rfl hs0;refine⟨g2,MN (mF g1 hr),MO g1.me,fun σ=>DR ?_⟩;refine Bd.enter hfn hc rfl (by rw[Iq];exact hl) fun w=>?_;obtain⟨_,_,g3⟩:=hco' ⟨fn.ntmps,mem σ M,w,[]⟩ rfl hs0;have g4:=g3 (bodyPost P fn (Fin ⟨fn.ntmps,mem σ M,w,[]⟩ (iK k σ (Zj l) s.M))) σ;rw[←gT];refine g4 fun σ' he=>?_;refine wC ?_ (fun a w' ha hw=>xV g1 ha.sees hw.each hr) ⟨σ',he,rfl,rfl⟩;cases e with
           |nor=>exact .inr rfl
           |ret=>exact .inl rfl
           |exi id=>exact aOx rfl (hne id)
         ·cases h
       ·cases h
   ·cases h
 ·cases h
theorem Xl{O:Oz}(hO:Nb P O):∀d,Nb P (bR E O d)
 |0=>fun _ _ _ _ _ _ _ h=>by cases h
 | d+1=>fun f vs M k v M' k' h hbig hvs hM=>by
   unfold bR at h;split at h
   ·rename_i r hr;cases h;exact hO _ _ _ _ _ _ _ hr hbig hvs hM
   ·exact YC (Xl hO d) _ _ _ _ _ _ _ h hbig hvs hM
end
end Go.In
namespace Go.Sep
open Go.RowKit Go.Flow Go.Mem Go.In
theorem Sw{P:pG}{o:Oper}{ρ:Bj}{Γ:List Ad}{x:Operand}{t:tI}{s:List Nat}(ho:o.op= .call {callee:= .builtin .len,args:=#[x],argTypes:=#[t]})(ht:P.underlying t=some .string)(hx:ev ρ x=some (.string (fT s))):Rd P o ρ Γ (nv s.length):=fun a w ha _=>by
 unfold execOp;simp[ho,resolve,invoke,builtin,ha.eval hx,Builtin.len_,run_underlying ht,goInt,Am]
theorem xW{P:pG}{o:Oper}{ρ:Bj}{Γ:List Ad}{x y:Operand}{t:tI}{s:List Nat}{a:Nat}{k:IntKind}(ho:o.op= .slice t x (some y) none none)(ht:P.underlying t=some .string)(hx:ev ρ x=some (.string (fT s)))(hy:ev ρ y=some (.int k (a:Int)))(h:a≤s.length):Rd P o ρ Γ (.string (fT (s.drop a))):=by
 have:=In.Rd.strSl (P:=P) (Γ:=Γ) (a:=a) (b:=s.length) ho ht hx ⟨k,hy⟩ rfl h (aOd _);rwa[aOq (by rw[aPw];exact aOd _)]at this
theorem SH{P:pG}{o:Oper}{ρ:Bj}{Γ:List Ad}{x y z:Operand}{t:tI}{s:List Nat}{a b:Nat}{k k':IntKind}(ho:o.op= .slice t x (some y) (some z) none)(ht:P.underlying t=some .string)(hx:ev ρ x=some (.string (fT s)))(hy:ev ρ y=some (.int k (a:Int)))(hz:ev ρ z=some (.int k' ((a+b:Nat):Int)))(h:a+b≤s.length):Rd P o ρ Γ (.string (fT ((s.drop a).take b))):=by
 have:=In.Rd.strSl (P:=P) (Γ:=Γ) (a:=a) (b:=a+b) ho ht hx ⟨k,hy⟩ ⟨k',hz⟩ om h;rwa[show a+b-a=b by omega]at this
def aIx(D:Nat):Ad where
 owns:=[D]
 reads:=[]
 holds w:=D<w.heap.size
 loc w w' h hw:=by
  have:=h D (.inl sm);rw[Array.getElem?_eq_getElem hw]at this;exact(aQh.1 this).1
 lt w hw g hg:=by simp at hg;rw[hg];exact hw
theorem SK{P:pG}{C:Cx}{ρ:Bj}{Γ:List Ad}{R:vU→List Ad→Prop}{fn:Func}{ex:Exit}{t D:Nat}{v:vU}{n0:Nat}{Γ0:List Ad}{w0:wD}(hex:ex= .ret∨ex= .normal)(hres:fn.results=#[.tmp t])(hv:look ρ t=some v)
    (hds:C.ds=[mark D]) (h0:C=⟨n0,Γ0,w0,C.ds⟩) (h:R v Γ):To C ρ (dfr D::Γ) (bodyPostM Fence.wide 0 P fn (Fin ⟨n0,Γ0,w0,[]⟩ R) ex):=fun a w ha hp=>by
 have hD:w.heap[D]?=some (.deferred (some [])):=hp.sat.each _ (aNu ..);have key:LeavesInM Fence.wide 0 P fn a.tmps (Fin ⟨n0,Γ0,w0,[]⟩ R) a.defers .returning w:=by
  rw[ha.defers,hds];refine⟨by simp, .inl ⟨D,_,rfl,run_takeDeferred hD,?_⟩⟩;refine⟨v,?_,v,Γ,rfl,h,?_⟩
  ·rw[results_tmp hres,aOp,ha.sees t v hv];rfl
  · have e1:C.Γ0=Γ0∧C.w0=w0:=by rw[h0];exact⟨rfl,rfl⟩
    have q:=Qd (c':=aIx D) hp.sat rfl rfl rfl (by show D<_;rw[World.putObj_size];exact(aQh.1 hD).1) (o:= .deferred none);have q2:Db (dfr D::Γ) (Γ++[aIx D]) w (w.putObj D (.deferred none)):=q.perm (aPa (l₁:=[_]));have:=hp.trans q2.drop;rw[e1.1,e1.2]at this;exact this
 rcases hex with rfl|rfl
 ·exact key
 ·exact key
end Go.Sep
namespace Go.In
open Go.Sep
abbrev Tok:=Nat×List Nat×Nat
def DT(rdA:List Nat→oP (Nat×Nat))(skA:List Nat→oP Nat):Nat→List Nat→Nat→oP (List Tok)
 |0,_,_=>none
 | n + 1,s,off=>bif Nat.blt off s.length then(match rdA (s.drop off)with
   | some (k,m)=>bif Nat.ble (off+m) s.length then(match skA (s.drop (off+m))with
     | some q=>bif Nat.ble (off+m+q) s.length then(match DT rdA skA n s (off+m+q)with
       |some l=>some ((k,(s.drop off).take m,off)::l)
       |none=>none)else none
     |none=>none)else none
   |none=>none)else some []
theorem MP{rdA:List Nat→oP (Nat×Nat)}{skA:List Nat→oP Nat}{n:Nat}{s:List Nat}{off:Nat}{l:List Tok}(h:DT rdA skA n s off=some l)(hlt:off<s.length):∃n' k m q l',n=n'+1∧rdA (s.drop off)=some (k,m)∧off+m≤s.length∧skA (s.drop (off+m))=some q∧off+m+q≤s.length∧DT rdA skA n' s (off+m+q)=some l'∧l=(k,(s.drop off).take m,off)::l':=by
 cases n with
 |zero=>cases h
 | succ n=>
   unfold DT at h;rw[show Nat.blt off s.length=true from Nat.ble_eq_true_of_le hlt]at h;simp only[aPo]at h;split at h
   · rename_i k m h1
     cases h2:Nat.ble (off+m) s.length with
     |false=>rw[h2]at h;cases h
     | true=>
       rw[h2]at h;simp only[aPo]at h;split at h
       · rename_i q h3
         cases h4:Nat.ble (off+m+q) s.length with
         |false=>rw[h4]at h;cases h
         | true=>
           rw[h4]at h;simp only[aPo]at h;split at h
           · rename_i l' h5
             cases h;exact⟨n,k,m,q,l',rfl,h1,aNt h2,h3,aNt h4,h5,rfl⟩
           ·cases h
       ·cases h
   ·cases h
theorem SL{rdA:List Nat→oP (Nat×Nat)}{skA:List Nat→oP Nat}{n:Nat}{s:List Nat}{off:Nat}{l:List Tok}(h:DT rdA skA n s off=some l)(hge:¬off<s.length):l=[]:=by
 cases n with
 |zero=>cases h
 | succ n=>
   unfold DT at h;have:Nat.blt off s.length=false:=by
    cases hb:Nat.blt off s.length with
    |false=>rfl
    |true=>exact aOx (aNt hb) hge
   rw[this]at h;cases h;rfl
end Go.In
