/- Own text. -/
import Derived.Test.YtihgdnjkofpgiaaGreatDoorAb
set_option linter.unusedVariables false
set_option linter.unusedSimpArgs false
namespace Go.Sep
open Go.RowKit Go.Flow Go.Mem
def aS(o:Oper):Prop:=∀(ρ:Operand→Value) (P:Program) (w w':World),(∀f args,(execOp ρ o).run P w≠ .ok (.enter f args) w')∧(∀row args,(execOp ρ o).run P w≠ .ok (.row row args) w')
def aEj(o:Oper):Bool:=match o.op with
 | .call c=>match c.callee with
   | .builtin .len=>true
   | .builtin .append=>true
   |_=>false
 |_=>false
def Uq(o:Oper):Bool:=lL o||aEj o
theorem rM{o:Oper}(h:Uq o=true):aS o:=fun ρ P w w'=>by
 unfold Uq at h;rw[aRj]at h;rcases h with h|h
 ·exact uQ h ρ P w w'
 · have hv:∀s:Sem Value,(∀f args,(do pure (.value (←s)):Sem Next).run P w≠ .ok (.enter f args) w')∧(∀row args,(do pure (.value (←s)):Sem Next).run P w≠ .ok (.row row args) w'):=fun s=>by
     simp only[aQm];cases s.run P w<;>simp[Result.andThen]
   unfold aEj at h;split at h
   · rename_i c hc
     obtain⟨cl,as,ts⟩:=c;simp only at h;split at h
     · unfold execOp
       simp only[hc,resolve,invoke,builtin,aQm,aQv,aQf];have:=hv (Builtin.len_ ts o.type (as.map ρ));simpa only[aQm,aQv]using this
     · unfold execOp
       simp only[hc,resolve,invoke,builtin,aQm,aQv,aQf];have:=hv (Builtin.append_ ts o.type (as.map ρ));simpa only[aQm,aQv]using this
     ·cases h
   ·cases h
theorem rO{P:Program}{ops:Array Oper}{o:Oper}{a:Act}{w:World}{K K':Value→World→Prop}(hp:aS o)(h:Hr P ops o a w K)(h':Hr P ops o a w K'):Hr P ops o a w fun v w'=>K v w'∧K' v w':=by
 unfold Hr at*;split
 · rename_i hw
   rw[aPr hw]at h h';have hq:=hp a.eval P w;unfold wY at*;split
   ·rename_i he;rw[he]at h h';exact⟨h,h'⟩
   ·rename_i he;rw[he]at h h';exact⟨h,h'⟩
   ·rename_i w' he;exact aPu he ((hq w').1 _ _)
   ·rename_i w' he;exact aPu he ((hq w').2 _ _)
   · rename_i h1 h2 h3 h4
     generalize (execOp a.eval o).run P w=r at*;cases r with
     |ok n w'=>cases n<;>first|exact aPu rfl (h1 _ _)|exact aPu rfl (h2 _)|exact aPu rfl (h3 _ _ _)|exact aPu rfl (h4 _ _ _)|exact h
     |halt x w'=>exact h
 · rename_i hw
   rw[aPf hw]at h h';exact⟨h,h'⟩
def Ur(m p:Nat):Nat→List Oper→Bool
 |_,[]=>true
 |i,o::l=>(Uq o||Nat.beq i m||Nat.beq i p||aEg m p o)&&Ur m p (i+1) l
theorem iK{m p:Nat}:∀{l:List Oper} {k i:Nat} {o:Oper},Ur m p k l=true→l[i]?=some o→Uq o=true∨k+i=m∨k+i=p∨∃e∈o.after,Region.binds .any e=true∧(e.on=m∨e.on=p)
 |[],_,_,_,_,h=>by simp at h
 | o ::l,k,i,o',h,hi=>by
   rw[Ur,aPk]at h;cases i with
   | zero=>
     obtain rfl:o=o':=by simpa using hi
     have h1:=h.1;simp only[aRj]at h1;rcases h1 with((h1|h1)|h1)|h1
     ·exact .inl h1
     ·exact .inr (.inl (aPp h1))
     ·exact .inr (.inr (.inl (aPp h1)))
     · obtain⟨e,he,h2⟩:=List.any_eq_true.1 h1
       simp only[aPk,aRj]at h2;exact .inr (.inr (.inr ⟨e,Array.mem_toList_iff.1 he,h2.1,h2.2.imp aPp aPp⟩))
   | succ i=>
     have:=iK h.2 (i:=i) (o:=o') (by simpa using hi);rwa[show k+1+i=k+(i+1) by omega]at this
section
variable{P:Program}{l:List Oper}{Q:Act→World→Prop}
theorem mU{m p:Nat}(hne:m≠p)(hpl:∀i o,l[i]?=some o→aS o∨i=m∨i=p∨∃e∈o.after,Region.binds .any e=true∧(e.on=m∨e.on=p)):∀(fuel:Nat) (listed:Array Bool) (a:Act) (w:World),Ny P (tie l m p).toArray Q fuel listed a w→Ny P (tie l p m).toArray Q fuel listed a w→listed.getD p false=false→listed.getD m false=false→Ny P l.toArray Q fuel listed a w
 | 0,listed,a,w,h1,h2,hp,hm=>by
   refine⟨aQu.2 fun i hi=>?_,h1.2⟩;by_cases e:i=m
   · have:=Ga (m:=p) (p:=m).2 ⟨hi,fun e2=>aPu (e.symm.trans e2) hne⟩
     rw[h2.1]at this;cases this
   · have:=Ga (m:=m) (p:=p).2 ⟨hi,fun e2=>aPu e2 e⟩
     rw[h1.1]at this;cases this
 | fuel + 1,listed,a,w,h1,h2,hp,hm=>by
   refine⟨fun hr=>h1.1 (aQu.2 fun i hi=>?_),fun i hi=>?_⟩
   · have h1:=(Ga.1 hi).1
     rw[hr]at h1;cases h1
   · have hl:=(Ht.1 hi).1
     by_cases em:i=m
     · obtain⟨o,h3,h4⟩:=bU (h2.2 i (Ga.2 ⟨hi,fun e2=>aPu (em.symm.trans e2) hne⟩))
       exact⟨o,by simpa using h3,h4.mono fun v w' hv=>lD fuel _ _ _ (by rw[em]at hl⊢;exact Vj hl) hv⟩
     · by_cases ep:i=p
       · obtain⟨o,h3,h4⟩:=bU (h1.2 i (Ga.2 ⟨hi,fun e2=>aPu e2 em⟩))
         exact⟨o,by simpa using h3,h4.mono fun v w' hv=>lD fuel _ _ _ (by rw[ep]at hl⊢;exact Vj hl) hv⟩
       · obtain⟨o,h3,h4⟩:=bU (h1.2 i (Ga.2 ⟨hi,fun e2=>aPu e2 em⟩))
         obtain⟨o',h3',h4'⟩:=bU (h2.2 i (Ga.2 ⟨hi,fun e2=>aPu e2 ep⟩));rw[h3]at h3';obtain rfl:=aPq h3';have hun:∀k,i≠k→listed.getD k false=false→(listed.setIfInBounds i true).getD k false=false:=fun k hk hf=>by
          rw[aPz]at*;rw[Array.getElem?_setIfInBounds,aPf hk];exact hf
         have hpo:aS o:=by
          rcases hpl i o h3 with hq|hq|hq|⟨e,he,hb,hq⟩
          ·exact hq
          ·exact aPu hq em
          ·exact aPu hq ep
          · obtain⟨_,o2,h5,h6⟩:=Ht.1 hi
            rw[h3]at h5;obtain rfl:=aPq h5;have h7:=h6 e he hb;rcases hq with hq|hq<;>rw[hq]at h7
            ·rw[hm]at h7;cases h7
            ·rw[hp]at h7;cases h7
         exact⟨o,by simpa using h3,(rO hpo h4 h4').mono fun v w' ⟨hv,hv'⟩=>mU hne hpl fuel _ _ _ hv hv' (hun p ep hp) (hun m em hm)⟩
def vJ(n:Nat)(e:Edge):Edge:=⟨e.on-n,e.ground⟩
def Vt(n:Nat)(o:Oper):Oper:={o with after:=((o.after.toList.filter fun e=>Nat.ble n e.on).map (vJ n)).toArray}
def Rb(n:Nat)(l:List Oper):List Oper:=(l.drop n).map (Vt n)
def JL(n:Nat):Nat→List Oper→Bool
 |_,[]=>true
 |i,o::r=>(o.after.toList.all fun e=> !Region.binds .any e||Nat.blt e.on i)&&(match o.guard with|none=>true|some (j,_)=>Nat.blt j n)&&JL n (i+1) r
def JM(n:Nat)(A:List Nat):Nat→List Oper→Bool
 |_,[]=>true
 |i,o::r=>o.guard.isNone&&((List.range n).all fun j=>(A.getD i 0).testBit j)&&JM n A (i+1) r
def TL(n:Nat)(l:List Oper):Bool:=JL n 0 (l.take n)&&JM n (Oz l []) n (l.drop n)&&Nat.ble n l.length
theorem yL{n:Nat}:∀{l:List Oper} {k i:Nat} {o:Oper},JL n k l=true→l[i]?=some o→(∀e∈o.after,Region.binds .any e=true→e.on<k+i)∧∀j s,o.guard=some (j,s)→j<n
 |[],_,_,_,_,h=>by simp at h
 | o ::l,k,i,o',h,hi=>by
   simp only[JL,aPk]at h;cases i with
   | zero=>
     obtain rfl:o=o':=by simpa using hi
     refine⟨fun e he hb=>?_,fun j s hg=>?_⟩
     · have:=aRd.1 h.1.1 e (Array.mem_toList_iff.2 he)
       rw[hb]at this;exact aPd this
     · have:=h.1.2
       rw[hg]at this;exact aPd this
   | succ i=>
     have:=yL h.2 (i:=i) (o:=o') (by simpa using hi);rwa[show k+1+i=k+(i+1) by omega]at this
theorem yM{n:Nat}{A:List Nat}:∀{l:List Oper} {k i:Nat} {o:Oper},JM n A k l=true→l[i]?=some o→o.guard=none∧∀j,j<n→(A.getD (k+i) 0).testBit j=true
 |[],_,_,_,_,h=>by simp at h
 | o ::l,k,i,o',h,hi=>by
   simp only[JM,aPk,Option.isNone_iff_eq_none]at h;cases i with
   | zero=>
     obtain rfl:o=o':=by simpa using hi
     exact⟨h.1.1,fun j hj=>aRd.1 h.1.2 j (List.mem_range.2 hj)⟩
   | succ i=>
     have:=yM h.2 (i:=i) (o:=o') (by simpa using hi);rwa[show k+1+i=k+(i+1) by omega]at this
structure yN(n:Nat)(l:List Oper):Prop where
 le:n≤l.length
 hd:∀i o,l[i]?=some o→i<n→(∀e∈o.after,Region.binds .any e=true→e.on<i)∧∀j s,o.guard=some (j,s)→j<n
 tl:∀i o,l[i]?=some o→n≤i→o.guard=none∧∀j,j<n→anc l i j=true
theorem YY{n:Nat}{l:List Oper}(h:TL n l=true):yN n l:=by
 simp only[TL,aPk]at h;obtain⟨⟨h1,h2⟩,h3⟩:=h;refine⟨aPd h3,fun i o ho hi=>?_,fun i o ho hi=>?_⟩
 · have:=yL h1 (i:=i) (o:=o) (by rw[aRl,aPr hi];exact ho)
   rwa[aQl]at this
 · have:=yM h2 (i:=i-n) (o:=o) (by rw[aRw,show n+(i-n)=i by omega];exact ho)
   rw[show n+(i-n)=i by omega]at this;exact this
theorem mV{o:Oper}{d:Nat}:d∈direct o↔ ∃e∈o.after,Region.binds .any e=true∧e.on=d:=by
 unfold direct;rw[aPx];constructor
 · rintro⟨e,he,rfl⟩
   obtain⟨h1,h2⟩:=aSd.1 he;exact⟨e,Array.mem_toList_iff.1 h1,h2,rfl⟩
 · rintro⟨e,he,hb,rfl⟩
   exact⟨e,aSd.2 ⟨Array.mem_toList_iff.2 he,hb⟩,rfl⟩
def JN(l:List Oper)(A:Array Bool):Prop:=∀i o,l[i]?=some o→A.getD i false=true→∀d∈direct o,A.getD d false=true
def AnyQ(P:Program)(l:List Oper)(Q:Act→World→Prop)(a:Act)(w:World):Prop:=Ny P l.toArray Q l.length (Array.replicate l.length false) a w
theorem rP:∀{fuel:Nat} (k:Nat) {listed:Array Bool} {a:Act} {w:World},Ny P l.toArray Q fuel listed a w→Ny P l.toArray Q (fuel+k) listed a w
 |0,0,_,_,_,h=>h
 | 0,k+1,listed,a,w,h=>by
   show Ny P l.toArray Q (0+k+1) listed a w;exact⟨fun _=>h.2,fun i hi=>by rw[h.1]at hi;cases hi⟩
 | fuel+1,k,listed,a,w,h=>by
   rw[show fuel+1+k=(fuel+k)+1 by omega];exact⟨h.1,fun i hi=>(h.2 i hi).mono fun a w hh=>rP k hh⟩
theorem Sj{A B:Array Bool}{i:Nat}{d:Bool}(h:i<A.size):(A++B).getD i d=A.getD i d:=by
 rw[aPz,aPz,Array.getElem?_append_left h]
theorem Us{A B:Array Bool}{i:Nat}{d:Bool}(h:A.size≤i):(A++B).getD i d=B.getD (i-A.size) d:=by
 rw[aPz,aPz,Array.getElem?_append_right h]
theorem yO{n i:Nat}{b d:Bool}(h:i<n):(Array.replicate n b).getD i d=b:=by
 rw[aPz,Array.getElem?_replicate,aPr h];rfl
theorem JO{A:Array Bool}{i:Nat}{d e:Bool}(h:i<A.size):A.getD i d=A.getD i e:=by
 rw[aPz,aPz,Array.getElem?_eq_getElem h];rfl
theorem ND{n:Nat}(c:yN n l){i:Nat}{o:Oper}(ho:l[i]?=some o)(hi:i<n){a:Act}{w:World}{K:Value→World→Prop}(h:Hr P (l.take n).toArray o a w K):Hr P l.toArray o a w K:=by
 have hg:=(c.hd i o ho hi).2;have e:Region.wanted o (yielded l.toArray a.tmps)=Region.wanted o (yielded (l.take n).toArray a.tmps):=by
  unfold Region.wanted;cases hgu:o.guard with
  |none=>rfl
  | some p=>
    obtain⟨j,s⟩:=p;have hj:=hg j s hgu;simp only[yielded,List.getElem?_toArray,aRl,aPr hj]
 unfold Hr at*;rw[e];exact h
theorem yP{n:Nat}(c:yN n l){A:Array Bool}(hA:A.size=n)(hr:Region.ready .any (l.take n).toArray A=[]):A=Array.replicate n true:=by
 have key:∀i,i<n→A.getD i true=true:=by
  intro i
  induction i using Nat.strongRecOn with
  | _ i ih=>
    intro hi;cases hb:A.getD i true with
    |true=>rfl
    | false=>
      have hlt:i<l.length:=aRz hi c.le;have ho:l[i]?=some l[i]:=gge hlt;have:i∈Region.ready .any (l.take n).toArray A:=Ht.2 ⟨hb,l[i],by rw[aRl,aPr hi];exact ho,fun e he hb9=>by
       have h1:=(c.hd i _ ho hi).1 e he hb9;have:=ih e.on h1 om;rw[JO (by rw[hA];omega)];exact this⟩
      rw[hr]at this;cases this
 apply Array.ext
 ·simp[hA]
 · intro i h1 h2
   have:=key i om;rw[aPz,Array.getElem?_eq_getElem h1]at this;simpa using this
theorem aKd{n f2:Nat}(c:yN n l){Q':Act→World→Prop}{B:Array Bool}(hB:B=Array.replicate (l.length-n) false)(hQ:∀a w,Q' a w→Ny P l.toArray Q f2 (Array.replicate n true++B) a w):
    ∀(fuel:Nat) (A:Array Bool) (a:Act) (w:World),A.size=n→JN l A→Ny P (l.take n).toArray Q' fuel A a w→Ny P l.toArray Q (fuel+f2) (A++B) a w
 | 0,A,a,w,hA,hcl,h=>by
   rw[aQl,yP c hA h.1];exact hQ a w h.2
 | fuel + 1,A,a,w,hA,hcl,h=>by
   by_cases hr:Region.ready .any (l.take n).toArray A=[]
   · rw[yP c hA hr,Nat.add_comm]
     exact rP (fuel+1) (hQ a w (h.1 hr))
   · have hin:∀i,i∈Region.ready .any (l.take n).toArray A→i∈Region.ready .any l.toArray (A++B):=fun i hi=>by
       obtain⟨h1,o,h2,h3⟩:=Ht.1 hi;rw[aRl]at h2;have hin:i<n:=by
        rcases Nat.lt_or_ge i n with h|h
        ·exact h
        ·rw[aPf om]at h2;cases h2
       rw[aPr hin]at h2;refine Ht.2 ⟨by rw[Sj om];exact h1,o,h2,fun e he hb=>?_⟩;have h4:=(c.hd i o h2 hin).1 e he hb;rw[Sj om];exact h3 e he hb
     have hout:∀i,i∈Region.ready .any l.toArray (A++B)→i<n∧i∈Region.ready .any (l.take n).toArray A:=fun i hi=>by
      obtain⟨h1,o,h2,h3⟩:=Ht.1 hi;rcases Nat.lt_or_ge i n with hlt|hge
      · refine⟨hlt,Ht.2 ⟨by rw[Sj om]at h1;exact h1,o,by rw[aRl,aPr hlt];exact h2,fun e he hb=>?_⟩⟩
        have h4:=(c.hd i o h2 hlt).1 e he hb;have:=h3 e he hb;rw[Sj om]at this;exact this
      · refine aPu ?_ hr
        refine aQu.2 fun j hj=>?_;obtain⟨j1,_,j2,_⟩:=Ht.1 hj;have hjn:j<n:=by
         rcases Nat.lt_or_ge j n with h|h
         ·exact h
         ·rw[aRl,aPf om]at j2;cases j2
        have hX:∀d,d∈direct o→(A++B).getD d false=true:=fun d hd=>by
         obtain⟨e,he,hb,rfl⟩:=mV.1 hd;exact h3 e he hb
        have hAB:∀k,(A++B).getD k false=true→A.getD k false=true:=fun k hk=>by
         rcases Nat.lt_or_ge k n with hkn|hkn
         ·rwa[Sj om]at hk
         · rw[Us om,hB,aPz,Array.getElem?_replicate]at hk
           split at hk<;>cases hk
        have hj:A.getD j false=true:=by
         obtain⟨d,hd,hdj⟩:=bL h2 ((c.tl i o h2 hge).2 j hjn);have h5:=hAB d (hX d hd);rcases hdj with rfl|⟨_,hdj⟩
         ·exact h5
         ·exact Gg (X:=fun k=>A.getD k false=true) hcl d j h5 hdj
        rw[JO (e:=true) om,j1]at hj;cases hj
     rw[show fuel+1+f2=(fuel+f2)+1 by omega];refine⟨fun hr2=>?_,fun i hi=>?_⟩
     · refine aPu ?_ hr
       exact aQu.2 fun j hj=>by
        have:=hin j hj;rw[hr2]at this;cases this
     · obtain⟨hlt,hi'⟩:=hout i hi
       obtain⟨o,h1,h2⟩:=h.2 i hi';have ho:l[i]?=some o:=by
        simp only[List.getElem?_toArray,aRl,aPr hlt]at h1;exact h1
       refine⟨o,by simpa using ho,(ND c ho hlt h2).mono fun v w' hv=>?_⟩;have hcl2:JN l (A.setIfInBounds i true):=fun k ok hk hkt d hd=>by
        have hset:∀x,A.getD x false=true→(A.setIfInBounds i true).getD x false=true:=fun x hx=>aM hx;by_cases e:k=i
        · subst e
          obtain⟨_,o2,h5,h6⟩:=Ht.1 hi';rw[aRl,aPr hlt,hk]at h5;cases h5;obtain⟨e,he,hb,rfl⟩:=mV.1 hd;exact hset _ (h6 e he hb)
        · refine hset _ (hcl k ok hk ?_ d hd)
          rw[aPz]at hkt⊢;rwa[Array.getElem?_setIfInBounds,aPf (Ne.symm e)]at hkt
       have:=aKd c hB hQ fuel (A.setIfInBounds i true) _ _ (by simp[hA]) hcl2 hv;rw [show(A++B).setIfInBounds i true=A.setIfInBounds i true++B by
        apply Array.ext_getElem?;intro j;rw[Array.getElem?_setIfInBounds];by_cases hj:j<A.size
        · rw[Array.getElem?_append_left hj,Array.getElem?_append_left (by simpa using hj),Array.getElem?_setIfInBounds]
          by_cases e:i=j
          ·simp[e,hj];omega
          ·simp[e]
        · rw[Array.getElem?_append_right om,Array.getElem?_append_right (by simp;omega)]
          have:i≠j:=om;simp[this]]
       exact this
theorem gH{n i:Nat}:(Rb n l)[i]?=(l[n+i]?).map (Vt n):=by unfold Rb;rw[aPs,aRw]
theorem aNn{n:Nat}(c:yN n l):∀(fuel:Nat) (B:Array Bool) (a:Act) (w:World),B.size=l.length-n→Ny P (Rb n l).toArray Q fuel B a w→Ny P l.toArray Q fuel (Array.replicate n true++B) a w:=by
 have hready:∀(B:Array Bool),B.size=l.length-n→∀i,i∈Region.ready .any l.toArray (Array.replicate n true++B)↔n≤i∧(i-n)∈Region.ready .any (Rb n l).toArray B:=by
  intro B hB i;rw[Ht,Ht];constructor
  · rintro⟨h1,o,h2,h3⟩
    have hge:n≤i:=by
     rcases Nat.lt_or_ge i n with h|h
     ·rw[Sj (by simpa using h),yO h]at h1;cases h1
     ·exact h
    refine⟨hge,by rw[Us (by simpa using hge)]at h1;simpa using h1,Vt n o,by rw[gH,show n+(i-n)=i by omega,h2];rfl,fun e he hb=>?_⟩;simp only[Vt,List.mem_toArray,aPx,aSd]at he;obtain⟨e',⟨he',hle⟩,rfl⟩:=he;have hle:=aPd hle;have:=h3 e' (Array.mem_toList_iff.1 he') hb;rw[Us (by simpa using hle)]at this;simpa[vJ]using this
  · rintro⟨hge,h1,o,h2,h3⟩
    rw[gH,show n+(i-n)=i by omega]at h2;obtain⟨o',h4,rfl⟩:=aPy.1 h2;refine⟨by rw[Us (by simpa using hge)];simpa using h1,o',h4,fun e he hb=>?_⟩;rcases Nat.lt_or_ge e.on n with h|h
    ·rw[Sj (by simpa using h),yO h]
    · rw[Us (by simpa using h)]
      have:=h3 (vJ n e) (by
       simp only[Vt,List.mem_toArray,aPx,aSd];exact⟨e,⟨Array.mem_toList_iff.2 he,Nat.ble_eq_true_of_le h⟩,rfl⟩) hb
      simpa[vJ]using this
 have hnil:∀(B:Array Bool),B.size=l.length-n→(Region.ready .any l.toArray (Array.replicate n true++B)=[]↔Region.ready .any (Rb n l).toArray B=[]):=by
  intro B hB;constructor
  · intro h
    refine aQu.2 fun i hi=>?_;have:=(hready B hB (n+i)).2 ⟨by omega,by rwa[show n+i-n=i by omega]⟩;rw[h]at this;cases this
  · intro h
    refine aQu.2 fun i hi=>?_;have:=((hready B hB i).1 hi).2;rw[h]at this;cases this
 intro fuel
 induction fuel with
 |zero=>intro B a w hB h;exact⟨(hnil B hB).2 h.1,h.2⟩
 | succ fuel ih=>
   intro B a w hB h;refine⟨fun hr=>h.1 ((hnil B hB).1 hr),fun i hi=>?_⟩;obtain⟨hge,hi'⟩:=(hready B hB i).1 hi;obtain⟨o,h1,h2⟩:=h.2 _ hi';simp only[List.getElem?_toArray,gH,show n+(i-n)=i by omega]at h1;obtain⟨o',h3,rfl⟩:=aPy.1 h1;have hg:=(c.tl i o' h3 hge).1;refine⟨o',by simpa using h3,?_⟩;have h4:Hr P l.toArray o' a w fun v w'=>Ny P (Rb n l).toArray Q fuel (B.setIfInBounds (i-n) true) (a.put o'.dst v) w':=by
    unfold Hr at*;have e1:Region.wanted o' (yielded l.toArray a.tmps)=true:=by unfold Region.wanted;rw[hg]
    have e2:Region.wanted (Vt n o') (yielded (Rb n l).toArray a.tmps)=true:=by unfold Region.wanted;rw[show(Vt n o').guard=o'.guard from rfl,hg]
    rw[aPr e1];rw[aPr e2]at h2;exact h2
   refine h4.mono fun v w' hv=>?_;have:=ih (B.setIfInBounds (i-n) true) _ _ (by simpa using hB) hv;rw [show(Array.replicate n true++B).setIfInBounds i true=Array.replicate n true++B.setIfInBounds (i-n) true by
    apply Array.ext_getElem?;intro j;rw[Array.getElem?_setIfInBounds];by_cases hj:j<n
    · have:i≠j:=om
      rw[aPf this,Array.getElem?_append_left (by simpa using hj),Array.getElem?_append_left (by simpa using hj)]
    · have hjn:n≤j:=om
      rw[Array.getElem?_append_right (by simpa using hjn),Array.getElem?_append_right (by simpa using hjn),Array.getElem?_setIfInBounds];by_cases e:i=j
      · subst e
        have h9:(i<n+B.size)=(i-n<B.size):=propext om;simp[h9]
      · have:¬(i-n=j-n):=om
        simp[e,this]]
   exact this
variable{C:Cx}{ρ:Bo}{Γ:List Ad}
theorem vK{id:Nat}{R:Exit→Act→World→Prop}(hm:P.follows .mixedOrders=true)(h:To C ρ Γ (AnyQ P l (R .normal))):To C ρ Γ ((Code.region id l.toArray true).wp P R):=fun a w ha hp=>by
 refine wp_region_any hm (Ny.any (fun _ _ h=>h) _ _ _ _ ?_);have:=h a w.drew ha (hp.ext (qJ w));simpa[AnyQ]using this
theorem EO(Θ:List Ad)(ms:List Ez)(hB:Lj l ms=true)(hΘ:∀w,oks Γ w→oks Θ w)(h:Ea P noT l Θ Q ms C ρ Γ []):To C ρ Γ (AnyQ P l Q):=fun a w ha hp=>by
 have hS:=hΘ w hp.sat.each;have hfl:=h a w [] ha hp trivial;have hx:Ext w w:=Ie w;show Ny P l.toArray Q l.length (Array.replicate l.length false) a w;refine(aL (S:=oks Θ) (ms:=ms) (a0:=a) hB (fun _ _=>jI) (xA ms) _ _ _ _ ?_ ?_).anyI
 · have hno:∀j,¬exd (Array.replicate l.length false) j:=fun j=>by
     unfold exd;simp only[aPz,Array.getElem?_replicate];split<;>simp
   exact⟨[],ms,a,w,[],fun _=>undef,fun _=>w,fun _=>w,rfl,by simp,fun i o _ hx=>(hno i hx).elim,⟨rfl,rfl,fun _ _=>rfl,fun j _ _ _ _ hx=>(hno j hx).elim⟩,
    ⟨rfl,rfl,fun _ _=>rfl,fun j _ _ _ _ hx=>by obtain⟨m,hm,_⟩:=hx;simp at hm⟩,hfl,hx,hS,fun p hp=>by simp at hp,fun j hx=>(hno j hx).elim,fun i _ hx=>(hno i hx).elim,fun p hp=>by simp at hp,fun p _ hx=>(hno _ hx).elim⟩
 ·simp[List.countP_replicate]
theorem yQ(m p:Nat)(hne:Nat.beq m p=false)(hpl:Ur m p 0 l=true)(h1:To C ρ Γ (AnyQ P (tie l m p) Q))(h2:To C ρ Γ (AnyQ P (tie l p m) Q)):To C ρ Γ (AnyQ P l Q):=fun a w ha hp=>by
 have g1:=h1 a w ha hp;have g2:=h2 a w ha hp;unfold AnyQ at*;rw[uM]at g1 g2;have hno:∀j,(Array.replicate l.length false).getD j false=false:=fun j=>by
  simp only[aPz,Array.getElem?_replicate];split<;>rfl
 refine mU (fun e=>by rw[e,Nat.beq_refl]at hne;cases hne) (fun i o ho=>?_) _ _ _ _ g1 g2 (hno p) (hno m);have:=iK hpl ho;rw[aQl]at this;exact this.imp rM id
theorem NE(n:Nat)(hc:TL n l=true)(h:To C ρ Γ (AnyQ P (l.take n) (AnyQ P (Rb n l) Q))):To C ρ Γ (AnyQ P l Q):=fun a w ha hp=>by
 have c:=YY hc;have g:=h a w ha hp;have hl:(l.take n).length=n:=by rw[aPo];exact Nat.min_eq_left c.le
 unfold AnyQ at g⊢;rw[hl]at g;have hs:(Rb n l).length=l.length-n:=by unfold Rb;simp
 have:=aKd (f2:=l.length-n) c (B:=Array.replicate (l.length-n) false) rfl (fun a w hq=>aNn c _ _ _ _ (by simp) (by rw[hs]at hq;exact hq)) n (Array.replicate n false) a w (by simp) (fun k ok _ hk=>by rw[aPz,Array.getElem?_replicate]at hk;split at hk<;>cases hk) g;rw[show n+(l.length-n)=l.length by have:=c.le;omega]at this;rw[show Array.replicate l.length false=Array.replicate n false++Array.replicate (l.length-n) false by
  rw[Array.replicate_append_replicate];congr 1;have:=c.le;omega]
 exact this
end
end Go.Sep
namespace Go.In
open Go.RowKit Go.Flow Go.Mem Go.Sep
mutual
def ren(π:Nat→Nat):AV→AV
 | .ptr i o=> .ptr (π i) o
 | .sl i o l c=> .sl (π i) o l c
 | .slu i o l c d=> .slu (π i) o l (π c) d
 | .mp i=> .mp (π i)
 | .fn f a b=> .fn f (vL π a) (vL π b)
 | .ifc t v=> .ifc t (ren π v)
 | .agg l=> .agg (vL π l)
 | .tup l=> .tup (vL π l)
 | .bool b=> .bool b
 | .int k n=> .int k n
 | .str s=> .str s
 | .nilp=> .nilp
 | .nils=> .nils
 | .nilm=> .nilm
 | .nilf=> .nilf
 | .nili=> .nili
 | .und=> .und
def vL(π:Nat→Nat):List AV→List AV
 |[]=>[]
 |v::l=>ren π v::vL π l
end
structure Ren(π:Nat→Nat)(k:Nat):Prop where
 fix:∀i,i<k→π i=i
 big:∀i,k≤i→k≤π i
def after(σ π:Nat→Nat):Nat→Nat:=fun i=>σ (π i)
theorem Yg{σ π:Nat→Nat}{k:Nat}(hk:4096≤k)(h:Ren π k)(i:Nat):bl σ (π i)=bl (after σ π) i:=by
 unfold bl after;rcases Nat.lt_or_ge i k with hi|hi
 ·rw[h.fix i hi]
 · have h1:Nat.blt i 4096=false:=by
     cases hb:Nat.blt i 4096 with
     |false=>rfl
     |true=>have:=aPd hb;omega
   have h2:Nat.blt (π i) 4096=false:=by
    have:=h.big i hi;cases hb:Nat.blt (π i) 4096 with
    |false=>rfl
    |true=>have:=aPd hb;omega
   rw[h1,h2];rfl
mutual
theorem jT{σ π:Nat→Nat}{k:Nat}(hk:4096≤k)(h:Ren π k):∀v:AV,val σ (ren π v)=val (after σ π) v
 | .ptr i o=>by simp only[ren,val,Yg hk h]
 | .sl i o l c=>by simp only[ren,val,Yg hk h]
 | .slu i o l c d=>by simp only[ren,val,Yg hk h];rfl
 | .mp i=>by simp only[ren,val,Yg hk h]
 | .fn f a b=>by simp only[ren,val,Qt hk h a,Qt hk h b]
 | .ifc t v=>by simp only[ren,val,jT hk h v]
 | .agg l=>by simp only[ren,val,Qt hk h l]
 | .tup l=>by simp only[ren,val,Qt hk h l]
 | .bool _=>by simp only[ren,val]
 | .int _ _=>by simp only[ren,val]
 | .str _=>by simp only[ren,val]
 | .nilp=>by simp only[ren,val]
 | .nils=>by simp only[ren,val]
 | .nilm=>by simp only[ren,val]
 | .nilf=>by simp only[ren,val]
 | .nili=>by simp only[ren,val]
 | .und=>by simp only[ren,val]
theorem Qt{σ π:Nat→Nat}{k:Nat}(hk:4096≤k)(h:Ren π k):∀l:List AV,Dp σ (vL π l)=Dp (after σ π) l
 |[]=>by simp only[vL,Dp]
 |v::l=>by simp only[vL,Dp,jT hk h v,Qt hk h l]
end
def aKe(π:Nat→Nat):AC→AC
 | .kn c=> .kn c
 | .un c d=> .un (π c) d
def TM(π:Nat→Nat):MK→MK
 | .box t=> .box t
 | .row e s n c=> .row e s n (aKe π c)
 | .ro=> .ro
 | .maps m=> .maps (m.map fun p=>(p.1,ren π p.2))
def TN(π:Nat→Nat)(c:MC):MC:=⟨π c.i,TM π c.kd,vL π c.cs⟩
theorem aFz{σ π:Nat→Nat}{k:Nat}(hk:4096≤k)(h:Ren π k)(c:MC):ck σ (TN π c)=ck (after σ π) c:=by
 obtain⟨i,kd,cs⟩:=c;unfold TN ck;cases kd with
 |box t=>simp only[TM,Yg hk h,Qt hk h]
 | row e s n c=>
   have:cp σ (aKe π c)=cp (after σ π) c:=by cases c<;>rfl
   simp only[TM,Yg hk h,Qt hk h,this]
 |ro=>simp only[TM,Yg hk h,Qt hk h]
 | maps m=>
   have:prs σ (m.map fun p=>(p.1,ren π p.2))=prs (after σ π) m:=by
    unfold prs;rw[aRt];exact List.map_congr_left fun p _=>by simp only[Function.comp_def,jT hk h]
   simp only[TM,Yg hk h,this]
theorem YZ{σ π:Nat→Nat}{k:Nat}(hk:4096≤k)(h:Ren π k)(M:List MC):mem σ (M.map (TN π))=mem (after σ π) M:=by
 unfold mem;rw[aRt];exact List.map_congr_left fun c _=>aFz hk h c
def rot(k a i:Nat):Nat:=bif Nat.blt i k then i else bif Nat.blt i (k+a)then i+1 else bif Nat.beq i (k+a)then k else i
theorem ZA(k a:Nat):Ren (rot k a) k:=by
 refine⟨fun i hi=>?_,fun i hi=>?_⟩
 · unfold rot
   rw[show Nat.blt i k=true from Nat.ble_eq_true_of_le hi];rfl
 · unfold rot
   cases h1:Nat.blt i k with
   |true=>have:=aPd h1;omega
   | false=>
     cases h2:Nat.blt i (k+a)with
     |true=>show k≤i+1;omega
     | false=>
       cases h3:Nat.beq i (k+a)with
       |true=>exact aPl _
       |false=>exact hi
theorem aGa(k:Nat):Ren (fun i=>i) k:=⟨fun _ _=>rfl,fun _ h=>h⟩
def Ww(ρ:Dq):List Nat→Dq
 |[]=>[]
 | t::r=>match Tg ρ t with
   |some v=>(t,v)::Ww ρ r
   |none=>Ww ρ r
def dJ(π:Nat→Nat)(ρ ρ':Dq):List Nat→Bool
 |[]=>true
 | t ::r=>(match Tg ρ t with
   |none=>true
   | some u=>match Tg ρ' t with
     |some v=>eqV (ren π u) v
     |none=>false)&&dJ π ρ ρ' r
def JP:List MC→MC→oP (List MC)
 |[],_=>none
 | d::r,c=>bif Nat.beq d.i c.i then(bif eqK d.kd c.kd&&jD d.cs c.cs then some r else none)else match JP r c with
   |some r'=>some (d::r')
   |none=>none
def yR:List MC→List MC→oP (List MC)
 |M,[]=>some M
 | M,c::r=>match JP M c with
   |some M'=>yR M' r
   |none=>none
def aGb:AV→oP Nat
 | .ptr i _=>some i
 | .sl i _ _ _=>some i
 | .slu i _ _ _ _=>some i
 |_=>none
def mW(ρ:Dq)(M:List MC):List Nat→oP (List MC)
 |[]=>some []
 | t ::r=>match Tg ρ t,mW ρ M r with
   | some v,some l=>match aGb v with
     | some i=>match find M i with
       |some (_,c)=>some (c::l)
       |none=>none
     |none=>some l
   |_,_=>none
inductive Hu where
 |flow (ms:List Ez) (ts:List Nat)
 |split (m p:Nat) (rest:oP Nat) (a b:Hu) (keep:List Nat)
 |cut (n:Nat) (a b:Hu)
def iL(k k':Nat):oP Nat→Nat→Nat
 |some r=>rot k (k'-k-1-r)
 |none=>fun i=>i
def dK{P:pG}(S:Same P)(F:Ps)(n:Nat):Hu→List Oper→St→oP St
 | .flow ms ts,l,s=>bif Lj l ms then(match mW s.ρ s.M ts with
     | some Th=>match yH S F n l Th ms ⟨s.ρ,s.M,[],s.k⟩with
       |some s'=>some ⟨s'.ρ,Wv s'.N++s'.M,s'.k⟩
       |none=>none
     |none=>none)else none
 | .cut j a b,l,s=>bif TL j l then(match dK S F n a (l.take j) s with
     |some s1=>dK S F n b (Rb j l) s1
     |none=>none)else none
 | .split m p r a b keep,l,s=>bif !Nat.beq m p&&Ur m p 0 l then(match dK S F n a (tie l m p) s,dK S F n b (tie l p m) s with
     |some s1,some s2=>bif Nat.beq s1.k s2.k&&dJ (iL s.k s1.k r) s1.ρ s2.ρ keep then(match yR s2.M (s1.M.map (TN (iL s.k s1.k r)))with
         |some _=>some ⟨Ww s1.ρ keep,s1.M,s1.k⟩
         |none=>none)else none
     |_,_=>none)else none
section
variable{P:pG}{S:Same P}{F:Ps}{C:Cx}{σ:Nat→Nat}{s s':St}{k:Nat}
theorem Vu{ρ:Dq}{M:List MC}:∀{ts:List Nat} {Th:List MC},mW ρ M ts=some Th→∀c∈Th,c∈M
 |[],Th,h,c,hc=>by simp only[mW,aPt]at h;subst h;cases hc
 | t :: r,Th,h,c,hc=>by
   unfold mW at h;split at h
   · rename_i v l hv hl
     split at h
     · split at h
       · rename_i j b hf
         cases h;rcases aPi.1 hc with rfl|hc
         ·exact Qp hf
         ·exact Vu hl c hc
       ·cases h
     ·cases h;exact Vu hl c hc
   ·cases h
theorem Zh{ρ:Dq}(h:Rk k ρ):∀l,Rk k (Ww ρ l)
 |[]=>fun p hp=>by cases hp
 | t::r=>by
   unfold Ww;split
   ·rename_i v hv;exact Gc (bZ h hv) (Zh h r)
   ·exact Zh h r
theorem Vv{ρ:Dq}:∀l,Xa (Jp σ ρ) (Jp σ (Ww ρ l))
 |[]=>trivial
 | t::r=>by
   unfold Ww;split
   ·rename_i v hv;exact⟨Qa σ hv,Vv r⟩
   ·exact Vv r
theorem dL{π:Nat→Nat}(hk:4096≤k)(h:Ren π k){ρ ρ':Dq}:∀{l:List Nat},dJ π ρ ρ' l=true→Xa (Jp σ ρ') (Jp (after σ π) (Ww ρ l))
 |[],_=>trivial
 | t ::r,hq=>by
   simp only[dJ,aPk]at hq;have ih:=dL hk h hq.2;have h1:=hq.1;unfold Ww;split
   · rename_i u hu
     rw[hu]at h1;simp only at h1;split at h1
     · rename_i v hv
       have e:=gD _ _ h1;refine⟨?_,ih⟩;rw[Qa σ hv,←e,jT hk h]
     ·cases h1
   ·exact ih
theorem mX:∀{M:List MC} {c:MC} {R:List MC},JP M c=some R→M.Perm (c::R)
 |[],_,_,h=>by cases h
 | d ::r,c,R,h=>by
   unfold JP at h;cases hb:Nat.beq d.i c.i with
   | true=>
     rw[hb]at h;simp only[aQw]at h;cases hq:(eqK d.kd c.kd&&jD d.cs c.cs)with
     |false=>rw[hq]at h;cases h
     | true=>
       rw[hq]at h;cases h;rw[aPk]at hq;have e1:=aPp hb;have e2:=TF hq.1;have e3:=Vo _ _ hq.2;obtain⟨i,kd,cs⟩:=d;obtain⟨i',kd',cs'⟩:=c;simp only at e1 e2 e3;subst e1 e2 e3;exact List.Perm.refl _
   | false=>
     rw[hb]at h;simp only[cond_false]at h;split at h
     · rename_i r' hr
       cases h;exact((mX hr).cons d).trans (aQn _ _ _)
     ·cases h
theorem mY:∀{L M R:List MC},yR M L=some R→M.Perm (L++R)
 |[],M,R,h=>by simp only[yR,aPt]at h;subst h;exact List.Perm.refl _
 | c ::r,M,R,h=>by
   unfold yR at h;split at h
   · rename_i M' hm
     exact(mX hm).trans ((mY h).cons c)
   ·cases h
theorem NF{k':Nat}{r:oP Nat}:Ren (iL k k' r) k:=by
 cases r with
 |none=>exact aGa k
 |some r=>exact ZA k _
theorem Yh(hF:Nu P F):∀(pl:Hu) (l:List Oper) (s s':St),dK S F C.n pl l s=some s'→s.Good→s'.Good∧s.k≤s'.k∧∀Q,Goes C s s' Q (AnyQ P l Q)
 | .flow ms ts,l,s,s',h,hs=>by
   simp only[dK]at h;cases hB:Lj l ms with
   |false=>rw[hB]at h;cases h
   | true=>
     rw[hB]at h;simp only[aQw]at h;split at h
     · rename_i Th hTh
       split at h
       · rename_i s1 h1
         cases h;have hT:Lm s.k Th:=fun c hc=>hs.me c (Vu hTh c hc);have hfl:=fun Q=>yK (C:=C) (Q:=Q) hF ms _ _ ⟨hs.big,hs.sl,hs.me,fun c hc=>by cases hc⟩ hT h1;obtain⟨a,b,_⟩:=hfl fun _ _=>True;refine⟨⟨a.big,a.sl,Ho a.nw a.me⟩,b,fun Q σ k=>?_⟩;refine EO (mem σ Th) ms hB (fun w hw c hc=>?_) ((hfl Q).2.2 σ k);obtain⟨d,hd,rfl⟩:=aPx.1 hc;exact hw _ (List.mem_map_of_mem (Vu hTh d hd))
       ·cases h
     ·cases h
 | .cut j a b,l,s,s',h,hs=>by
   simp only[dK]at h;cases hB:TL j l with
   |false=>rw[hB]at h;cases h
   | true=>
     rw[hB]at h;simp only[aQw]at h;split at h
     · rename_i s1 h1
       obtain⟨g1,g2,g3⟩:=Yh hF a _ _ _ h1 hs;obtain⟨k1,k2,k3⟩:=Yh hF b _ _ _ h g1;exact⟨k1,aRk g2 k2,fun Q σ k=>NE j hB (Goes.trans g2 (g3 (AnyQ P (Rb j l) Q)) (k3 Q) σ k)⟩
     ·cases h
 | .split m p r a b keep,l,s,s',h,hs=>by
   simp only[dK]at h;cases hB:(!Nat.beq m p&&Ur m p 0 l)with
   |false=>rw[hB]at h;cases h
   | true=>
     rw[hB]at h;simp only[aQw]at h;rw[aPk,Bool.not_eq_true']at hB;split at h
     · rename_i s1 s2 h1 h2
       cases hq:(Nat.beq s1.k s2.k&&dJ (iL s.k s1.k r) s1.ρ s2.ρ keep)with
       |false=>rw[hq]at h;cases h
       | true =>
         rw[hq]at h;simp only[aQw]at h;rw[aPk]at hq;split at h
         · rename_i R hR
           cases h;obtain⟨a1,a2,a3⟩:=Yh hF a _ _ _ h1 hs;obtain⟨b1,b2,b3⟩:=Yh hF b _ _ _ h2 hs;have hren:Ren (iL s.k s1.k r) s.k:=NF;refine⟨⟨a1.big,Zh a1.sl _,a1.me⟩,a2,fun Q σ k=>yQ m p hB.1 hB.2 ?_ ?_⟩
           ·exact a3 Q σ fun σ' he=>Jo _ (Vv keep) (k σ' he)
           · refine b3 Q σ fun σ' he=>?_
             have hσ:Sup s.k σ (after σ' (iL s.k s1.k r)):=fun i hi=>by
              show σ i=σ' (iL s.k s1.k r i);rw[hren.fix i hi];exact he i hi
             have hk:=k _ hσ;refine Jo _ (dL hs.big hren hq.2) (cz (Γ':=mem σ' (s1.M.map (TN (iL s.k s1.k r)))++mem σ' R) (by rw[←mem_append];exact yJ (mY hR)) (To.drop ?_));rw[YZ hs.big hren];exact hk
         ·cases h
     ·cases h
end
structure Env(P:pG) where
 S:Same P
 flow:Nat→Nat→oP Hu
 live:Nat→List Nat
 drop:Nat→Nat
 fuel:Nat
 mixed:P.follows .mixedOrders=true
def vM{P:pG}(E:Env P)(F:Ps)(n f:Nat)(id:Nat)(ops:Array Oper)(draw:Bool)(s:St):oP St:=
 match draw with
 |false=>TD E.S F n ops ops.toList s
 | true=>match E.flow f id with
   |some pl=>dK E.S F n pl ops.toList s
   |none=>none
inductive Ex where
 |nor
 |exi (id:Nat)
 |ret
def Ex.to:Ex→Exit
 | .nor=> .normal
 | .exi id=> .exit id
 | .ret=> .ret
def JQ(g:St→oP (Ex×St))(live:List Nat):Nat→St→oP (Ex×St)
 |0,_=>none
 | m+1,s=>match g ⟨Ww s.ρ live,s.M,s.k⟩with
   |some (.nor,s1)=>JQ g live m s1
   |some (.exi id,s1)=>some (.exi id,s1)
   |some (.ret,s1)=>some (.ret,s1)
   |none=>none
def Ob{P:pG}(E:Env P)(F:Ps)(n f:Nat):Code→St→oP (Ex×St)
 | .skip,s=>some (.nor,s)
 | .region id ops draw,s=>match vM E F n f id ops draw s with
   |some s'=>some (.nor,s')
   |none=>none
 | .seq a b,s=>match Ob E F n f a s with
   |some (.nor,s1)=>Ob E F n f b s1
   |some (.exi id,s1)=>some (.exi id,s1)
   |some (.ret,s1)=>some (.ret,s1)
   |none=>none
 | .cond c x y,s=>match aev s.ρ c with
   |some (.bool true)=>Ob E F n f x s
   |some (.bool false)=>Ob E F n f y s
   |_=>none
 | .block id c,s=>match Ob E F n f c s with
   |some (.exi j,s1)=>bif Nat.beq j id then some (.nor,s1)else some (.exi j,s1)
   |some (.nor,s1)=>some (.nor,s1)
   |some (.ret,s1)=>some (.ret,s1)
   |none=>none
 | .loop c,s=>JQ (Ob E F n f c) (E.live f) E.fuel s
 | .exit id,s=>some (.exi id,s)
 | .ret,s=>some (.ret,s)
 |_,_=>none
def jE(P:pG)(s:St):List ResultVar→oP (List AV)
 |[]=>some []
 | .tmp t::r=>match Tg s.ρ t,jE P s r with
   |some v,some l=>some (v::l)
   |_,_=>none
 | .cell t ty::r=>match mG P s.ρ s.M (.load ty (.tmp t)),jE P s r with
   |some v,some l=>some (v::l)
   |_,_=>none
def aF:List AV→AV
 |[v]=>v
 |l=> .tup l
def aT:Nat→List AV→Dq
 |_,[]=>[]
 |k,v::r=>(k,v)::aT (k+1) r
def yS(mode k:Nat)(M:List MC):List MC:=
 match mode with
 |0=>M
 |1=>M.filter fun c=>Nat.blt c.i k||(match c.kd with| .box _=>false| .maps _=>false|_=>true)
 |_=>M.filter fun c=>Nat.blt c.i k
def aGc{P:pG}(E:Env P)(F:Ps)(f:Nat)(vs:List AV)(M:List MC)(k:Nat):oP (AV×List MC×Nat):=
 match P.funcs[f]? with
 | some fn=>match fn.body with
   | some c=>bif Nat.ble vs.length fn.ntmps then(match Ob E F fn.ntmps f c ⟨aT 0 vs,M,k⟩with
     |some (.exi _,_)=>none
     | some (_,s)=>match jE P s fn.results.toList with
       |some l=>some (aF l,yS (E.drop f) k s.M,s.k)
       |none=>none
     |none=>none)else none
   |none=>none
 |none=>none
def dM{P:pG}(E:Env P)(O:Ps):Nat→Ps
 |0,_,_,_,_=>none
 | d+1,f,vs,M,k=>match O f vs M k with
   |some r=>some r
   |none=>aGc E (dM E O d) f vs M k
section
variable{P:pG}{E:Env P}{F:Ps}{C:Cx}{σ:Nat→Nat}{s s':St}{Q:Exit→Act→wD→Prop}{f k:Nat}
theorem EP(hF:Nu P F){id:Nat}{ops:Array Oper}{draw:Bool}(hs:s.Good)(h:vM E F C.n f id ops draw s=some s'):s'.Good∧s.k≤s'.k∧Goes C s s' (Q .normal) ((Code.region id ops draw).wp P Q):=by
 unfold vM at h;split at h
 · obtain⟨a,b,c⟩:=JJ (Q:=Q) hF ops.toList s s' h hs
   exact⟨a,b,fun σ k=>dh (l:=ops.toList) (c σ k)⟩
 · split at h
   · rename_i pl _
     obtain⟨a,b,c⟩:=Yh hF pl ops.toList s s' h hs;exact⟨a,b,fun σ k=>vK (l:=ops.toList) E.mixed (c (Q .normal) σ k)⟩
   ·cases h
def mZ(C:Cx)(P:pG)(c:Code)(g:St→oP (Ex×St)):Prop:=
 ∀s e s',g s=some (e,s')→s.Good→s'.Good∧s.k≤s'.k∧∀Q,Goes C s s' (Q e.to) (c.wp P Q)
theorem yT{c:Code}{g:St→oP (Ex×St)}{live:List Nat}(hg:mZ C P c g):∀(m:Nat) (s:St) (e:Ex) (s':St),JQ g live m s=some (e,s')→s.Good→s'.Good∧s.k≤s'.k∧∀Q,Goes C s s' (Q e.to) (Code.rounds P c Q m)
 |0,s,e,s',h,_=>by cases h
 | m +1,s,e,s',h,hs=>by
   unfold JQ at h;have hs0:St.Good ⟨Ww s.ρ live,s.M,s.k⟩:=⟨hs.big,Zh hs.sl _,hs.me⟩
   have pre:∀{K' K:Act→wD→Prop} {s1:St},Goes C ⟨Ww s.ρ live,s.M,s.k⟩ s1 K' K→Goes C s s1 K' K:=fun hh σ k=>Jo _ (Vv live) (hh σ k);split at h
   · rename_i s1 h1
     obtain⟨a,b,c1⟩:=hg _ _ _ h1 hs0;obtain⟨a',b',c2⟩:=yT hg m s1 e s' h a;exact⟨a',aRk b b',fun Q=>pre (Goes.trans b (c1 (Exit.then (Code.rounds P c Q m) Q)) (c2 Q))⟩
   · rename_i id s1 h1
     cases h;obtain⟨a,b,c1⟩:=hg _ _ _ h1 hs0;exact⟨a,b,fun Q=>pre (c1 (Exit.then (Code.rounds P c Q m) Q))⟩
   · rename_i s1 h1
     cases h;obtain⟨a,b,c1⟩:=hg _ _ _ h1 hs0;exact⟨a,b,fun Q=>pre (c1 (Exit.then (Code.rounds P c Q m) Q))⟩
   ·cases h
theorem Nb(hF:Nu P F):∀(c:Code),mZ C P c (Ob E F C.n f c)
 | .skip=>fun s e s' h hs=>by simp only[Ob,aPt,Prod.mk.injEq]at h;obtain⟨rfl,rfl⟩:=h;exact⟨hs,aPl _,fun Q σ k=>Jsp (k σ fun _ _=>rfl)⟩
 | .region id ops draw=>fun s e s' h hs=>by
   simp only[Ob]at h;split at h
   · rename_i s1 h1
     cases h;have h0:=fun Q=>EP (C:=C) (Q:=Q) hF hs h1;exact⟨(h0 fun _ _ _=>True).1,(h0 fun _ _ _=>True).2.1,fun Q=>(h0 Q).2.2⟩
   ·cases h
 | .seq a b=>fun s e s' h hs=>by
   simp only[Ob]at h;split at h
   · rename_i s1 h1
     obtain⟨g1,g2,g3⟩:=Nb hF a s _ _ h1 hs;obtain⟨k1,k2,k3⟩:=Nb hF b s1 _ _ h g1;exact⟨k1,aRk g2 k2,fun Q σ k=>Js (Goes.trans g2 (g3 (Exit.then (b.wp P Q) Q)) (k3 Q) σ k)⟩
   · rename_i id s1 h1
     cases h;obtain⟨g1,g2,g3⟩:=Nb hF a s _ _ h1 hs;exact⟨g1,g2,fun Q σ k=>Js (g3 (Exit.then (b.wp P Q) Q) σ k)⟩
   · rename_i s1 h1
     cases h;obtain⟨g1,g2,g3⟩:=Nb hF a s _ _ h1 hs;exact⟨g1,g2,fun Q σ k=>Js (g3 (Exit.then (b.wp P Q) Q) σ k)⟩
   ·cases h
 | .cond c x y=>fun s e s' h hs=>by
   simp only[Ob]at h;split at h
   · rename_i hc
     obtain⟨g1,g2,g3⟩:=Nb hF x s _ _ h hs;exact⟨g1,g2,fun Q σ k=>Ll (evv (σ:=σ) hc) (g3 Q σ k)⟩
   · rename_i hc
     obtain⟨g1,g2,g3⟩:=Nb hF y s _ _ h hs;exact⟨g1,g2,fun Q σ k=>DF (evv (σ:=σ) hc) (g3 Q σ k)⟩
   ·cases h
 | .block id c=>fun s e s' h hs=>by
   simp only[Ob]at h;split at h
   · rename_i j s1 h1
     obtain⟨g1,g2,g3⟩:=Nb hF c s _ _ h1 hs;cases hj:Nat.beq j id with
     | true=>
       rw[hj]at h;cases h;have e0:=aPp hj;subst e0;exact⟨g1,g2,fun Q σ k=>To.b (g3 (Exit.inBlock j Q) σ fun σ' he=>Jbx (k σ' he))⟩
     | false=>
       rw[hj]at h;cases h;exact⟨g1,g2,fun Q σ k=>To.b (g3 (Exit.inBlock id Q) σ fun σ' he=>IQ hj (k σ' he))⟩
   · rename_i s1 h1
     cases h;obtain⟨g1,g2,g3⟩:=Nb hF c s _ _ h1 hs;exact⟨g1,g2,fun Q σ k=>To.b (g3 (Exit.inBlock id Q) σ k)⟩
   · rename_i s1 h1
     cases h;obtain⟨g1,g2,g3⟩:=Nb hF c s _ _ h1 hs;exact⟨g1,g2,fun Q σ k=>To.b (g3 (Exit.inBlock id Q) σ k)⟩
   ·cases h
 | .loop c=>fun s e s' h hs=>by
   simp only[Ob]at h;obtain⟨a,b,d⟩:=yT (Nb hF c) E.fuel s e s' h hs;exact⟨a,b,fun Q σ k=>To.rounds E.fuel (d Q σ k)⟩
 | .exit id=>fun s e s' h hs=>by simp only[Ob,aPt,Prod.mk.injEq]at h;obtain⟨rfl,rfl⟩:=h;exact⟨hs,aPl _,fun Q σ k=>Jex (k σ fun _ _=>rfl)⟩
 | .ret=>fun s e s' h hs=>by simp only[Ob,aPt,Prod.mk.injEq]at h;obtain⟨rfl,rfl⟩:=h;exact⟨hs,aPl _,fun Q σ k=>Jrt (k σ fun _ _=>rfl)⟩
 | .rangeFunc _ _ _ _=>fun s e s' h hs=>by simp[Ob]at h
 | .scope _=>fun s e s' h hs=>by simp[Ob]at h
 | .label _=>fun s e s' h hs=>by simp[Ob]at h
 | .goto _=>fun s e s' h hs=>by simp[Ob]at h
 | .refuse _=>fun s e s' h hs=>by simp[Ob]at h
theorem nA(hs:s.Good):∀{rs:List ResultVar} {l:List AV},jE P s rs=some l→Es s.k l
 |[],l,h=>by simp only[jE,aPt]at h;subst h;simp only[Es]
 | .tmp t::r,l,h=>by
   unfold jE at h;split at h
   · rename_i v l' hv hl
     cases h;simp only[Es];exact⟨bZ hs.sl hv,nA hs hl⟩
   ·cases h
 | .cell t ty::r,l,h=>by
   unfold jE at h;split at h
   · rename_i v l' hv hl
     cases h;simp only[Es];exact⟨(Ya (o:=⟨none, .load ty (.tmp t),0, "",#[],none⟩) hs.big hs.sl hs.me hv).1,nA hs hl⟩
   ·cases h
def ZB(a:Act):ResultVar→Sem vU
 | .tmp t=>pure (a.tmps.getD t undef)
 | .cell t ty=>do loadVar ty (←asAddr (a.tmps.getD t undef))
theorem yU(x:Addr):asAddr (.pointer (some x))=pure x:=rfl
theorem nD(hs:s.Good){a:Act}{w:wD}(ha:Wz (Jp σ s.ρ) a)(hw:oks (mem σ s.M) w):∀{rs:List ResultVar} {l:List AV},jE P s rs=some l→
    (rs.mapM (ZB a)).run P w= .ok (Dp σ l) w
 |[],l,h=>by simp only[jE,aPt]at h;subst h;rfl
 | .tmp t::r,l,h=>by
   unfold jE at h;split at h
   · rename_i v l' hv hl
     cases h;have h1:a.tmps.getD t undef=val σ v:=by rw[aPz,ha t _ (Qa σ hv)];rfl
     rw[List.mapM_cons];simp only[aQm,aQv,aQf,ZB,h1,nD hs ha hw hl,Dp]
   ·cases h
 | .cell t ty::r,l,h=>by
   unfold jE at h;split at h
   · rename_i v l' hv hl
     cases h;have h2:=(Ya (o:=⟨none, .load ty (.tmp t),0, "",#[],none⟩) hs.big hs.sl hs.me hv).2 σ a w ha hw;simp only[mG]at hv;split at hv
     · rename_i i q hx
       have hx':ev (Jp σ s.ρ) (.tmp t)=some (.pointer (some ⟨bl σ i,q,none⟩)):=evv hx;have h3:a.tmps.getD t undef= .pointer (some ⟨bl σ i,q,none⟩):=by rw[aPz,ha t _ hx'];rfl
       have h4:(loadVar ty ⟨bl σ i,q,none⟩).run P w= .ok (val σ v) w:=by
        unfold execOp at h2;have h5:a.eval (.tmp t)= .pointer (some ⟨bl σ i,q,none⟩):=h3;simp only[h5,Instr.loadAt,Instr.sureAddr,aQm,aQv,aQf]at h2;cases hr:(loadVar ty ⟨bl σ i,q,none⟩).run P w with
        |ok v2 w2=>rw[hr]at h2;simp at h2;rw[h2.1,h2.2]
        |halt hh w2=>rw[hr]at h2;simp[Result.andThen]at h2
       rw[List.mapM_cons];simp only[aQm,aQv,aQf,ZB,h3,yU,h4,nD hs ha hw hl,Dp]
     ·cases hv
   ·cases h
theorem NG{l:List AV}:(if h:(Dp σ l).toArray.size=1 then(Dp σ l).toArray[0]else .tuple (Dp σ l).toArray)=val σ (aF l):=by
 match l with
 |[]=>simp[aF,Dp,val]
 |[v]=>simp[aF,Dp]
 |u::v::r=>simp[aF,Dp,val]
theorem NH{l:List AV}(h:Es k l):bel k (aF l):=by
 match l with
 |[]=>simp only[aF,bel,Es]
 |[v]=>simp only[Es]at h;exact h.1
 |u::v::r=>simp only[aF,bel];exact h
theorem iM:∀(l:List AV) (i:Nat),Jp σ (aT i l)=slotsOf i (Dp σ l)
 |[],_=>rfl
 | v::r,i=>by
   show(i,val σ v)::Jp σ (aT (i+1) r)=_;rw[iM r (i+1)];rfl
theorem nG:∀{l:List AV} (i:Nat),Es k l→Rk k (aT i l)
 |[],_,_=>fun p hp=>by cases hp
 | v::r,i,h=>by
   simp only[Es]at h;exact Gc h.1 (nG (i+1) h.2)
theorem yV{fn:Func}(hs:s.Good){a:Act}{w:wD}(ha:Wz (Jp σ s.ρ) a)(hw:oks (mem σ s.M) w){l:List AV}(h:jE P s fn.results.toList=some l):(results fn a.tmps).run P w= .ok (val σ (aF l)) w:=by
 have h1:=nD hs ha hw h;have e:results fn a.tmps=(fn.results.mapM (ZB a)>>=fun vs=>pure (if h:vs.size=1 then vs[0]else .tuple vs)):=rfl;have e2:∀x:Sem (List vU),(List.toArray<$>x:Sem (Array vU))=(x>>=fun l=>pure l.toArray):=fun _=>rfl;rw[e,Array.mapM_eq_mapM_toList,e2];simp only[aQm,h1,aQf,aQv,NG]
theorem NI{mode k k':Nat}{M:List MC}(h:Lm k M):Lm k (yS mode k' M):=by
 unfold yS;split
 ·exact h
 ·exact Yf h
 ·exact Yf h
theorem EQ{mode k k':Nat}{M:List MC}{vs:List vU}{Γ:List Ad}{v:AV}(h:Bg P f vs Γ (jC k σ v M)):Bg P f vs Γ (jC k σ v (yS mode k' M)):=by
 unfold yS;split
 ·exact h
 ·exact gG h
 ·exact gG h
theorem ZC(hF:Nu P F):Nu P (aGc E F):=fun f vs M k v M' k' h hbig hvs hM=>by
 unfold aGc at h;split at h
 · rename_i fn hfn
   split at h
   · rename_i c hc
     cases hl:Nat.ble vs.length fn.ntmps with
     |false=>rw[hl]at h;cases h
     | true=>
       rw[hl]at h;simp only[aQw]at h;have hs0:St.Good ⟨aT 0 vs,M,k⟩:=⟨hbig,nG 0 hvs,hM⟩
       split at h
       ·cases h
       · rename_i e s hne hco
         split at h
         · rename_i l hr
           cases h;have hco':=fun C (hn:C.n=fn.ntmps)=>Nb (C:=C) (E:=E) (f:=f) hF c ⟨aT 0 vs,M,k⟩ e s (by rw[hn];exact hco);obtain⟨g1,g2,_⟩:=hco' ⟨fn.ntmps,[],default,[]⟩ rfl hs0;refine⟨g2,NH (nA g1 hr),NI g1.me,fun σ=>EQ ?_⟩;refine Bg.enter hfn hc rfl (by rw[Ip];exact hl) fun w=>?_;obtain⟨_,_,g3⟩:=hco' ⟨fn.ntmps,mem σ M,w,[]⟩ rfl hs0;have g4:=g3 (bodyPost P fn (Fin ⟨fn.ntmps,mem σ M,w,[]⟩ (jC k σ (aF l) s.M))) σ;rw[←iM];refine g4 fun σ' he=>?_;refine xC ?_ (fun a w' ha hw=>yV g1 ha.sees hw.each hr) ⟨σ',he,rfl,rfl⟩;cases e with
           |nor=>exact .inr rfl
           |ret=>exact .inl rfl
           |exi id=>exact aPu rfl (hne id)
         ·cases h
       ·cases h
   ·cases h
 ·cases h
theorem Yi{O:Ps}(hO:Nu P O):∀d,Nu P (dM E O d)
 |0=>fun _ _ _ _ _ _ _ h=>by cases h
 | d+1=>fun f vs M k v M' k' h hbig hvs hM=>by
   unfold dM at h;split at h
   ·rename_i r hr;cases h;exact hO _ _ _ _ _ _ _ hr hbig hvs hM
   ·exact ZC (Yi hO d) _ _ _ _ _ _ _ h hbig hvs hM
end
end Go.In
namespace Go.Sep
open Go.RowKit Go.Flow Go.Mem Go.In
theorem Tm{P:pG}{o:Oper}{ρ:Bo}{Γ:List Ad}{x:Operand}{t:tI}{s:List Nat}(ho:o.op= .call {callee:= .builtin .len,args:=#[x],argTypes:=#[t]})(ht:P.underlying t=some .string)(hx:ev ρ x=some (.string (fT s))):Rd P o ρ Γ (nv s.length):=fun a w ha _=>by
 unfold execOp;simp[ho,resolve,invoke,builtin,ha.eval hx,Builtin.len_,run_underlying ht,goInt,Bd]
theorem yX{P:pG}{o:Oper}{ρ:Bo}{Γ:List Ad}{x y:Operand}{t:tI}{s:List Nat}{a:Nat}{k:IntKind}(ho:o.op= .slice t x (some y) none none)(ht:P.underlying t=some .string)(hx:ev ρ x=some (.string (fT s)))(hy:ev ρ y=some (.int k (a:Int)))(h:a≤s.length):Rd P o ρ Γ (.string (fT (s.drop a))):=by
 have:=In.Rd.strSl (P:=P) (Γ:=Γ) (a:=a) (b:=s.length) ho ht hx ⟨k,hy⟩ rfl h (aPl _);rwa[aQa (by rw[aRi];exact aPl _)]at this
theorem TP{P:pG}{o:Oper}{ρ:Bo}{Γ:List Ad}{x y z:Operand}{t:tI}{s:List Nat}{a b:Nat}{k k':IntKind}(ho:o.op= .slice t x (some y) (some z) none)(ht:P.underlying t=some .string)(hx:ev ρ x=some (.string (fT s)))(hy:ev ρ y=some (.int k (a:Int)))(hz:ev ρ z=some (.int k' ((a+b:Nat):Int)))(h:a+b≤s.length):Rd P o ρ Γ (.string (fT ((s.drop a).take b))):=by
 have:=In.Rd.strSl (P:=P) (Γ:=Γ) (a:=a) (b:=a+b) ho ht hx ⟨k,hy⟩ ⟨k',hz⟩ om h;rwa[show a+b-a=b by omega]at this
def aKf(D:Nat):Ad where
 owns:=[D]
 reads:=[]
 holds w:=D<w.heap.size
 loc w w' h hw:=by
  have:=h D (.inl sm);rw[Array.getElem?_eq_getElem hw]at this;exact(aRe.1 this).1
 lt w hw g hg:=by simp at hg;rw[hg];exact hw
theorem TQ{P:pG}{C:Cx}{ρ:Bo}{Γ:List Ad}{R:vU→List Ad→Prop}{fn:Func}{ex:Exit}{t D:Nat}{v:vU}{n0:Nat}{Γ0:List Ad}{w0:wD}(hex:ex= .ret∨ex= .normal)(hres:fn.results=#[.tmp t])(hv:look ρ t=some v)
    (hds:C.ds=[mark D]) (h0:C=⟨n0,Γ0,w0,C.ds⟩) (h:R v Γ):To C ρ (dfr D::Γ) (bodyPostM Fence.wide 0 P fn (Fin ⟨n0,Γ0,w0,[]⟩ R) ex):=fun a w ha hp=>by
 have hD:w.heap[D]?=some (.deferred (some [])):=hp.sat.each _ (aPc ..);have key:LeavesInM Fence.wide 0 P fn a.tmps (Fin ⟨n0,Γ0,w0,[]⟩ R) a.defers .returning w:=by
  rw[ha.defers,hds];refine⟨by simp, .inl ⟨D,_,rfl,run_takeDeferred hD,?_⟩⟩;refine⟨v,?_,v,Γ,rfl,h,?_⟩
  ·rw[results_tmp hres,aPz,ha.sees t v hv];rfl
  · have e1:C.Γ0=Γ0∧C.w0=w0:=by rw[h0];exact⟨rfl,rfl⟩
    have q:=Qn (c':=aKf D) hp.sat rfl rfl rfl (by show D<_;rw[World.putObj_size];exact(aRe.1 hD).1) (o:= .deferred none);have q2:Dk (dfr D::Γ) (Γ++[aKf D]) w (w.putObj D (.deferred none)):=q.perm (aQc (l₁:=[_]));have:=hp.trans q2.drop;rw[e1.1,e1.2]at this;exact this
 rcases hex with rfl|rfl
 ·exact key
 ·exact key
end Go.Sep
namespace Go.In
open Go.Sep
abbrev Tok:=Nat×List Nat×Nat
def ER(rdA:List Nat→oP (Nat×Nat))(skA:List Nat→oP Nat):Nat→List Nat→Nat→oP (List Tok)
 |0,_,_=>none
 | n + 1,s,off=>bif Nat.blt off s.length then(match rdA (s.drop off)with
   | some (k,m)=>bif Nat.ble (off+m) s.length then(match skA (s.drop (off+m))with
     | some q=>bif Nat.ble (off+m+q) s.length then(match ER rdA skA n s (off+m+q)with
       |some l=>some ((k,(s.drop off).take m,off)::l)
       |none=>none)else none
     |none=>none)else none
   |none=>none)else some []
theorem NJ{rdA:List Nat→oP (Nat×Nat)}{skA:List Nat→oP Nat}{n:Nat}{s:List Nat}{off:Nat}{l:List Tok}(h:ER rdA skA n s off=some l)(hlt:off<s.length):∃n' k m q l',n=n'+1∧rdA (s.drop off)=some (k,m)∧off+m≤s.length∧skA (s.drop (off+m))=some q∧off+m+q≤s.length∧ER rdA skA n' s (off+m+q)=some l'∧l=(k,(s.drop off).take m,off)::l':=by
 cases n with
 |zero=>cases h
 | succ n=>
   unfold ER at h;rw[show Nat.blt off s.length=true from Nat.ble_eq_true_of_le hlt]at h;simp only[aQw]at h;split at h
   · rename_i k m h1
     cases h2:Nat.ble (off+m) s.length with
     |false=>rw[h2]at h;cases h
     | true=>
       rw[h2]at h;simp only[aQw]at h;split at h
       · rename_i q h3
         cases h4:Nat.ble (off+m+q) s.length with
         |false=>rw[h4]at h;cases h
         | true=>
           rw[h4]at h;simp only[aQw]at h;split at h
           · rename_i l' h5
             cases h;exact⟨n,k,m,q,l',rfl,h1,aPd h2,h3,aPd h4,h5,rfl⟩
           ·cases h
       ·cases h
   ·cases h
theorem TR{rdA:List Nat→oP (Nat×Nat)}{skA:List Nat→oP Nat}{n:Nat}{s:List Nat}{off:Nat}{l:List Tok}(h:ER rdA skA n s off=some l)(hge:¬off<s.length):l=[]:=by
 cases n with
 |zero=>cases h
 | succ n=>
   unfold ER at h;have:Nat.blt off s.length=false:=by
    cases hb:Nat.blt off s.length with
    |false=>rfl
    |true=>exact aPu (aPd hb) hge
   rw[this]at h;cases h;rfl
end Go.In
