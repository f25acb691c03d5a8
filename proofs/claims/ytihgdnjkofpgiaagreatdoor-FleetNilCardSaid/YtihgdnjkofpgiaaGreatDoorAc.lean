/- Merged out of Aq, Ar, A15, As by merge.py. Own text. -/
import Derived.Test.YtihgdnjkofpgiaaGreatDoorAb
set_option linter.unusedVariables false
set_option linter.unusedSimpArgs false
namespace Go.Sep
open Go.RowKit Go.Flow Go.Mem
def NoCall(o:Oper):Prop:=∀(ρ:Operand→Value) (P:Program) (w w':World),(∀f args,(execOp ρ o).run P w≠ .ok (.enter f args) w')∧(∀row args,(execOp ρ o).run P w≠ .ok (.row row args) w')
def lenOp(o:Oper):Bool:=match o.op with
 | .call c=>match c.callee with
   | .builtin .len=>true
   | .builtin .append=>true
   |_=>false
 |_=>false
def plainOp3(o:Oper):Bool:=plainOp2 o||lenOp o
theorem noCall_of{o:Oper}(h:plainOp3 o=true):NoCall o:=fun ρ P w w'=>by
 unfold plainOp3 at h
 rw[Bool.or_eq_true]at h
 rcases h with h|h
 ·exact plain_value2 h ρ P w w'
 · have hv:∀s:Sem Value,(∀f args,(do pure (.value (←s)):Sem Next).run P w≠ .ok (.enter f args) w')∧(∀row args,(do pure (.value (←s)):Sem Next).run P w≠ .ok (.row row args) w'):=fun s=>by
     simp only[Sem.run_bind]
     cases s.run P w<;>simp[Result.andThen]
   unfold lenOp at h
   split at h
   · rename_i c hc
     obtain⟨cl,as,ts⟩:=c
     simp only at h
     split at h
     · unfold execOp
       simp only[hc,resolve,invoke,builtin,Sem.run_bind,Sem.run_pure,Result.andThen_ok]
       have:=hv (Builtin.len_ ts o.type (as.map ρ))
       simpa only[Sem.run_bind,Sem.run_pure]using this
     · unfold execOp
       simp only[hc,resolve,invoke,builtin,Sem.run_bind,Sem.run_pure,Result.andThen_ok]
       have:=hv (Builtin.append_ ts o.type (as.map ρ))
       simpa only[Sem.run_bind,Sem.run_pure]using this
     ·cases h
   ·cases h
theorem OpTo.andN{P:Program}{ops:Array Oper}{o:Oper}{a:Act}{w:World}{K K':Value→World→Prop}(hp:NoCall o)(h:OpTo P ops o a w K)(h':OpTo P ops o a w K'):OpTo P ops o a w fun v w'=>K v w'∧K' v w':=by
 unfold OpTo at*
 split
 · rename_i hw
   rw[if_pos hw]at h h'
   have hq:=hp a.eval P w
   unfold upTo at*
   split
   ·rename_i he;rw[he]at h h';exact⟨h,h'⟩
   ·rename_i he;rw[he]at h h';exact⟨h,h'⟩
   ·rename_i w' he;exact absurd he ((hq w').1 _ _)
   ·rename_i w' he;exact absurd he ((hq w').2 _ _)
   · rename_i h1 h2 h3 h4
     generalize (execOp a.eval o).run P w=r at*
     cases r with
     |ok n w'=>cases n<;>first|exact absurd rfl (h1 _ _)|exact absurd rfl (h2 _)|exact absurd rfl (h3 _ _ _)|exact absurd rfl (h4 _ _ _)|exact h
     |halt x w'=>exact h
 · rename_i hw
   rw[if_neg hw]at h h'
   exact⟨h,h'⟩
def plainGo3(m p:Nat):Nat→List Oper→Bool
 |_,[]=>true
 |i,o::l=>(plainOp3 o||Nat.beq i m||Nat.beq i p||tiedB m p o)&&plainGo3 m p (i+1) l
theorem plainGo3_at{m p:Nat}:∀{l:List Oper} {k i:Nat} {o:Oper},plainGo3 m p k l=true→l[i]?=some o→plainOp3 o=true∨k+i=m∨k+i=p∨∃e∈o.after,Region.binds .any e=true∧(e.on=m∨e.on=p)
 |[],_,_,_,_,h=>by simp at h
 | o ::l,k,i,o',h,hi=>by
   rw[plainGo3,Bool.and_eq_true]at h
   cases i with
   | zero=>
     obtain rfl:o=o':=by simpa using hi
     have h1:=h.1
     simp only[Bool.or_eq_true]at h1
     rcases h1 with((h1|h1)|h1)|h1
     ·exact .inl h1
     ·exact .inr (.inl (Nat.eq_of_beq_eq_true h1))
     ·exact .inr (.inr (.inl (Nat.eq_of_beq_eq_true h1)))
     · obtain⟨e,he,h2⟩:=List.any_eq_true.1 h1
       simp only[Bool.and_eq_true,Bool.or_eq_true]at h2
       exact .inr (.inr (.inr ⟨e,Array.mem_toList_iff.1 he,h2.1,h2.2.imp Nat.eq_of_beq_eq_true Nat.eq_of_beq_eq_true⟩))
   | succ i=>
     have:=plainGo3_at h.2 (i:=i) (o:=o') (by simpa using hi)
     rwa[show k+1+i=k+(i+1) by omega]at this
section
variable{P:Program}{l:List Oper}{Q:Act→World→Prop}
theorem any_split3{m p:Nat}(hne:m≠p)(hpl:∀i o,l[i]?=some o→NoCall o∨i=m∨i=p∨∃e∈o.after,Region.binds .any e=true∧(e.on=m∨e.on=p)):∀(fuel:Nat) (listed:Array Bool) (a:Act) (w:World),AnyI P (tie l m p).toArray Q fuel listed a w→AnyI P (tie l p m).toArray Q fuel listed a w→listed.getD p false=false→listed.getD m false=false→AnyI P l.toArray Q fuel listed a w
 | 0,listed,a,w,h1,h2,hp,hm=>by
   refine⟨List.eq_nil_iff_forall_not_mem.2 fun i hi=>?_,h1.2⟩
   by_cases e:i=m
   · have:=ready_tie (m:=p) (p:=m).2 ⟨hi,fun e2=>absurd (e.symm.trans e2) hne⟩
     rw[h2.1]at this;cases this
   · have:=ready_tie (m:=m) (p:=p).2 ⟨hi,fun e2=>absurd e2 e⟩
     rw[h1.1]at this;cases this
 | fuel + 1,listed,a,w,h1,h2,hp,hm=>by
   refine⟨fun hr=>h1.1 (List.eq_nil_iff_forall_not_mem.2 fun i hi=>?_),fun i hi=>?_⟩
   · have h1:=(ready_tie.1 hi).1
     rw[hr]at h1;cases h1
   · have hl:=(ready_iff.1 hi).1
     by_cases em:i=m
     · obtain⟨o,h3,h4⟩:=opI_tie (h2.2 i (ready_tie.2 ⟨hi,fun e2=>absurd (em.symm.trans e2) hne⟩))
       exact⟨o,by simpa using h3,h4.mono fun v w' hv=>any_tied fuel _ _ _ (by rw[em]at hl⊢;exact listed_own hl) hv⟩
     · by_cases ep:i=p
       · obtain⟨o,h3,h4⟩:=opI_tie (h1.2 i (ready_tie.2 ⟨hi,fun e2=>absurd e2 em⟩))
         exact⟨o,by simpa using h3,h4.mono fun v w' hv=>any_tied fuel _ _ _ (by rw[ep]at hl⊢;exact listed_own hl) hv⟩
       · obtain⟨o,h3,h4⟩:=opI_tie (h1.2 i (ready_tie.2 ⟨hi,fun e2=>absurd e2 em⟩))
         obtain⟨o',h3',h4'⟩:=opI_tie (h2.2 i (ready_tie.2 ⟨hi,fun e2=>absurd e2 ep⟩))
         rw[h3]at h3'
         obtain rfl:=Option.some.inj h3'
         have hun:∀k,i≠k→listed.getD k false=false→(listed.setIfInBounds i true).getD k false=false:=fun k hk hf=>by
          rw[Array.getD_eq_getD_getElem?]at*
          rw[Array.getElem?_setIfInBounds,if_neg hk];exact hf
         have hpo:NoCall o:=by
          rcases hpl i o h3 with hq|hq|hq|⟨e,he,hb,hq⟩
          ·exact hq
          ·exact absurd hq em
          ·exact absurd hq ep
          · obtain⟨_,o2,h5,h6⟩:=ready_iff.1 hi
            rw[h3]at h5
            obtain rfl:=Option.some.inj h5
            have h7:=h6 e he hb
            rcases hq with hq|hq<;>rw[hq]at h7
            ·rw[hm]at h7;cases h7
            ·rw[hp]at h7;cases h7
         exact⟨o,by simpa using h3,(OpTo.andN hpo h4 h4').mono fun v w' ⟨hv,hv'⟩=>any_split3 hne hpl fuel _ _ _ hv hv' (hun p ep hp) (hun m em hm)⟩
def shiftE(n:Nat)(e:Edge):Edge:=⟨e.on-n,e.ground⟩
def shiftOp(n:Nat)(o:Oper):Oper:={o with after:=((o.after.toList.filter fun e=>Nat.ble n e.on).map (shiftE n)).toArray}
def shiftL(n:Nat)(l:List Oper):List Oper:=(l.drop n).map (shiftOp n)
def headB(n:Nat):Nat→List Oper→Bool
 |_,[]=>true
 |i,o::r=>(o.after.toList.all fun e=> !Region.binds .any e||Nat.blt e.on i)&&(match o.guard with|none=>true|some (j,_)=>Nat.blt j n)&&headB n (i+1) r
def tailB(n:Nat)(A:List Nat):Nat→List Oper→Bool
 |_,[]=>true
 |i,o::r=>o.guard.isNone&&((List.range n).all fun j=>(A.getD i 0).testBit j)&&tailB n A (i+1) r
def cutB(n:Nat)(l:List Oper):Bool:=headB n 0 (l.take n)&&tailB n (ancMask l []) n (l.drop n)&&Nat.ble n l.length
theorem headB_at{n:Nat}:∀{l:List Oper} {k i:Nat} {o:Oper},headB n k l=true→l[i]?=some o→(∀e∈o.after,Region.binds .any e=true→e.on<k+i)∧∀j s,o.guard=some (j,s)→j<n
 |[],_,_,_,_,h=>by simp at h
 | o ::l,k,i,o',h,hi=>by
   simp only[headB,Bool.and_eq_true]at h
   cases i with
   | zero=>
     obtain rfl:o=o':=by simpa using hi
     refine⟨fun e he hb=>?_,fun j s hg=>?_⟩
     · have:=List.all_eq_true.1 h.1.1 e (Array.mem_toList_iff.2 he)
       rw[hb]at this
       exact Nat.le_of_ble_eq_true this
     · have:=h.1.2
       rw[hg]at this
       exact Nat.le_of_ble_eq_true this
   | succ i=>
     have:=headB_at h.2 (i:=i) (o:=o') (by simpa using hi)
     rwa[show k+1+i=k+(i+1) by omega]at this
theorem tailB_at{n:Nat}{A:List Nat}:∀{l:List Oper} {k i:Nat} {o:Oper},tailB n A k l=true→l[i]?=some o→o.guard=none∧∀j,j<n→(A.getD (k+i) 0).testBit j=true
 |[],_,_,_,_,h=>by simp at h
 | o ::l,k,i,o',h,hi=>by
   simp only[tailB,Bool.and_eq_true,Option.isNone_iff_eq_none]at h
   cases i with
   | zero=>
     obtain rfl:o=o':=by simpa using hi
     exact⟨h.1.1,fun j hj=>List.all_eq_true.1 h.1.2 j (List.mem_range.2 hj)⟩
   | succ i=>
     have:=tailB_at h.2 (i:=i) (o:=o') (by simpa using hi)
     rwa[show k+1+i=k+(i+1) by omega]at this
structure CutAt(n:Nat)(l:List Oper):Prop where
 le:n≤l.length
 hd:∀i o,l[i]?=some o→i<n→(∀e∈o.after,Region.binds .any e=true→e.on<i)∧∀j s,o.guard=some (j,s)→j<n
 tl:∀i o,l[i]?=some o→n≤i→o.guard=none∧∀j,j<n→anc l i j=true
theorem cutB_ok{n:Nat}{l:List Oper}(h:cutB n l=true):CutAt n l:=by
 simp only[cutB,Bool.and_eq_true]at h
 obtain⟨⟨h1,h2⟩,h3⟩:=h
 refine⟨Nat.le_of_ble_eq_true h3,fun i o ho hi=>?_,fun i o ho hi=>?_⟩
 · have:=headB_at h1 (i:=i) (o:=o) (by rw[List.getElem?_take,if_pos hi];exact ho)
   rwa[Nat.zero_add]at this
 · have:=tailB_at h2 (i:=i-n) (o:=o) (by rw[List.getElem?_drop,show n+(i-n)=i by omega];exact ho)
   rw[show n+(i-n)=i by omega]at this
   exact this
theorem mem_direct{o:Oper}{d:Nat}:d∈direct o↔ ∃e∈o.after,Region.binds .any e=true∧e.on=d:=by
 unfold direct
 rw[List.mem_map]
 constructor
 · rintro⟨e,he,rfl⟩
   obtain⟨h1,h2⟩:=List.mem_filter.1 he
   exact⟨e,Array.mem_toList_iff.1 h1,h2,rfl⟩
 · rintro⟨e,he,hb,rfl⟩
   exact⟨e,List.mem_filter.2 ⟨Array.mem_toList_iff.2 he,hb⟩,rfl⟩
def ClosedA(l:List Oper)(A:Array Bool):Prop:=∀i o,l[i]?=some o→A.getD i false=true→∀d∈direct o,A.getD d false=true
def AnyQ(P:Program)(l:List Oper)(Q:Act→World→Prop)(a:Act)(w:World):Prop:=AnyI P l.toArray Q l.length (Array.replicate l.length false) a w
theorem AnyI.more:∀{fuel:Nat} (k:Nat) {listed:Array Bool} {a:Act} {w:World},AnyI P l.toArray Q fuel listed a w→AnyI P l.toArray Q (fuel+k) listed a w
 |0,0,_,_,_,h=>h
 | 0,k+1,listed,a,w,h=>by
   show AnyI P l.toArray Q (0+k+1) listed a w
   exact⟨fun _=>h.2,fun i hi=>by rw[h.1]at hi;cases hi⟩
 | fuel+1,k,listed,a,w,h=>by
   rw[show fuel+1+k=(fuel+k)+1 by omega]
   exact⟨h.1,fun i hi=>(h.2 i hi).mono fun a w hh=>AnyI.more k hh⟩
theorem getD_app{A B:Array Bool}{i:Nat}{d:Bool}(h:i<A.size):(A++B).getD i d=A.getD i d:=by
 rw[Array.getD_eq_getD_getElem?,Array.getD_eq_getD_getElem?,Array.getElem?_append_left h]
theorem getD_app2{A B:Array Bool}{i:Nat}{d:Bool}(h:A.size≤i):(A++B).getD i d=B.getD (i-A.size) d:=by
 rw[Array.getD_eq_getD_getElem?,Array.getD_eq_getD_getElem?,Array.getElem?_append_right h]
theorem getD_rep{n i:Nat}{b d:Bool}(h:i<n):(Array.replicate n b).getD i d=b:=by
 rw[Array.getD_eq_getD_getElem?,Array.getElem?_replicate,if_pos h];rfl
theorem getD_dd{A:Array Bool}{i:Nat}{d e:Bool}(h:i<A.size):A.getD i d=A.getD i e:=by
 rw[Array.getD_eq_getD_getElem?,Array.getD_eq_getD_getElem?,Array.getElem?_eq_getElem h];rfl
theorem opTo_take{n:Nat}(c:CutAt n l){i:Nat}{o:Oper}(ho:l[i]?=some o)(hi:i<n){a:Act}{w:World}{K:Value→World→Prop}(h:OpTo P (l.take n).toArray o a w K):OpTo P l.toArray o a w K:=by
 have hg:=(c.hd i o ho hi).2
 have e:Region.wanted o (yielded l.toArray a.tmps)=Region.wanted o (yielded (l.take n).toArray a.tmps):=by
  unfold Region.wanted
  cases hgu:o.guard with
  |none=>rfl
  | some p=>
    obtain⟨j,s⟩:=p
    have hj:=hg j s hgu
    simp only[yielded,List.getElem?_toArray,List.getElem?_take,if_pos hj]
 unfold OpTo at*
 rw[e];exact h
theorem head_all{n:Nat}(c:CutAt n l){A:Array Bool}(hA:A.size=n)(hr:Region.ready .any (l.take n).toArray A=[]):A=Array.replicate n true:=by
 have key:∀i,i<n→A.getD i true=true:=by
  intro i
  induction i using Nat.strongRecOn with
  | _ i ih=>
    intro hi
    cases hb:A.getD i true with
    |true=>rfl
    | false=>
      have hlt:i<l.length:=Nat.lt_of_lt_of_le hi c.le
      have ho:l[i]?=some l[i]:=gge hlt
      have:i∈Region.ready .any (l.take n).toArray A:=ready_iff.2 ⟨hb,l[i],by rw[List.getElem?_take,if_pos hi];exact ho,fun e he hb9=>by
       have h1:=(c.hd i _ ho hi).1 e he hb9
       have:=ih e.on h1 (by omega)
       rw[getD_dd (by rw[hA];omega)];exact this⟩
      rw[hr]at this;cases this
 apply Array.ext
 ·simp[hA]
 · intro i h1 h2
   have:=key i (by omega)
   rw[Array.getD_eq_getD_getElem?,Array.getElem?_eq_getElem h1]at this
   simpa using this
theorem cut1{n f2:Nat}(c:CutAt n l){Q':Act→World→Prop}{B:Array Bool}(hB:B=Array.replicate (l.length-n) false)(hQ:∀a w,Q' a w→AnyI P l.toArray Q f2 (Array.replicate n true++B) a w):
    ∀(fuel:Nat) (A:Array Bool) (a:Act) (w:World),A.size=n→ClosedA l A→AnyI P (l.take n).toArray Q' fuel A a w→AnyI P l.toArray Q (fuel+f2) (A++B) a w
 | 0,A,a,w,hA,hcl,h=>by
   rw[Nat.zero_add,head_all c hA h.1]
   exact hQ a w h.2
 | fuel + 1,A,a,w,hA,hcl,h=>by
   by_cases hr:Region.ready .any (l.take n).toArray A=[]
   · rw[head_all c hA hr,Nat.add_comm]
     exact AnyI.more (fuel+1) (hQ a w (h.1 hr))
   · have hin:∀i,i∈Region.ready .any (l.take n).toArray A→i∈Region.ready .any l.toArray (A++B):=fun i hi=>by
       obtain⟨h1,o,h2,h3⟩:=ready_iff.1 hi
       rw[List.getElem?_take]at h2
       have hin:i<n:=by
        rcases Nat.lt_or_ge i n with h|h
        ·exact h
        ·rw[if_neg (by omega)]at h2;cases h2
       rw[if_pos hin]at h2
       refine ready_iff.2 ⟨by rw[getD_app (by omega)];exact h1,o,h2,fun e he hb=>?_⟩
       have h4:=(c.hd i o h2 hin).1 e he hb
       rw[getD_app (by omega)];exact h3 e he hb
     have hout:∀i,i∈Region.ready .any l.toArray (A++B)→i<n∧i∈Region.ready .any (l.take n).toArray A:=fun i hi=>by
      obtain⟨h1,o,h2,h3⟩:=ready_iff.1 hi
      rcases Nat.lt_or_ge i n with hlt|hge
      · refine⟨hlt,ready_iff.2 ⟨by rw[getD_app (by omega)]at h1;exact h1,o,by rw[List.getElem?_take,if_pos hlt];exact h2,fun e he hb=>?_⟩⟩
        have h4:=(c.hd i o h2 hlt).1 e he hb
        have:=h3 e he hb
        rw[getD_app (by omega)]at this;exact this
      · refine absurd ?_ hr
        refine List.eq_nil_iff_forall_not_mem.2 fun j hj=>?_
        obtain⟨j1,_,j2,_⟩:=ready_iff.1 hj
        have hjn:j<n:=by
         rcases Nat.lt_or_ge j n with h|h
         ·exact h
         ·rw[List.getElem?_take,if_neg (by omega)]at j2;cases j2
        have hX:∀d,d∈direct o→(A++B).getD d false=true:=fun d hd=>by
         obtain⟨e,he,hb,rfl⟩:=mem_direct.1 hd
         exact h3 e he hb
        have hAB:∀k,(A++B).getD k false=true→A.getD k false=true:=fun k hk=>by
         rcases Nat.lt_or_ge k n with hkn|hkn
         ·rwa[getD_app (by omega)]at hk
         · rw[getD_app2 (by omega),hB,Array.getD_eq_getD_getElem?,Array.getElem?_replicate]at hk
           split at hk<;>cases hk
        have hj:A.getD j false=true:=by
         obtain⟨d,hd,hdj⟩:=anc_step h2 ((c.tl i o h2 hge).2 j hjn)
         have h5:=hAB d (hX d hd)
         rcases hdj with rfl|⟨_,hdj⟩
         ·exact h5
         ·exact anc_closed (X:=fun k=>A.getD k false=true) hcl d j h5 hdj
        rw[getD_dd (e:=true) (by omega),j1]at hj
        cases hj
     rw[show fuel+1+f2=(fuel+f2)+1 by omega]
     refine⟨fun hr2=>?_,fun i hi=>?_⟩
     · refine absurd ?_ hr
       exact List.eq_nil_iff_forall_not_mem.2 fun j hj=>by
        have:=hin j hj
        rw[hr2]at this;cases this
     · obtain⟨hlt,hi'⟩:=hout i hi
       obtain⟨o,h1,h2⟩:=h.2 i hi'
       have ho:l[i]?=some o:=by
        simp only[List.getElem?_toArray,List.getElem?_take,if_pos hlt]at h1
        exact h1
       refine⟨o,by simpa using ho,(opTo_take c ho hlt h2).mono fun v w' hv=>?_⟩
       have hcl2:ClosedA l (A.setIfInBounds i true):=fun k ok hk hkt d hd=>by
        have hset:∀x,A.getD x false=true→(A.setIfInBounds i true).getD x false=true:=fun x hx=>listed_set hx
        by_cases e:k=i
        · subst e
          obtain⟨_,o2,h5,h6⟩:=ready_iff.1 hi'
          rw[List.getElem?_take,if_pos hlt,hk]at h5
          cases h5
          obtain⟨e,he,hb,rfl⟩:=mem_direct.1 hd
          exact hset _ (h6 e he hb)
        · refine hset _ (hcl k ok hk ?_ d hd)
          rw[Array.getD_eq_getD_getElem?]at hkt⊢
          rwa[Array.getElem?_setIfInBounds,if_neg (Ne.symm e)]at hkt
       have:=cut1 c hB hQ fuel (A.setIfInBounds i true) _ _ (by simp[hA]) hcl2 hv
       rw [show(A++B).setIfInBounds i true=A.setIfInBounds i true++B by
        apply Array.ext_getElem?
        intro j
        rw[Array.getElem?_setIfInBounds]
        by_cases hj:j<A.size
        · rw[Array.getElem?_append_left hj,Array.getElem?_append_left (by simpa using hj),Array.getElem?_setIfInBounds]
          by_cases e:i=j
          ·simp[e,hj];omega
          ·simp[e]
        · rw[Array.getElem?_append_right (by omega),Array.getElem?_append_right (by simp;omega)]
          have:i≠j:=by omega
          simp[this]]
       exact this
theorem shift_get{n i:Nat}:(shiftL n l)[i]?=(l[n+i]?).map (shiftOp n):=by unfold shiftL;rw[List.getElem?_map,List.getElem?_drop]
theorem cut2{n:Nat}(c:CutAt n l):∀(fuel:Nat) (B:Array Bool) (a:Act) (w:World),B.size=l.length-n→AnyI P (shiftL n l).toArray Q fuel B a w→AnyI P l.toArray Q fuel (Array.replicate n true++B) a w:=by
 have hready:∀(B:Array Bool),B.size=l.length-n→∀i,i∈Region.ready .any l.toArray (Array.replicate n true++B)↔n≤i∧(i-n)∈Region.ready .any (shiftL n l).toArray B:=by
  intro B hB i
  rw[ready_iff,ready_iff]
  constructor
  · rintro⟨h1,o,h2,h3⟩
    have hge:n≤i:=by
     rcases Nat.lt_or_ge i n with h|h
     ·rw[getD_app (by simpa using h),getD_rep h]at h1;cases h1
     ·exact h
    refine⟨hge,by rw[getD_app2 (by simpa using hge)]at h1;simpa using h1,shiftOp n o,by rw[shift_get,show n+(i-n)=i by omega,h2];rfl,fun e he hb=>?_⟩
    simp only[shiftOp,List.mem_toArray,List.mem_map,List.mem_filter]at he
    obtain⟨e',⟨he',hle⟩,rfl⟩:=he
    have hle:=Nat.le_of_ble_eq_true hle
    have:=h3 e' (Array.mem_toList_iff.1 he') hb
    rw[getD_app2 (by simpa using hle)]at this
    simpa[shiftE]using this
  · rintro⟨hge,h1,o,h2,h3⟩
    rw[shift_get,show n+(i-n)=i by omega]at h2
    obtain⟨o',h4,rfl⟩:=Option.map_eq_some_iff.1 h2
    refine⟨by rw[getD_app2 (by simpa using hge)];simpa using h1,o',h4,fun e he hb=>?_⟩
    rcases Nat.lt_or_ge e.on n with h|h
    ·rw[getD_app (by simpa using h),getD_rep h]
    · rw[getD_app2 (by simpa using h)]
      have:=h3 (shiftE n e) (by
       simp only[shiftOp,List.mem_toArray,List.mem_map,List.mem_filter]
       exact⟨e,⟨Array.mem_toList_iff.2 he,Nat.ble_eq_true_of_le h⟩,rfl⟩) hb
      simpa[shiftE]using this
 have hnil:∀(B:Array Bool),B.size=l.length-n→(Region.ready .any l.toArray (Array.replicate n true++B)=[]↔Region.ready .any (shiftL n l).toArray B=[]):=by
  intro B hB
  constructor
  · intro h
    refine List.eq_nil_iff_forall_not_mem.2 fun i hi=>?_
    have:=(hready B hB (n+i)).2 ⟨by omega,by rwa[show n+i-n=i by omega]⟩
    rw[h]at this;cases this
  · intro h
    refine List.eq_nil_iff_forall_not_mem.2 fun i hi=>?_
    have:=((hready B hB i).1 hi).2
    rw[h]at this;cases this
 intro fuel
 induction fuel with
 |zero=>intro B a w hB h;exact⟨(hnil B hB).2 h.1,h.2⟩
 | succ fuel ih=>
   intro B a w hB h
   refine⟨fun hr=>h.1 ((hnil B hB).1 hr),fun i hi=>?_⟩
   obtain⟨hge,hi'⟩:=(hready B hB i).1 hi
   obtain⟨o,h1,h2⟩:=h.2 _ hi'
   simp only[List.getElem?_toArray,shift_get,show n+(i-n)=i by omega]at h1
   obtain⟨o',h3,rfl⟩:=Option.map_eq_some_iff.1 h1
   have hg:=(c.tl i o' h3 hge).1
   refine⟨o',by simpa using h3,?_⟩
   have h4:OpTo P l.toArray o' a w fun v w'=>AnyI P (shiftL n l).toArray Q fuel (B.setIfInBounds (i-n) true) (a.put o'.dst v) w':=by
    unfold OpTo at*
    have e1:Region.wanted o' (yielded l.toArray a.tmps)=true:=by unfold Region.wanted;rw[hg]
    have e2:Region.wanted (shiftOp n o') (yielded (shiftL n l).toArray a.tmps)=true:=by unfold Region.wanted;rw[show(shiftOp n o').guard=o'.guard from rfl,hg]
    rw[if_pos e1]
    rw[if_pos e2]at h2
    exact h2
   refine h4.mono fun v w' hv=>?_
   have:=ih (B.setIfInBounds (i-n) true) _ _ (by simpa using hB) hv
   rw [show(Array.replicate n true++B).setIfInBounds i true=Array.replicate n true++B.setIfInBounds (i-n) true by
    apply Array.ext_getElem?
    intro j
    rw[Array.getElem?_setIfInBounds]
    by_cases hj:j<n
    · have:i≠j:=by omega
      rw[if_neg this,Array.getElem?_append_left (by simpa using hj),Array.getElem?_append_left (by simpa using hj)]
    · have hjn:n≤j:=by omega
      rw[Array.getElem?_append_right (by simpa using hjn),Array.getElem?_append_right (by simpa using hjn),Array.getElem?_setIfInBounds]
      by_cases e:i=j
      · subst e
        have h9:(i<n+B.size)=(i-n<B.size):=propext (by omega)
        simp[h9]
      · have:¬(i-n=j-n):=by omega
        simp[e,this]]
   exact this
variable{C:Cx}{ρ:Slots}{Γ:List Chunk}
theorem To.anyRegion{id:Nat}{R:Exit→Act→World→Prop}(hm:P.follows .mixedOrders=true)(h:To C ρ Γ (AnyQ P l (R .normal))):To C ρ Γ ((Code.region id l.toArray true).wp P R):=fun a w ha hp=>by
 refine wp_region_any hm (AnyI.any (fun _ _ h=>h) _ _ _ _ ?_)
 have:=h a w.drew ha (hp.ext (Ext.drew_ w))
 simpa[AnyQ]using this
theorem To.anyFlow(Θ:List Chunk)(ms:List Meta)(hB:flowB l ms=true)(hΘ:∀w,oks Γ w→oks Θ w)(h:FlowS P noT l Θ Q ms C ρ Γ []):To C ρ Γ (AnyQ P l Q):=fun a w ha hp=>by
 have hS:=hΘ w hp.sat.each
 have hfl:=h a w [] ha hp trivial
 have hx:Ext w w:=Ext.rfl_ w
 show AnyI P l.toArray Q l.length (Array.replicate l.length false) a w
 refine(any_of_inv (S:=oks Θ) (ms:=ms) (a0:=a) hB (fun _ _=>oks_ext) (telB_noT ms) _ _ _ _ ?_ ?_).anyI
 · have hno:∀j,¬exd (Array.replicate l.length false) j:=fun j=>by
     unfold exd
     simp only[Array.getD_eq_getD_getElem?,Array.getElem?_replicate]
     split<;>simp
   exact⟨[],ms,a,w,[],fun _=>undef,fun _=>w,fun _=>w,rfl,by simp,fun i o _ hx=>(hno i hx).elim,⟨rfl,rfl,fun _ _=>rfl,fun j _ _ _ _ hx=>(hno j hx).elim⟩,
    ⟨rfl,rfl,fun _ _=>rfl,fun j _ _ _ _ hx=>by obtain⟨m,hm,_⟩:=hx;simp at hm⟩,hfl,hx,hS,fun p hp=>by simp at hp,fun j hx=>(hno j hx).elim,fun i _ hx=>(hno i hx).elim,fun p hp=>by simp at hp,fun p _ hx=>(hno _ hx).elim⟩
 ·simp[List.countP_replicate]
theorem To.anySplit(m p:Nat)(hne:Nat.beq m p=false)(hpl:plainGo3 m p 0 l=true)(h1:To C ρ Γ (AnyQ P (tie l m p) Q))(h2:To C ρ Γ (AnyQ P (tie l p m) Q)):To C ρ Γ (AnyQ P l Q):=fun a w ha hp=>by
 have g1:=h1 a w ha hp
 have g2:=h2 a w ha hp
 unfold AnyQ at*
 rw[tie_len]at g1 g2
 have hno:∀j,(Array.replicate l.length false).getD j false=false:=fun j=>by
  simp only[Array.getD_eq_getD_getElem?,Array.getElem?_replicate]
  split<;>rfl
 refine any_split3 (fun e=>by rw[e,Nat.beq_refl]at hne;cases hne) (fun i o ho=>?_) _ _ _ _ g1 g2 (hno p) (hno m)
 have:=plainGo3_at hpl ho
 rw[Nat.zero_add]at this
 exact this.imp noCall_of id
theorem To.anyCut(n:Nat)(hc:cutB n l=true)(h:To C ρ Γ (AnyQ P (l.take n) (AnyQ P (shiftL n l) Q))):To C ρ Γ (AnyQ P l Q):=fun a w ha hp=>by
 have c:=cutB_ok hc
 have g:=h a w ha hp
 have hl:(l.take n).length=n:=by rw[List.length_take];exact Nat.min_eq_left c.le
 unfold AnyQ at g⊢
 rw[hl]at g
 have hs:(shiftL n l).length=l.length-n:=by unfold shiftL;simp
 have:=cut1 (f2:=l.length-n) c (B:=Array.replicate (l.length-n) false) rfl (fun a w hq=>cut2 c _ _ _ _ (by simp) (by rw[hs]at hq;exact hq)) n (Array.replicate n false) a w (by simp) (fun k ok _ hk=>by rw[Array.getD_eq_getD_getElem?,Array.getElem?_replicate]at hk;split at hk<;>cases hk) g
 rw[show n+(l.length-n)=l.length by have:=c.le;omega]at this
 rw[show Array.replicate l.length false=Array.replicate n false++Array.replicate (l.length-n) false by
  rw[Array.replicate_append_replicate];congr 1;have:=c.le;omega]
 exact this
end
end Go.Sep
namespace Go.In
open Go.RowKit Go.Flow Go.Mem Go.Sep
mutual
def ren(π:Nat→Nat):AV→AV
 | .ptr i o=> .ptr (π i) o
 | .sl i o l c=> .sl (π i) o l c
 | .slu i o l c d=> .slu (π i) o l (π c) d
 | .mp i=> .mp (π i)
 | .fn f a b=> .fn f (rens π a) (rens π b)
 | .ifc t v=> .ifc t (ren π v)
 | .agg l=> .agg (rens π l)
 | .tup l=> .tup (rens π l)
 | .bool b=> .bool b
 | .int k n=> .int k n
 | .str s=> .str s
 | .nilp=> .nilp
 | .nils=> .nils
 | .nilm=> .nilm
 | .nilf=> .nilf
 | .nili=> .nili
 | .und=> .und
def rens(π:Nat→Nat):List AV→List AV
 |[]=>[]
 |v::l=>ren π v::rens π l
end
structure Ren(π:Nat→Nat)(k:Nat):Prop where
 fix:∀i,i<k→π i=i
 big:∀i,k≤i→k≤π i
def after(σ π:Nat→Nat):Nat→Nat:=fun i=>σ (π i)
theorem bl_ren{σ π:Nat→Nat}{k:Nat}(hk:4096≤k)(h:Ren π k)(i:Nat):bl σ (π i)=bl (after σ π) i:=by
 unfold bl after
 rcases Nat.lt_or_ge i k with hi|hi
 ·rw[h.fix i hi]
 · have h1:Nat.blt i 4096=false:=by
     cases hb:Nat.blt i 4096 with
     |false=>rfl
     |true=>have:=Nat.le_of_ble_eq_true hb;omega
   have h2:Nat.blt (π i) 4096=false:=by
    have:=h.big i hi
    cases hb:Nat.blt (π i) 4096 with
    |false=>rfl
    |true=>have:=Nat.le_of_ble_eq_true hb;omega
   rw[h1,h2];rfl
mutual
theorem val_ren{σ π:Nat→Nat}{k:Nat}(hk:4096≤k)(h:Ren π k):∀v:AV,val σ (ren π v)=val (after σ π) v
 | .ptr i o=>by simp only[ren,val,bl_ren hk h]
 | .sl i o l c=>by simp only[ren,val,bl_ren hk h]
 | .slu i o l c d=>by simp only[ren,val,bl_ren hk h];rfl
 | .mp i=>by simp only[ren,val,bl_ren hk h]
 | .fn f a b=>by simp only[ren,val,vals_ren hk h a,vals_ren hk h b]
 | .ifc t v=>by simp only[ren,val,val_ren hk h v]
 | .agg l=>by simp only[ren,val,vals_ren hk h l]
 | .tup l=>by simp only[ren,val,vals_ren hk h l]
 | .bool _=>by simp only[ren,val]
 | .int _ _=>by simp only[ren,val]
 | .str _=>by simp only[ren,val]
 | .nilp=>by simp only[ren,val]
 | .nils=>by simp only[ren,val]
 | .nilm=>by simp only[ren,val]
 | .nilf=>by simp only[ren,val]
 | .nili=>by simp only[ren,val]
 | .und=>by simp only[ren,val]
theorem vals_ren{σ π:Nat→Nat}{k:Nat}(hk:4096≤k)(h:Ren π k):∀l:List AV,vals σ (rens π l)=vals (after σ π) l
 |[]=>by simp only[rens,vals]
 |v::l=>by simp only[rens,vals,val_ren hk h v,vals_ren hk h l]
end
def renA(π:Nat→Nat):AC→AC
 | .kn c=> .kn c
 | .un c d=> .un (π c) d
def renK(π:Nat→Nat):MK→MK
 | .box t=> .box t
 | .row e s n c=> .row e s n (renA π c)
 | .ro=> .ro
 | .maps m=> .maps (m.map fun p=>(p.1,ren π p.2))
def renM(π:Nat→Nat)(c:MC):MC:=⟨π c.i,renK π c.kd,rens π c.cs⟩
theorem ck_ren{σ π:Nat→Nat}{k:Nat}(hk:4096≤k)(h:Ren π k)(c:MC):ck σ (renM π c)=ck (after σ π) c:=by
 obtain⟨i,kd,cs⟩:=c
 unfold renM ck
 cases kd with
 |box t=>simp only[renK,bl_ren hk h,vals_ren hk h]
 | row e s n c=>
   have:cp σ (renA π c)=cp (after σ π) c:=by cases c<;>rfl
   simp only[renK,bl_ren hk h,vals_ren hk h,this]
 |ro=>simp only[renK,bl_ren hk h,vals_ren hk h]
 | maps m=>
   have:prs σ (m.map fun p=>(p.1,ren π p.2))=prs (after σ π) m:=by
    unfold prs
    rw[List.map_map]
    exact List.map_congr_left fun p _=>by simp only[Function.comp_def,val_ren hk h]
   simp only[renK,bl_ren hk h,this]
theorem mem_ren{σ π:Nat→Nat}{k:Nat}(hk:4096≤k)(h:Ren π k)(M:List MC):mem σ (M.map (renM π))=mem (after σ π) M:=by
 unfold mem
 rw[List.map_map]
 exact List.map_congr_left fun c _=>ck_ren hk h c
def rot(k a i:Nat):Nat:=bif Nat.blt i k then i else bif Nat.blt i (k+a)then i+1 else bif Nat.beq i (k+a)then k else i
theorem rot_ren(k a:Nat):Ren (rot k a) k:=by
 refine⟨fun i hi=>?_,fun i hi=>?_⟩
 · unfold rot
   rw[show Nat.blt i k=true from Nat.ble_eq_true_of_le hi];rfl
 · unfold rot
   cases h1:Nat.blt i k with
   |true=>have:=Nat.le_of_ble_eq_true h1;omega
   | false=>
     cases h2:Nat.blt i (k+a)with
     |true=>show k≤i+1;omega
     | false=>
       cases h3:Nat.beq i (k+a)with
       |true=>exact Nat.le_refl _
       |false=>exact hi
theorem id_ren(k:Nat):Ren (fun i=>i) k:=⟨fun _ _=>rfl,fun _ h=>h⟩
def keepL(ρ:ASlots):List Nat→ASlots
 |[]=>[]
 | t::r=>match alook ρ t with
   |some v=>(t,v)::keepL ρ r
   |none=>keepL ρ r
def slotsEq(π:Nat→Nat)(ρ ρ':ASlots):List Nat→Bool
 |[]=>true
 | t ::r=>(match alook ρ t with
   |none=>true
   | some u=>match alook ρ' t with
     |some v=>eqV (ren π u) v
     |none=>false)&&slotsEq π ρ ρ' r
def takeM:List MC→MC→Option (List MC)
 |[],_=>none
 | d::r,c=>bif Nat.beq d.i c.i then(bif eqK d.kd c.kd&&eqVs d.cs c.cs then some r else none)else match takeM r c with
   |some r'=>some (d::r')
   |none=>none
def pullA:List MC→List MC→Option (List MC)
 |M,[]=>some M
 | M,c::r=>match takeM M c with
   |some M'=>pullA M' r
   |none=>none
def placeA:AV→Option Nat
 | .ptr i _=>some i
 | .sl i _ _ _=>some i
 | .slu i _ _ _ _=>some i
 |_=>none
def thetaA(ρ:ASlots)(M:List MC):List Nat→Option (List MC)
 |[]=>some []
 | t ::r=>match alook ρ t,thetaA ρ M r with
   | some v,some l=>match placeA v with
     | some i=>match find M i with
       |some (_,c)=>some (c::l)
       |none=>none
     |none=>some l
   |_,_=>none
inductive Plan where
 |flow (ms:List Meta) (ts:List Nat)
 |split (m p:Nat) (rest:Option Nat) (a b:Plan) (keep:List Nat)
 |cut (n:Nat) (a b:Plan)
def rotOf(k k':Nat):Option Nat→Nat→Nat
 |some r=>rot k (k'-k-1-r)
 |none=>fun i=>i
def planA{P:Program}(S:Same P)(F:CallF)(n:Nat):Plan→List Oper→St→Option St
 | .flow ms ts,l,s=>bif flowB l ms then(match thetaA s.ρ s.M ts with
     | some Th=>match flowA S F n l Th ms ⟨s.ρ,s.M,[],s.k⟩with
       |some s'=>some ⟨s'.ρ,flatN s'.N++s'.M,s'.k⟩
       |none=>none
     |none=>none)else none
 | .cut j a b,l,s=>bif cutB j l then(match planA S F n a (l.take j) s with
     |some s1=>planA S F n b (shiftL j l) s1
     |none=>none)else none
 | .split m p r a b keep,l,s=>bif !Nat.beq m p&&plainGo3 m p 0 l then(match planA S F n a (tie l m p) s,planA S F n b (tie l p m) s with
     |some s1,some s2=>bif Nat.beq s1.k s2.k&&slotsEq (rotOf s.k s1.k r) s1.ρ s2.ρ keep then(match pullA s2.M (s1.M.map (renM (rotOf s.k s1.k r)))with
         |some _=>some ⟨keepL s1.ρ keep,s1.M,s1.k⟩
         |none=>none)else none
     |_,_=>none)else none
section
variable{P:Program}{S:Same P}{F:CallF}{C:Cx}{σ:Nat→Nat}{s s':St}{k:Nat}
theorem thetaA_mem{ρ:ASlots}{M:List MC}:∀{ts:List Nat} {Th:List MC},thetaA ρ M ts=some Th→∀c∈Th,c∈M
 |[],Th,h,c,hc=>by simp only[thetaA,Option.some.injEq]at h;subst h;cases hc
 | t :: r,Th,h,c,hc=>by
   unfold thetaA at h
   split at h
   · rename_i v l hv hl
     split at h
     · split at h
       · rename_i j b hf
         cases h
         rcases List.mem_cons.1 hc with rfl|hc
         ·exact find_mem hf
         ·exact thetaA_mem hl c hc
       ·cases h
     ·cases h;exact thetaA_mem hl c hc
   ·cases h
theorem keepL_bel{ρ:ASlots}(h:belS k ρ):∀l,belS k (keepL ρ l)
 |[]=>fun p hp=>by cases hp
 | t::r=>by
   unfold keepL
   split
   ·rename_i v hv;exact belS_cons (bel_look h hv) (keepL_bel h r)
   ·exact keepL_bel h r
theorem keepL_subs{ρ:ASlots}:∀l,subs (inst σ ρ) (inst σ (keepL ρ l))
 |[]=>trivial
 | t::r=>by
   unfold keepL
   split
   ·rename_i v hv;exact⟨look_inst σ hv,keepL_subs r⟩
   ·exact keepL_subs r
theorem slotsEq_subs{π:Nat→Nat}(hk:4096≤k)(h:Ren π k){ρ ρ':ASlots}:∀{l:List Nat},slotsEq π ρ ρ' l=true→subs (inst σ ρ') (inst (after σ π) (keepL ρ l))
 |[],_=>trivial
 | t ::r,hq=>by
   simp only[slotsEq,Bool.and_eq_true]at hq
   have ih:=slotsEq_subs hk h hq.2
   have h1:=hq.1
   unfold keepL
   split
   · rename_i u hu
     rw[hu]at h1
     simp only at h1
     split at h1
     · rename_i v hv
       have e:=eqV_ok _ _ h1
       refine⟨?_,ih⟩
       rw[look_inst σ hv,←e,val_ren hk h]
     ·cases h1
   ·exact ih
theorem takeM_perm:∀{M:List MC} {c:MC} {R:List MC},takeM M c=some R→M.Perm (c::R)
 |[],_,_,h=>by cases h
 | d ::r,c,R,h=>by
   unfold takeM at h
   cases hb:Nat.beq d.i c.i with
   | true=>
     rw[hb]at h;simp only[cond_true]at h
     cases hq:(eqK d.kd c.kd&&eqVs d.cs c.cs)with
     |false=>rw[hq]at h;cases h
     | true=>
       rw[hq]at h;cases h
       rw[Bool.and_eq_true]at hq
       have e1:=Nat.eq_of_beq_eq_true hb
       have e2:=eqK_ok hq.1
       have e3:=eqVs_ok _ _ hq.2
       obtain⟨i,kd,cs⟩:=d
       obtain⟨i',kd',cs'⟩:=c
       simp only at e1 e2 e3
       subst e1 e2 e3
       exact List.Perm.refl _
   | false=>
     rw[hb]at h;simp only[cond_false]at h
     split at h
     · rename_i r' hr
       cases h
       exact((takeM_perm hr).cons d).trans (List.Perm.swap _ _ _)
     ·cases h
theorem pullA_perm:∀{L M R:List MC},pullA M L=some R→M.Perm (L++R)
 |[],M,R,h=>by simp only[pullA,Option.some.injEq]at h;subst h;exact List.Perm.refl _
 | c ::r,M,R,h=>by
   unfold pullA at h
   split at h
   · rename_i M' hm
     exact(takeM_perm hm).trans ((pullA_perm h).cons c)
   ·cases h
theorem rotOf_ren{k':Nat}{r:Option Nat}:Ren (rotOf k k' r) k:=by
 cases r with
 |none=>exact id_ren k
 |some r=>exact rot_ren k _
theorem planA_to(hF:CallsOk P F):∀(pl:Plan) (l:List Oper) (s s':St),planA S F C.n pl l s=some s'→s.Good→s'.Good∧s.k≤s'.k∧∀Q,Goes C s s' Q (AnyQ P l Q)
 | .flow ms ts,l,s,s',h,hs=>by
   simp only[planA]at h
   cases hB:flowB l ms with
   |false=>rw[hB]at h;cases h
   | true=>
     rw[hB]at h;simp only[cond_true]at h
     split at h
     · rename_i Th hTh
       split at h
       · rename_i s1 h1
         cases h
         have hT:belM s.k Th:=fun c hc=>hs.me c (thetaA_mem hTh c hc)
         have hfl:=fun Q=>flowA_to (C:=C) (Q:=Q) hF ms _ _ ⟨hs.big,hs.sl,hs.me,fun c hc=>by cases hc⟩ hT h1
         obtain⟨a,b,_⟩:=hfl fun _ _=>True
         refine⟨⟨a.big,a.sl,belM_append a.nw a.me⟩,b,fun Q σ k=>?_⟩
         refine To.anyFlow (mem σ Th) ms hB (fun w hw c hc=>?_) ((hfl Q).2.2 σ k)
         obtain⟨d,hd,rfl⟩:=List.mem_map.1 hc
         exact hw _ (List.mem_map_of_mem (thetaA_mem hTh d hd))
       ·cases h
     ·cases h
 | .cut j a b,l,s,s',h,hs=>by
   simp only[planA]at h
   cases hB:cutB j l with
   |false=>rw[hB]at h;cases h
   | true=>
     rw[hB]at h;simp only[cond_true]at h
     split at h
     · rename_i s1 h1
       obtain⟨g1,g2,g3⟩:=planA_to hF a _ _ _ h1 hs
       obtain⟨k1,k2,k3⟩:=planA_to hF b _ _ _ h g1
       exact⟨k1,Nat.le_trans g2 k2,fun Q σ k=>To.anyCut j hB (Goes.trans g2 (g3 (AnyQ P (shiftL j l) Q)) (k3 Q) σ k)⟩
     ·cases h
 | .split m p r a b keep,l,s,s',h,hs=>by
   simp only[planA]at h
   cases hB:(!Nat.beq m p&&plainGo3 m p 0 l)with
   |false=>rw[hB]at h;cases h
   | true=>
     rw[hB]at h;simp only[cond_true]at h
     rw[Bool.and_eq_true,Bool.not_eq_true']at hB
     split at h
     · rename_i s1 s2 h1 h2
       cases hq:(Nat.beq s1.k s2.k&&slotsEq (rotOf s.k s1.k r) s1.ρ s2.ρ keep)with
       |false=>rw[hq]at h;cases h
       | true =>
         rw[hq]at h;simp only[cond_true]at h
         rw[Bool.and_eq_true]at hq
         split at h
         · rename_i R hR
           cases h
           obtain⟨a1,a2,a3⟩:=planA_to hF a _ _ _ h1 hs
           obtain⟨b1,b2,b3⟩:=planA_to hF b _ _ _ h2 hs
           have hren:Ren (rotOf s.k s1.k r) s.k:=rotOf_ren
           refine⟨⟨a1.big,keepL_bel a1.sl _,a1.me⟩,a2,fun Q σ k=>To.anySplit m p hB.1 hB.2 ?_ ?_⟩
           ·exact a3 Q σ fun σ' he=>To.sub _ (keepL_subs keep) (k σ' he)
           · refine b3 Q σ fun σ' he=>?_
             have hσ:Sup s.k σ (after σ' (rotOf s.k s1.k r)):=fun i hi=>by
              show σ i=σ' (rotOf s.k s1.k r i)
              rw[hren.fix i hi];exact he i hi
             have hk:=k _ hσ
             refine To.sub _ (slotsEq_subs hs.big hren hq.2) ?_
             refine To.perm (Γ':=mem σ' (s1.M.map (renM (rotOf s.k s1.k r)))++mem σ' R) (by rw[←mem_append];exact mem_perm (pullA_perm hR)) (To.drop ?_)
             rw[mem_ren hs.big hren]
             exact hk
         ·cases h
     ·cases h
end
structure Env(P:Program) where
 S:Same P
 flow:Nat→Nat→Option Plan
 live:Nat→List Nat
 drop:Nat→Nat
 fuel:Nat
 mixed:P.follows .mixedOrders=true
def regionA{P:Program}(E:Env P)(F:CallF)(n f:Nat)(id:Nat)(ops:Array Oper)(draw:Bool)(s:St):Option St:=
 match draw with
 |false=>runL E.S F n ops ops.toList s
 | true=>match E.flow f id with
   |some pl=>planA E.S F n pl ops.toList s
   |none=>none
inductive Ex where
 |nor
 |exi (id:Nat)
 |ret
def Ex.to:Ex→Exit
 | .nor=> .normal
 | .exi id=> .exit id
 | .ret=> .ret
def loopA(g:St→Option (Ex×St))(live:List Nat):Nat→St→Option (Ex×St)
 |0,_=>none
 | m+1,s=>match g ⟨keepL s.ρ live,s.M,s.k⟩with
   |some (.nor,s1)=>loopA g live m s1
   |some (.exi id,s1)=>some (.exi id,s1)
   |some (.ret,s1)=>some (.ret,s1)
   |none=>none
def codeA{P:Program}(E:Env P)(F:CallF)(n f:Nat):Code→St→Option (Ex×St)
 | .skip,s=>some (.nor,s)
 | .region id ops draw,s=>match regionA E F n f id ops draw s with
   |some s'=>some (.nor,s')
   |none=>none
 | .seq a b,s=>match codeA E F n f a s with
   |some (.nor,s1)=>codeA E F n f b s1
   |some (.exi id,s1)=>some (.exi id,s1)
   |some (.ret,s1)=>some (.ret,s1)
   |none=>none
 | .cond c x y,s=>match aev s.ρ c with
   |some (.bool true)=>codeA E F n f x s
   |some (.bool false)=>codeA E F n f y s
   |_=>none
 | .block id c,s=>match codeA E F n f c s with
   |some (.exi j,s1)=>bif Nat.beq j id then some (.nor,s1)else some (.exi j,s1)
   |some (.nor,s1)=>some (.nor,s1)
   |some (.ret,s1)=>some (.ret,s1)
   |none=>none
 | .loop c,s=>loopA (codeA E F n f c) (E.live f) E.fuel s
 | .exit id,s=>some (.exi id,s)
 | .ret,s=>some (.ret,s)
 |_,_=>none
def resA(P:Program)(s:St):List ResultVar→Option (List AV)
 |[]=>some []
 | .tmp t::r=>match alook s.ρ t,resA P s r with
   |some v,some l=>some (v::l)
   |_,_=>none
 | .cell t ty::r=>match readA P s.ρ s.M (.load ty (.tmp t)),resA P s r with
   |some v,some l=>some (v::l)
   |_,_=>none
def packA:List AV→AV
 |[v]=>v
 |l=> .tup l
def slotsA:Nat→List AV→ASlots
 |_,[]=>[]
 |k,v::r=>(k,v)::slotsA (k+1) r
def dropM(mode k:Nat)(M:List MC):List MC:=
 match mode with
 |0=>M
 |1=>M.filter fun c=>Nat.blt c.i k||(match c.kd with| .box _=>false| .maps _=>false|_=>true)
 |_=>M.filter fun c=>Nat.blt c.i k
def funA{P:Program}(E:Env P)(F:CallF)(f:Nat)(vs:List AV)(M:List MC)(k:Nat):Option (AV×List MC×Nat):=
 match P.funcs[f]? with
 | some fn=>match fn.body with
   | some c=>bif Nat.ble vs.length fn.ntmps then(match codeA E F fn.ntmps f c ⟨slotsA 0 vs,M,k⟩with
     |some (.exi _,_)=>none
     | some (_,s)=>match resA P s fn.results.toList with
       |some l=>some (packA l,dropM (E.drop f) k s.M,s.k)
       |none=>none
     |none=>none)else none
   |none=>none
 |none=>none
def callA{P:Program}(E:Env P)(O:CallF):Nat→CallF
 |0,_,_,_,_=>none
 | d+1,f,vs,M,k=>match O f vs M k with
   |some r=>some r
   |none=>funA E (callA E O d) f vs M k
section
variable{P:Program}{E:Env P}{F:CallF}{C:Cx}{σ:Nat→Nat}{s s':St}{Q:Exit→Act→World→Prop}{f k:Nat}
theorem regionA_to(hF:CallsOk P F){id:Nat}{ops:Array Oper}{draw:Bool}(hs:s.Good)(h:regionA E F C.n f id ops draw s=some s'):s'.Good∧s.k≤s'.k∧Goes C s s' (Q .normal) ((Code.region id ops draw).wp P Q):=by
 unfold regionA at h
 split at h
 · obtain⟨a,b,c⟩:=runL_to (Q:=Q) hF ops.toList s s' h hs
   exact⟨a,b,fun σ k=>To.g (l:=ops.toList) (c σ k)⟩
 · split at h
   · rename_i pl _
     obtain⟨a,b,c⟩:=planA_to hF pl ops.toList s s' h hs
     exact⟨a,b,fun σ k=>To.anyRegion (l:=ops.toList) E.mixed (c (Q .normal) σ k)⟩
   ·cases h
def CodeOk(C:Cx)(P:Program)(c:Code)(g:St→Option (Ex×St)):Prop:=
 ∀s e s',g s=some (e,s')→s.Good→s'.Good∧s.k≤s'.k∧∀Q,Goes C s s' (Q e.to) (c.wp P Q)
theorem loopA_to{c:Code}{g:St→Option (Ex×St)}{live:List Nat}(hg:CodeOk C P c g):∀(m:Nat) (s:St) (e:Ex) (s':St),loopA g live m s=some (e,s')→s.Good→s'.Good∧s.k≤s'.k∧∀Q,Goes C s s' (Q e.to) (Code.rounds P c Q m)
 |0,s,e,s',h,_=>by cases h
 | m +1,s,e,s',h,hs=>by
   unfold loopA at h
   have hs0:St.Good ⟨keepL s.ρ live,s.M,s.k⟩:=⟨hs.big,keepL_bel hs.sl _,hs.me⟩
   have pre:∀{K' K:Act→World→Prop} {s1:St},Goes C ⟨keepL s.ρ live,s.M,s.k⟩ s1 K' K→Goes C s s1 K' K:=fun hh σ k=>To.sub _ (keepL_subs live) (hh σ k)
   split at h
   · rename_i s1 h1
     obtain⟨a,b,c1⟩:=hg _ _ _ h1 hs0
     obtain⟨a',b',c2⟩:=loopA_to hg m s1 e s' h a
     exact⟨a',Nat.le_trans b b',fun Q=>pre (Goes.trans b (c1 (Exit.then (Code.rounds P c Q m) Q)) (c2 Q))⟩
   · rename_i id s1 h1
     cases h
     obtain⟨a,b,c1⟩:=hg _ _ _ h1 hs0
     exact⟨a,b,fun Q=>pre (c1 (Exit.then (Code.rounds P c Q m) Q))⟩
   · rename_i s1 h1
     cases h
     obtain⟨a,b,c1⟩:=hg _ _ _ h1 hs0
     exact⟨a,b,fun Q=>pre (c1 (Exit.then (Code.rounds P c Q m) Q))⟩
   ·cases h
theorem codeA_to(hF:CallsOk P F):∀(c:Code),CodeOk C P c (codeA E F C.n f c)
 | .skip=>fun s e s' h hs=>by simp only[codeA,Option.some.injEq,Prod.mk.injEq]at h;obtain⟨rfl,rfl⟩:=h;exact⟨hs,Nat.le_refl _,fun Q σ k=>To.sp (k σ fun _ _=>rfl)⟩
 | .region id ops draw=>fun s e s' h hs=>by
   simp only[codeA]at h
   split at h
   · rename_i s1 h1
     cases h
     have h0:=fun Q=>regionA_to (C:=C) (Q:=Q) hF hs h1
     exact⟨(h0 fun _ _ _=>True).1,(h0 fun _ _ _=>True).2.1,fun Q=>(h0 Q).2.2⟩
   ·cases h
 | .seq a b=>fun s e s' h hs=>by
   simp only[codeA]at h
   split at h
   · rename_i s1 h1
     obtain⟨g1,g2,g3⟩:=codeA_to hF a s _ _ h1 hs
     obtain⟨k1,k2,k3⟩:=codeA_to hF b s1 _ _ h g1
     exact⟨k1,Nat.le_trans g2 k2,fun Q σ k=>To.s (Goes.trans g2 (g3 (Exit.then (b.wp P Q) Q)) (k3 Q) σ k)⟩
   · rename_i id s1 h1
     cases h
     obtain⟨g1,g2,g3⟩:=codeA_to hF a s _ _ h1 hs
     exact⟨g1,g2,fun Q σ k=>To.s (g3 (Exit.then (b.wp P Q) Q) σ k)⟩
   · rename_i s1 h1
     cases h
     obtain⟨g1,g2,g3⟩:=codeA_to hF a s _ _ h1 hs
     exact⟨g1,g2,fun Q σ k=>To.s (g3 (Exit.then (b.wp P Q) Q) σ k)⟩
   ·cases h
 | .cond c x y=>fun s e s' h hs=>by
   simp only[codeA]at h
   split at h
   · rename_i hc
     obtain⟨g1,g2,g3⟩:=codeA_to hF x s _ _ h hs
     exact⟨g1,g2,fun Q σ k=>To.condT (evv (σ:=σ) hc) (g3 Q σ k)⟩
   · rename_i hc
     obtain⟨g1,g2,g3⟩:=codeA_to hF y s _ _ h hs
     exact⟨g1,g2,fun Q σ k=>To.condF (evv (σ:=σ) hc) (g3 Q σ k)⟩
   ·cases h
 | .block id c=>fun s e s' h hs=>by
   simp only[codeA]at h
   split at h
   · rename_i j s1 h1
     obtain⟨g1,g2,g3⟩:=codeA_to hF c s _ _ h1 hs
     cases hj:Nat.beq j id with
     | true=>
       rw[hj]at h;cases h
       have e0:=Nat.eq_of_beq_eq_true hj
       subst e0
       exact⟨g1,g2,fun Q σ k=>To.b (g3 (Exit.inBlock j Q) σ fun σ' he=>To.bx (k σ' he))⟩
     | false=>
       rw[hj]at h;cases h
       exact⟨g1,g2,fun Q σ k=>To.b (g3 (Exit.inBlock id Q) σ fun σ' he=>To.blockY hj (k σ' he))⟩
   · rename_i s1 h1
     cases h
     obtain⟨g1,g2,g3⟩:=codeA_to hF c s _ _ h1 hs
     exact⟨g1,g2,fun Q σ k=>To.b (g3 (Exit.inBlock id Q) σ k)⟩
   · rename_i s1 h1
     cases h
     obtain⟨g1,g2,g3⟩:=codeA_to hF c s _ _ h1 hs
     exact⟨g1,g2,fun Q σ k=>To.b (g3 (Exit.inBlock id Q) σ k)⟩
   ·cases h
 | .loop c=>fun s e s' h hs=>by
   simp only[codeA]at h
   obtain⟨a,b,d⟩:=loopA_to (codeA_to hF c) E.fuel s e s' h hs
   exact⟨a,b,fun Q σ k=>To.rounds E.fuel (d Q σ k)⟩
 | .exit id=>fun s e s' h hs=>by simp only[codeA,Option.some.injEq,Prod.mk.injEq]at h;obtain⟨rfl,rfl⟩:=h;exact⟨hs,Nat.le_refl _,fun Q σ k=>To.ex (k σ fun _ _=>rfl)⟩
 | .ret=>fun s e s' h hs=>by simp only[codeA,Option.some.injEq,Prod.mk.injEq]at h;obtain⟨rfl,rfl⟩:=h;exact⟨hs,Nat.le_refl _,fun Q σ k=>To.rt (k σ fun _ _=>rfl)⟩
 | .rangeFunc _ _ _ _=>fun s e s' h hs=>by simp[codeA]at h
 | .scope _=>fun s e s' h hs=>by simp[codeA]at h
 | .label _=>fun s e s' h hs=>by simp[codeA]at h
 | .goto _=>fun s e s' h hs=>by simp[codeA]at h
 | .refuse _=>fun s e s' h hs=>by simp[codeA]at h
theorem resA_bel(hs:s.Good):∀{rs:List ResultVar} {l:List AV},resA P s rs=some l→bels s.k l
 |[],l,h=>by simp only[resA,Option.some.injEq]at h;subst h;simp only[bels]
 | .tmp t::r,l,h=>by
   unfold resA at h
   split at h
   · rename_i v l' hv hl
     cases h
     simp only[bels]
     exact⟨bel_look hs.sl hv,resA_bel hs hl⟩
   ·cases h
 | .cell t ty::r,l,h=>by
   unfold resA at h
   split at h
   · rename_i v l' hv hl
     cases h
     simp only[bels]
     exact⟨(readA_ok (o:=⟨none, .load ty (.tmp t),0, "",#[],none⟩) hs.big hs.sl hs.me hv).1,resA_bel hs hl⟩
   ·cases h
def resF(a:Act):ResultVar→Sem Value
 | .tmp t=>pure (a.tmps.getD t undef)
 | .cell t ty=>do loadVar ty (←asAddr (a.tmps.getD t undef))
theorem asAddr_some(x:Addr):asAddr (.pointer (some x))=pure x:=rfl
theorem resA_run(hs:s.Good){a:Act}{w:World}(ha:Sees (inst σ s.ρ) a)(hw:oks (mem σ s.M) w):∀{rs:List ResultVar} {l:List AV},resA P s rs=some l→
    (rs.mapM (resF a)).run P w= .ok (vals σ l) w
 |[],l,h=>by simp only[resA,Option.some.injEq]at h;subst h;rfl
 | .tmp t::r,l,h=>by
   unfold resA at h
   split at h
   · rename_i v l' hv hl
     cases h
     have h1:a.tmps.getD t undef=val σ v:=by rw[Array.getD_eq_getD_getElem?,ha t _ (look_inst σ hv)];rfl
     rw[List.mapM_cons]
     simp only[Sem.run_bind,Sem.run_pure,Result.andThen_ok,resF,h1,resA_run hs ha hw hl,vals]
   ·cases h
 | .cell t ty::r,l,h=>by
   unfold resA at h
   split at h
   · rename_i v l' hv hl
     cases h
     have h2:=(readA_ok (o:=⟨none, .load ty (.tmp t),0, "",#[],none⟩) hs.big hs.sl hs.me hv).2 σ a w ha hw
     simp only[readA]at hv
     split at hv
     · rename_i i q hx
       have hx':ev (inst σ s.ρ) (.tmp t)=some (.pointer (some ⟨bl σ i,q,none⟩)):=evv hx
       have h3:a.tmps.getD t undef= .pointer (some ⟨bl σ i,q,none⟩):=by rw[Array.getD_eq_getD_getElem?,ha t _ hx'];rfl
       have h4:(loadVar ty ⟨bl σ i,q,none⟩).run P w= .ok (val σ v) w:=by
        unfold execOp at h2
        have h5:a.eval (.tmp t)= .pointer (some ⟨bl σ i,q,none⟩):=h3
        simp only[h5,Instr.loadAt,Instr.sureAddr,Sem.run_bind,Sem.run_pure,Result.andThen_ok]at h2
        cases hr:(loadVar ty ⟨bl σ i,q,none⟩).run P w with
        |ok v2 w2=>rw[hr]at h2;simp at h2;rw[h2.1,h2.2]
        |halt hh w2=>rw[hr]at h2;simp[Result.andThen]at h2
       rw[List.mapM_cons]
       simp only[Sem.run_bind,Sem.run_pure,Result.andThen_ok,resF,h3,asAddr_some,h4,resA_run hs ha hw hl,vals]
     ·cases hv
   ·cases h
theorem packA_val{l:List AV}:(if h:(vals σ l).toArray.size=1 then(vals σ l).toArray[0]else .tuple (vals σ l).toArray)=val σ (packA l):=by
 match l with
 |[]=>simp[packA,vals,val]
 |[v]=>simp[packA,vals]
 |u::v::r=>simp[packA,vals,val]
theorem packA_bel{l:List AV}(h:bels k l):bel k (packA l):=by
 match l with
 |[]=>simp only[packA,bel,bels]
 |[v]=>simp only[bels]at h;exact h.1
 |u::v::r=>simp only[packA,bel];exact h
theorem slotsA_inst:∀(l:List AV) (i:Nat),inst σ (slotsA i l)=slotsOf i (vals σ l)
 |[],_=>rfl
 | v::r,i=>by
   show(i,val σ v)::inst σ (slotsA (i+1) r)=_
   rw[slotsA_inst r (i+1)];rfl
theorem slotsA_bel:∀{l:List AV} (i:Nat),bels k l→belS k (slotsA i l)
 |[],_,_=>fun p hp=>by cases hp
 | v::r,i,h=>by
   simp only[bels]at h
   exact belS_cons h.1 (slotsA_bel (i+1) h.2)
theorem results_run{fn:Func}(hs:s.Good){a:Act}{w:World}(ha:Sees (inst σ s.ρ) a)(hw:oks (mem σ s.M) w){l:List AV}(h:resA P s fn.results.toList=some l):(results fn a.tmps).run P w= .ok (val σ (packA l)) w:=by
 have h1:=resA_run hs ha hw h
 have e:results fn a.tmps=(fn.results.mapM (resF a)>>=fun vs=>pure (if h:vs.size=1 then vs[0]else .tuple vs)):=rfl
 have e2:∀x:Sem (List Value),(List.toArray<$>x:Sem (Array Value))=(x>>=fun l=>pure l.toArray):=fun _=>rfl
 rw[e,Array.mapM_eq_mapM_toList,e2]
 simp only[Sem.run_bind,h1,Result.andThen_ok,Sem.run_pure,packA_val]
theorem dropM_bel{mode k k':Nat}{M:List MC}(h:belM k M):belM k (dropM mode k' M):=by
 unfold dropM
 split
 ·exact h
 ·exact belM_filter h
 ·exact belM_filter h
theorem dropM_does{mode k k':Nat}{M:List MC}{vs:List Value}{Γ:List Chunk}{v:AV}(h:Does P f vs Γ (Outs k σ v M)):Does P f vs Γ (Outs k σ v (dropM mode k' M)):=by
 unfold dropM
 split
 ·exact h
 ·exact Does.keep h
 ·exact Does.keep h
theorem funA_ok(hF:CallsOk P F):CallsOk P (funA E F):=fun f vs M k v M' k' h hbig hvs hM=>by
 unfold funA at h
 split at h
 · rename_i fn hfn
   split at h
   · rename_i c hc
     cases hl:Nat.ble vs.length fn.ntmps with
     |false=>rw[hl]at h;cases h
     | true=>
       rw[hl]at h;simp only[cond_true]at h
       have hs0:St.Good ⟨slotsA 0 vs,M,k⟩:=⟨hbig,slotsA_bel 0 hvs,hM⟩
       split at h
       ·cases h
       · rename_i e s hne hco
         split at h
         · rename_i l hr
           cases h
           have hco':=fun C (hn:C.n=fn.ntmps)=>codeA_to (C:=C) (E:=E) (f:=f) hF c ⟨slotsA 0 vs,M,k⟩ e s (by rw[hn];exact hco)
           obtain⟨g1,g2,_⟩:=hco' ⟨fn.ntmps,[],default,[]⟩ rfl hs0
           refine⟨g2,packA_bel (resA_bel g1 hr),dropM_bel g1.me,fun σ=>dropM_does ?_⟩
           refine Does.enter hfn hc rfl (by rw[vals_len];exact hl) fun w=>?_
           obtain⟨_,_,g3⟩:=hco' ⟨fn.ntmps,mem σ M,w,[]⟩ rfl hs0
           have g4:=g3 (bodyPost P fn (Fin ⟨fn.ntmps,mem σ M,w,[]⟩ (Outs k σ (packA l) s.M))) σ
           rw[←slotsA_inst]
           refine g4 fun σ' he=>?_
           refine To.ends ?_ (fun a w' ha hw=>results_run g1 ha.sees hw.each hr) ⟨σ',he,rfl,rfl⟩
           cases e with
           |nor=>exact .inr rfl
           |ret=>exact .inl rfl
           |exi id=>exact absurd rfl (hne id)
         ·cases h
       ·cases h
   ·cases h
 ·cases h
theorem callA_ok{O:CallF}(hO:CallsOk P O):∀d,CallsOk P (callA E O d)
 |0=>fun _ _ _ _ _ _ _ h=>by cases h
 | d+1=>fun f vs M k v M' k' h hbig hvs hM=>by
   unfold callA at h
   split at h
   ·rename_i r hr;cases h;exact hO _ _ _ _ _ _ _ hr hbig hvs hM
   ·exact funA_ok (callA_ok hO d) _ _ _ _ _ _ _ h hbig hvs hM
end
end Go.In
namespace Go.Sep
open Go.RowKit Go.Flow Go.Mem Go.In
theorem Rd.lenB{P:Program}{o:Oper}{ρ:Slots}{Γ:List Chunk}{x:Operand}{t:TypeId}{s:List Nat}(ho:o.op= .call {callee:= .builtin .len,args:=#[x],argTypes:=#[t]})(ht:P.underlying t=some .string)(hx:ev ρ x=some (.string (bytesOf s))):Rd P o ρ Γ (nv s.length):=fun a w ha _=>by
 unfold execOp
 simp[ho,resolve,invoke,builtin,ha.eval hx,Builtin.len_,run_underlying ht,goInt,bytes_size]
theorem Rd.strLo{P:Program}{o:Oper}{ρ:Slots}{Γ:List Chunk}{x y:Operand}{t:TypeId}{s:List Nat}{a:Nat}{k:IntKind}(ho:o.op= .slice t x (some y) none none)(ht:P.underlying t=some .string)(hx:ev ρ x=some (.string (bytesOf s)))(hy:ev ρ y=some (.int k (a:Int)))(h:a≤s.length):Rd P o ρ Γ (.string (bytesOf (s.drop a))):=by
 have:=In.Rd.strSl (P:=P) (Γ:=Γ) (a:=a) (b:=s.length) ho ht hx ⟨k,hy⟩ rfl h (Nat.le_refl _)
 rwa[List.take_of_length_le (by rw[List.length_drop];exact Nat.le_refl _)]at this
theorem Rd.strLH{P:Program}{o:Oper}{ρ:Slots}{Γ:List Chunk}{x y z:Operand}{t:TypeId}{s:List Nat}{a b:Nat}{k k':IntKind}(ho:o.op= .slice t x (some y) (some z) none)(ht:P.underlying t=some .string)(hx:ev ρ x=some (.string (bytesOf s)))(hy:ev ρ y=some (.int k (a:Int)))(hz:ev ρ z=some (.int k' ((a+b:Nat):Int)))(h:a+b≤s.length):Rd P o ρ Γ (.string (bytesOf ((s.drop a).take b))):=by
 have:=In.Rd.strSl (P:=P) (Γ:=Γ) (a:=a) (b:=a+b) ho ht hx ⟨k,hy⟩ ⟨k',hz⟩ (by omega) h
 rwa[show a+b-a=b by omega]at this
def gone(D:Nat):Chunk where
 owns:=[D]
 reads:=[]
 holds w:=D<w.heap.size
 loc w w' h hw:=by
  have:=h D (.inl (by simp))
  rw[Array.getElem?_eq_getElem hw]at this
  exact(Array.getElem?_eq_some_iff.1 this).1
 lt w hw g hg:=by simp at hg;rw[hg];exact hw
theorem To.endMT{P:Program}{C:Cx}{ρ:Slots}{Γ:List Chunk}{R:Value→List Chunk→Prop}{fn:Func}{ex:Exit}{t D:Nat}{v:Value}{n0:Nat}{Γ0:List Chunk}{w0:World}(hex:ex= .ret∨ex= .normal)(hres:fn.results=#[.tmp t])(hv:look ρ t=some v)
    (hds:C.ds=[mark D]) (h0:C=⟨n0,Γ0,w0,C.ds⟩) (h:R v Γ):To C ρ (dfr D::Γ) (bodyPostM Fence.wide 0 P fn (Fin ⟨n0,Γ0,w0,[]⟩ R) ex):=fun a w ha hp=>by
 have hD:w.heap[D]?=some (.deferred (some [])):=hp.sat.each _ (List.mem_cons_self ..)
 have key:LeavesInM Fence.wide 0 P fn a.tmps (Fin ⟨n0,Γ0,w0,[]⟩ R) a.defers .returning w:=by
  rw[ha.defers,hds]
  refine⟨by simp, .inl ⟨D,_,rfl,run_takeDeferred hD,?_⟩⟩
  refine⟨v,?_,v,Γ,rfl,h,?_⟩
  ·rw[results_tmp hres,Array.getD_eq_getD_getElem?,ha.sees t v hv];rfl
  · have e1:C.Γ0=Γ0∧C.w0=w0:=by rw[h0];exact⟨rfl,rfl⟩
    have q:=post_putObj (c':=gone D) hp.sat rfl rfl rfl (by show D<_;rw[World.putObj_size];exact(Array.getElem?_eq_some_iff.1 hD).1) (o:= .deferred none)
    have q2:Post (dfr D::Γ) (Γ++[gone D]) w (w.putObj D (.deferred none)):=q.perm (List.perm_append_comm (l₁:=[_]))
    have:=hp.trans q2.drop
    rw[e1.1,e1.2]at this
    exact this
 rcases hex with rfl|rfl
 ·exact key
 ·exact key
end Go.Sep
namespace Go.In
abbrev Tok:=Nat×List Nat×Nat
def trcF(rdA:List Nat→Option (Nat×Nat))(skA:List Nat→Option Nat):Nat→List Nat→Nat→Option (List Tok)
 |0,_,_=>none
 | n + 1,s,off=>bif Nat.blt off s.length then(match rdA (s.drop off)with
   | some (k,m)=>bif Nat.ble (off+m) s.length then(match skA (s.drop (off+m))with
     | some q=>bif Nat.ble (off+m+q) s.length then(match trcF rdA skA n s (off+m+q)with
       |some l=>some ((k,(s.drop off).take m,off)::l)
       |none=>none)else none
     |none=>none)else none
   |none=>none)else some []
theorem trcF_more{rdA:List Nat→Option (Nat×Nat)}{skA:List Nat→Option Nat}{n:Nat}{s:List Nat}{off:Nat}{l:List Tok}(h:trcF rdA skA n s off=some l)(hlt:off<s.length):∃n' k m q l',n=n'+1∧rdA (s.drop off)=some (k,m)∧off+m≤s.length∧skA (s.drop (off+m))=some q∧off+m+q≤s.length∧trcF rdA skA n' s (off+m+q)=some l'∧l=(k,(s.drop off).take m,off)::l':=by
 cases n with
 |zero=>cases h
 | succ n=>
   unfold trcF at h
   rw[show Nat.blt off s.length=true from Nat.ble_eq_true_of_le hlt]at h
   simp only[cond_true]at h
   split at h
   · rename_i k m h1
     cases h2:Nat.ble (off+m) s.length with
     |false=>rw[h2]at h;cases h
     | true=>
       rw[h2]at h;simp only[cond_true]at h
       split at h
       · rename_i q h3
         cases h4:Nat.ble (off+m+q) s.length with
         |false=>rw[h4]at h;cases h
         | true=>
           rw[h4]at h;simp only[cond_true]at h
           split at h
           · rename_i l' h5
             cases h
             exact⟨n,k,m,q,l',rfl,h1,Nat.le_of_ble_eq_true h2,h3,Nat.le_of_ble_eq_true h4,h5,rfl⟩
           ·cases h
       ·cases h
   ·cases h
theorem trcF_end{rdA:List Nat→Option (Nat×Nat)}{skA:List Nat→Option Nat}{n:Nat}{s:List Nat}{off:Nat}{l:List Tok}(h:trcF rdA skA n s off=some l)(hge:¬off<s.length):l=[]:=by
 cases n with
 |zero=>cases h
 | succ n=>
   unfold trcF at h
   have:Nat.blt off s.length=false:=by
    cases hb:Nat.blt off s.length with
    |false=>rfl
    |true=>exact absurd (Nat.le_of_ble_eq_true hb) hge
   rw[this]at h
   cases h;rfl
end Go.In
