/- Own text. -/
import Derived.Orders
import Derived.Below
import Derived.Tactics
import Derived.Tactics2
import Derived.Deep.MidRow
import Derived.Maps.AppendAt
import Derived.Laws.OwnMore
import Derived.Deep.AppendLies
import Derived.RegionTactic
import Derived.OwnWalk
import Derived.OneCell
import Derived.Deep.LoopGhost
import Derived.Great.BuildSlice
import Derived.WalkKit
import Derived.WalkLawsBesides
import Derived.WalkSpells
import Derived.Laws.MakeOwn
set_option linter.unusedVariables false
set_option linter.unusedSimpArgs false
namespace Go.Flow
open Go.RowKit
structure Ext(w w':World):Prop extends Below w.heap.size w w' where
 drawn:w.drawn≤w'.drawn
theorem Ie(w:World):Ext w w:=⟨Below.refl _ _,Nat.le_refl _⟩
theorem Ext.tr{a b c:World}(h:Ext a b)(k:Ext b c):Ext a c:=
 ⟨⟨k.os.trans h.os,k.tape.trans h.tape,k.output.trans h.output,Nat.le_trans h.size k.size,fun i hi=>(k.block i (Nat.lt_of_lt_of_le hi h.size)).trans (h.block i hi)⟩,Nat.le_trans h.drawn k.drawn⟩
structure Ep where
 i:Nat
 deps:List Nat
 kind:Nat
def vX(P:Program)(K:Value→World→Prop):Result Next→Prop
 | .ok (.value v) w'=>K v w'
 | .ok .skip w'=>K undef w'
 | .ok (.enter f args) w'=>Calls P f args w' fun e w''=>∃v,e= .returned v∧K v w''
 | .ok (.row row args) w'=>Rows P row args w' K
 |_=>False
def Wl(K:Value→World→Prop):Result Next→Prop
 | .ok (.value v) w'=>K v w'
 | .ok .skip w'=>K undef w'
 |_=>False
def Hm(P:Program)(ops:Array Oper)(o:Oper)(a:Act)(w:World)(K:Value→World→Prop):Prop:=
 if Region.wanted o (yielded ops a.tmps)=true then vX P K ((execOp a.eval o).run P w)else K undef w
def Lb(P:Program)(ops:Array Oper)(o:Oper)(a:Act)(w:World)(K:Value→World→Prop):Prop:=
 if Region.wanted o (yielded ops a.tmps)=true then Wl K ((execOp a.eval o).run P w)else K undef w
abbrev Tel:=Nat→Option (World→Value→World→Prop)
def noT:Tel:=fun _=>none
def Gy(T:Tel)(i:Nat)(P:Program)(ops:Array Oper)(o:Oper)(a:Act)(w:World)(K:Value→World→Prop):Prop:=
 match T i with
 |none=>Hm P ops o a w K
 |some t=>Hm P ops o a w (t w)∧∀v w',t w v w'→K v w'
def Rh(h:List (Nat×World×World)):Prop:=∀p∈h,∀q∈h,p.1≠q.1→Ext p.2.2 q.2.1∨Ext q.2.2 p.2.1
def Flow(P:Program)(T:Tel)(ops:Array Oper)(S:World→Prop)(Q:Act→World→Prop):List (Oper×Ep)→Act→World→List (Nat×World×World)→Prop
 |[],a,b,h=>∀w,Ext b w→S w→(∀p∈h,Ext p.2.2 w)→Rh h→Q a w
 | (o,m)::rest,a,b,h=>
   match m.kind with
   |0=>∃v,(∀w,S w→Lb P ops o a w fun v' w'=>v'=v∧w'=w)∧Flow P T ops S Q rest (a.put o.dst v) b h
   |1=>∀w,Ext b w→S w→(∀p∈h,p.1∈m.deps→Ext p.2.2 w)→Lb P ops o a w fun v w'=>Ext w w'∧Flow P T ops S Q rest (a.put o.dst v) b h
   |2=>∀w,Ext b w→S w→(∀p∈h,p.1∈m.deps→Ext p.2.2 w)→Lb P ops o a w fun v w'=>Ext w w'∧Flow P T ops S Q rest (a.put o.dst v) b ((m.i,w,w')::h)
   |3=>∀w,Ext b w→S w→(∀p∈h,p.1∈m.deps→Ext p.2.2 w)→Gy T m.i P ops o a w fun v w'=>Ext w w'∧Flow P T ops S Q rest (a.put o.dst v) b h
   |4=>∀w,Ext b w→S w→(∀p∈h,p.1∈m.deps→Ext p.2.2 w)→Gy T m.i P ops o a w fun v w'=>Ext w w'∧Flow P T ops S Q rest (a.put o.dst v) b ((m.i,w,w')::h)
   |_=>∀w,Ext b w→S w→(∀p∈h,Ext p.2.2 w)→Rh h→Gy T m.i P ops o a w fun v w'=>S w'∧Flow P T ops S Q rest (a.put o.dst v) w' []
theorem pI{ops:Array Oper}{o:Oper}(hs:∀cs b,o.op≠ .select cs b){a a':Act}(h:∀t∈o.looksAt ops,a.tmps[t]?=a'.tmps[t]?):
    execOp a.eval o=execOp a'.eval o∧Region.wanted o (yielded ops a.tmps)=Region.wanted o (yielded ops a'.tmps):=by
 constructor
 · refine execOp_congr o hs fun x hx=>?_
   cases x with
   | tmp t=>
     have:=h t (List.mem_append_left _ (List.mem_filterMap.2 ⟨.tmp t,by simpa using hx,rfl⟩));simp only[Act.eval,Array.getD_eq_getD_getElem?,this]
   |const v=>rfl
   |global g=>rfl
   |func f=>rfl
 · unfold Region.wanted
   cases hg:o.guard with
   |none=>rfl
   | some gw=>
     obtain⟨g,want⟩:=gw;have hy:yielded ops a.tmps g=yielded ops a'.tmps g:=by
      unfold yielded;cases ht:(ops[g]?).bind (·.dst)with
      |none=>rfl
      | some t=>
        have:=h t (List.mem_append_right _ (by simp[hg,ht]));simp only[Option.bind_some,this]
     simp only[hy]
theorem Lb.same{P:Program}{ops:Array Oper}{o:Oper}(hs:∀cs b,o.op≠ .select cs b){a a':Act}(h:∀t∈o.looksAt ops,a.tmps[t]?=a'.tmps[t]?){w:World}{K:Value→World→Prop}
    (k:Lb P ops o a w K):Lb P ops o a' w K:=by
 obtain⟨h1,h2⟩:=pI hs h;unfold Lb at*;rw[←h1,←h2];exact k
theorem Hm.same{P:Program}{ops:Array Oper}{o:Oper}(hs:∀cs b,o.op≠ .select cs b){a a':Act}(h:∀t∈o.looksAt ops,a.tmps[t]?=a'.tmps[t]?){w:World}{K:Value→World→Prop}
    (k:Hm P ops o a w K):Hm P ops o a' w K:=by
 obtain⟨h1,h2⟩:=pI hs h;unfold Hm at*;rw[←h1,←h2];exact k
theorem jQ{K:Value→World→Prop}{r:Result Next}(h:Wl K r):∃v w,K v w∧∀K',Wl K' r↔K' v w:=by
 unfold Wl at*;split at h
 ·rename_i v w;exact⟨v,w,h,fun K'=>Iff.rfl⟩
 ·rename_i w;exact⟨undef,w,h,fun K'=>Iff.rfl⟩
 ·exact h.elim
theorem Lb.one{P:Program}{ops:Array Oper}{o:Oper}{a:Act}{w:World}{K:Value→World→Prop}(k:Lb P ops o a w K):
    ∃v w',K v w'∧∀K',Lb P ops o a w K'↔K' v w':=by
 unfold Lb at*;split at k
 · rename_i hw
   obtain⟨v,w',h1,h2⟩:=jQ k;exact⟨v,w',h1,fun K'=>by rw[if_pos hw];exact h2 K'⟩
 · rename_i hw
   exact⟨undef,w,k,fun K'=>by rw[if_neg hw]⟩
theorem Lb.op{P:Program}{ops:Array Oper}{o:Oper}{a:Act}{w:World}{K:Value→World→Prop}(k:Lb P ops o a w K):Hm P ops o a w K:=by
 unfold Lb at k;unfold Hm;split at k
 · rename_i hw
   rw[if_pos hw];unfold Wl at k;split at k
   ·rename_i he;rw[he];exact k
   ·rename_i he;rw[he];exact k
   ·exact k.elim
 · rename_i hw
   rw[if_neg hw];exact k
theorem Hm.some_{P:Program}{ops:Array Oper}{o:Oper}{a:Act}{w:World}{K:Value→World→Prop}(k:Hm P ops o a w K):∃v w',K v w':=by
 unfold Hm at k;split at k
 · unfold vX at k
   split at k
   ·exact⟨_,_,k⟩
   ·exact⟨_,_,k⟩
   · obtain⟨e,w',fr,⟨v,_,hv⟩,_⟩:=k []
     exact⟨v,w',hv⟩
   · obtain⟨v,w',hv,_⟩:=k default []
     exact⟨v,w',hv⟩
   ·exact k.elim
 ·exact⟨_,_,k⟩
theorem Hm.wpOp{P:Program}{ops:Array Oper}{Q:Exit→Act→World→Prop}{i:Nat}{o:Oper}(ho:ops[i]?=some o){a:Act}{w:World}{K:Value→World→Prop}{K':Act→World→Prop}
    (k:Hm P ops o a w K) (hk:∀v w',K v w'→K' (a.put o.dst v) w'):wpOp P ops Q i K' a w:=by
 unfold Go.wpOp;simp only[ho];unfold Hm at k;split at k
 · rename_i hw
   rw[if_pos hw];refine .inl ?_;unfold Oper.wp;unfold vX at k;split at k
   ·rename_i he;rw[he];exact hk _ _ k
   ·rename_i he;rw[he];exact hk _ _ k
   · rename_i he;rw[he]
     refine Calls.mono k fun e w'' hh=>?_;obtain⟨v,rfl,hv⟩:=hh;exact hk _ _ hv
   · rename_i he;rw[he]
     exact Rows.mono k fun v w'' hv=>hk _ _ hv
   ·exact k.elim
 · rename_i hw
   rw[if_neg hw];exact hk _ _ k
theorem Hm.mono{P:Program}{ops:Array Oper}{o:Oper}{a:Act}{w:World}{K K':Value→World→Prop}(k:Hm P ops o a w K)(hk:∀v w',K v w'→K' v w'):Hm P ops o a w K':=by
 unfold Hm at k⊢;split
 · rename_i hw
   rw[if_pos hw]at k;unfold vX at k⊢;split at k
   ·exact hk _ _ k
   ·exact hk _ _ k
   ·exact Calls.mono k fun e w'' ⟨v,h1,h2⟩=>⟨v,h1,hk _ _ h2⟩
   ·exact Rows.mono k fun v w'' hv=>hk _ _ hv
   ·exact k.elim
 · rename_i hw
   rw[if_neg hw]at k;exact hk _ _ k
def OpI(P:Program)(ops:Array Oper)(i:Nat)(K:Act→World→Prop)(a:Act)(w:World):Prop:=
 ∃o,ops[i]?=some o∧Hm P ops o a w fun v w'=>K (a.put o.dst v) w'
theorem OpI.mono{P:Program}{ops:Array Oper}{i:Nat}{a:Act}{w:World}{K K':Act→World→Prop}(k:OpI P ops i K a w)(hk:∀a w,K a w→K' a w):OpI P ops i K' a w:=by
 obtain⟨o,h1,h2⟩:=k;exact⟨o,h1,h2.mono fun v w' h=>hk _ _ h⟩
def Ni(P:Program)(ops:Array Oper)(Q:Act→World→Prop):Nat→Array Bool→Act→World→Prop
 |0,listed,a,w=>Region.ready .any ops listed=[]∧Q a w
 |fuel+1,listed,a,w=>(Region.ready .any ops listed=[]→Q a w)∧∀i∈Region.ready .any ops listed,OpI P ops i (Ni P ops Q fuel (listed.setIfInBounds i true)) a w
theorem Ni.any{P:Program}{ops:Array Oper}{Q:Act→World→Prop}{R:Exit→Act→World→Prop}(hR:∀a w,Q a w→R .normal a w):∀(fuel:Nat) (listed:Array Bool) (a:Act) (w:World),Ni P ops Q fuel listed a w→wpAny P .any ops R fuel listed a w
 |0,_,_,_,h=>⟨h.1,hR _ _ h.2⟩
 |fuel+1,_,a,w,h=>⟨fun hr=>hR _ _ (h.1 hr),fun i hi=>by
     obtain⟨o,h1,h2⟩:=h.2 i hi;exact h2.wpOp h1 fun v w' hv=>Ni.any hR fuel _ _ _ hv⟩
theorem Gy.op{T:Tel}{i:Nat}{P:Program}{ops:Array Oper}{o:Oper}{a:Act}{w:World}{K:Value→World→Prop}(k:Gy T i P ops o a w K):Hm P ops o a w K:=by
 unfold Gy at k;split at k
 ·exact k
 ·exact k.1.mono k.2
theorem Gy.mono{T:Tel}{i:Nat}{P:Program}{ops:Array Oper}{o:Oper}{a:Act}{w:World}{K K':Value→World→Prop}(k:Gy T i P ops o a w K)(hk:∀v w',K v w'→K' v w'):Gy T i P ops o a w K':=by
 unfold Gy at*;split
 ·rename_i h;rw[h]at k;exact k.mono hk
 ·rename_i t h;rw[h]at k;exact⟨k.1,fun v w' hv=>hk _ _ (k.2 v w' hv)⟩
theorem Hm.callTo{T:Tel}{i:Nat}(hT:T i=none){P:Program}{ops:Array Oper}{o:Oper}{a:Act}{w:World}{K:Value→World→Prop}(k:Hm P ops o a w K):Gy T i P ops o a w K:=by
 unfold Gy;rw[hT];exact k
theorem Gy.same{T:Tel}{i:Nat}{P:Program}{ops:Array Oper}{o:Oper}(hs:∀cs b,o.op≠ .select cs b){a a':Act}(h:∀t∈o.looksAt ops,a.tmps[t]?=a'.tmps[t]?){w:World}{K:Value→World→Prop}
    (k:Gy T i P ops o a w K):Gy T i P ops o a' w K:=by
 unfold Gy at*;split
 ·rename_i h1;rw[h1]at k;exact k.same hs h
 ·rename_i t h1;rw[h1]at k;exact⟨k.1.same hs h,k.2⟩
def vY(P:Program)(T:Tel)(ops:Array Oper)(i:Nat)(K:Act→World→Prop)(a:Act)(w:World):Prop:=
 ∃o,ops[i]?=some o∧Gy T i P ops o a w fun v w'=>K (a.put o.dst v) w'
theorem Gy.opI{T:Tel}{P:Program}{ops:Array Oper}{i:Nat}{o:Oper}(ho:ops[i]?=some o){a:Act}{w:World}{K:Value→World→Prop}{K':Act→World→Prop}
    (k:Gy T i P ops o a w K) (hk:∀v w',K v w'→K' (a.put o.dst v) w'):vY P T ops i K' a w:=⟨o,ho,k.mono hk⟩
theorem Hm.opT{T:Tel}{P:Program}{ops:Array Oper}{i:Nat}{o:Oper}(hT:T i=none)(ho:ops[i]?=some o){a:Act}{w:World}{K:Value→World→Prop}{K':Act→World→Prop}
    (k:Hm P ops o a w K) (hk:∀v w',K v w'→K' (a.put o.dst v) w'):vY P T ops i K' a w:=(k.callTo hT).opI ho hk
theorem vY.mono{P:Program}{T:Tel}{ops:Array Oper}{i:Nat}{a:Act}{w:World}{K K':Act→World→Prop}(k:vY P T ops i K a w)(hk:∀a w,K a w→K' a w):vY P T ops i K' a w:=by
 obtain⟨o,h1,h2⟩:=k;exact⟨o,h1,h2.mono fun v w' h=>hk _ _ h⟩
def aM(P:Program)(T:Tel)(ops:Array Oper)(Q:Act→World→Prop):Nat→Array Bool→Act→World→Prop
 |0,listed,a,w=>Region.ready .any ops listed=[]∧Q a w
 |fuel+1,listed,a,w=>(Region.ready .any ops listed=[]→Q a w)∧∀i∈Region.ready .any ops listed,vY P T ops i (aM P T ops Q fuel (listed.setIfInBounds i true)) a w
theorem aM.anyI{P:Program}{T:Tel}{ops:Array Oper}{Q:Act→World→Prop}:∀{fuel:Nat} {listed:Array Bool} {a:Act} {w:World},aM P T ops Q fuel listed a w→Ni P ops Q fuel listed a w
 |0,_,_,_,h=>h
 | _ +1,_,_,_,h=>⟨h.1,fun i hi=>by
     obtain⟨o,h1,h2⟩:=h.2 i hi;exact⟨o,h1,(h2.mono fun _ _ hv=>aM.anyI hv).op⟩⟩
def BO(T:Tel)(ms:List Ep):Bool:=ms.all fun m=>Nat.ble 3 m.kind||(T m.i).isNone
theorem Tm{T:Tel}{ms:List Ep}(h:BO T ms=true){m:Ep}(hm:m∈ms)(h3:m.kind<3):T m.i=none:=by
 have:=List.all_eq_true.1 h m hm;simp only[Bool.or_eq_true]at this;rcases this with h5|h5
 ·exact absurd (Nat.le_of_ble_eq_true h5) (by omega)
 ·exact Option.isNone_iff_eq_none.1 h5
theorem vZ(ms:List Ep):BO noT ms=true:=List.all_eq_true.2 fun m _=>by simp[noT]
def direct(o:Oper):List Nat:=(o.after.toList.filter (Region.binds .any)).map (·.on)
def Zm(o:Oper)(acc:List Nat):Nat:=(direct o).foldl (fun s k=>s|||(2^k|||acc.getD k 0)) 0
def Oj:List Oper→List Nat→List Nat
 |[],acc=>acc
 |o::r,acc=>Oj r (acc++[Zm o acc])
def anc(l:List Oper)(i j:Nat):Bool:=((Oj l []).getD i 0).testBit j
theorem oK(g:Nat→Nat)(ks:List Nat):∀(s j:Nat),(ks.foldl (fun s k=>s|||g k) s).testBit j=true→s.testBit j=true∨∃k∈ks,(g k).testBit j=true:=by
 induction ks with
 |nil=>intro s j h;exact .inl h
 | cons k ks ih=>
   intro s j h;rcases ih _ _ h with h|⟨k',hk',h⟩
   · rw[Nat.testBit_or,Bool.or_eq_true]at h
     rcases h with h|h
     ·exact .inl h
     ·exact .inr ⟨k,List.mem_cons_self,h⟩
   ·exact .inr ⟨k',List.mem_cons_of_mem _ hk',h⟩
theorem aN:∀(l:List Oper) (acc:List Nat),∃tl,Oj l acc=acc++tl∧tl.length=l.length∧
    ∀k o,l[k]?=some o→∀j,((Oj l acc).getD (acc.length+k) 0).testBit j=true→∃d∈direct o,d=j∨(d<acc.length+k∧((Oj l acc).getD d 0).testBit j=true):=by
 intro l
 induction l with
 |nil=>intro acc;exact⟨[],by simp[Oj],rfl,fun k o h=>by simp at h⟩
 | cons o l ih=>
   intro acc;obtain⟨tl,e,hlen,hspec⟩:=ih (acc++[Zm o acc]);refine⟨Zm o acc::tl,by rw[Oj,e];simp,by simp[hlen],fun k o' hk j hj=>?_⟩;cases k with
   | zero=>
     simp only[List.getElem?_cons_zero,Option.some.injEq]at hk;subst hk;rw[Oj,e]at hj⊢;have h0:((acc++[Zm o acc])++tl).getD (acc.length+0) 0=Zm o acc:=by simp
     rw[h0]at hj;rcases oK _ _ _ _ hj with h|⟨d,hd,h⟩
     ·simp at h
     · refine⟨d,hd,?_⟩
       rw[Nat.testBit_or,Bool.or_eq_true]at h;rcases h with h|h
       · left
         rw[Nat.testBit_two_pow]at h;simpa using h
       · right
         by_cases hlt:d<acc.length
         · refine⟨by omega,?_⟩
           have:((acc++[Zm o acc])++tl).getD d 0=acc.getD d 0:=by
            simp only[List.getD_eq_getElem?_getD,List.append_assoc];rw[List.getElem?_append_left hlt]
           rw[this];exact h
         · simp only[List.getD_eq_getElem?_getD,List.getElem?_eq_none (by omega:acc.length≤d)]at h
           simp at h
   | succ k=>
     have hk':l[k]?=some o':=by simpa using hk
     have e1:(acc++[Zm o acc]).length+k=acc.length+(k+1):=by simp;omega
     have:=hspec k o' hk' j (by rw[e1];exact hj);rw[e1]at this;exact this
theorem aO{l:List Oper}{i j:Nat}{o:Oper}(ho:l[i]?=some o)(h:anc l i j=true):∃d∈direct o,d=j∨(d<i∧anc l d j=true):=by
 obtain⟨tl,e,hlen,hspec⟩:=aN l [];have:=hspec i o ho j (by simpa[anc]using h);simpa[anc]using this
theorem aEj{l:List Oper}{i j:Nat}(h:anc l i j=true):i<l.length:=by
 obtain⟨tl,e,hlen,hspec⟩:=aN l [];unfold anc at h;rw[e]at h;rcases Nat.lt_or_ge i l.length with hlt|hge
 ·exact hlt
 ·simp[List.getElem?_eq_none (by omega:tl.length≤i)]at h
theorem Ga{l:List Oper}{X:Nat→Prop}(hc:∀i o,l[i]?=some o→X i→∀d∈direct o,X d):∀i j,X i→anc l i j=true→X j:=by
 intro i
 induction i using Nat.strongRecOn with
 | ind i ih=>
   intro j hX h;have hlt:=aEj h;have ho:l[i]?=some l[i]:=List.getElem?_eq_getElem hlt;obtain⟨d,hd,hj⟩:=aO ho h;have hXd:=hc i _ ho hX d hd;rcases hj with rfl|⟨hdi,hj⟩
   ·exact hXd
   ·exact ih d hdi j hXd hj
def GM(l:List Oper)(A:List Nat)(pre:List Ep)(m:Ep)(post:List Ep):Bool:=
 (match l[m.i]? with
  | some o=>
    (direct o).all (fun d=>pre.any (fun p=>p.i==d))&&
    (match o.op with| .select .. =>false|_=>true)&&
    (o.looksAt l.toArray).all (fun t=>l.zipIdx.all fun(oj,j)=>oj.dst !=some t||j==m.i||(A.getD m.i 0).testBit j||(A.getD j 0).testBit m.i)&&
    (match o.dst with|some d=>l.zipIdx.all fun(oj,j)=>oj.dst !=some d||j==m.i|none=>true)
  |none=>false)&&
 m.deps.all (fun j=>(A.getD m.i 0).testBit j)&&
 (decide (m.kind<3)||pre.all fun p=>p.kind==0||(A.getD m.i 0).testBit p.i)&&
 (decide (m.kind<5)||post.all fun p=>(A.getD p.i 0).testBit m.i)&&
 !(pre.any fun p=>p.i==m.i)
def sI(l:List Oper)(A:List Nat):List Ep→List Ep→Bool
 |_,[]=>true
 |pre,m::rest=>GM l A pre m rest&&sI l A (pre++[m]) rest
def Lc(l:List Oper)(ms:List Ep):Bool:=
 (List.range l.length).all (fun i=>ms.any fun m=>m.i==i)&&sI l (Oj l []) [] ms
structure Good(l:List Oper)(pre:List Ep)(m:Ep)(post:List Ep)(o:Oper):Prop where
 at_:l[m.i]?=some o
 edges:∀d∈direct o,∃p∈pre,p.i=d
 nosel:∀cs b,o.op≠ .select cs b
 looks:∀t∈o.looksAt l.toArray,∀j oj,l[j]?=some oj→oj.dst=some t→j=m.i∨anc l m.i j=true∨anc l j m.i=true
 alone:∀t,o.dst=some t→∀j oj,l[j]?=some oj→oj.dst=some t→j=m.i
 deps:∀j∈m.deps,anc l m.i j=true
 calls:3≤m.kind→∀p∈pre,p.kind≠0→anc l m.i p.i=true
 bars:5≤m.kind→∀p∈post,anc l p.i m.i=true
 new:∀p∈pre,p.i≠m.i
theorem XB{l:List Oper}{pre post:List Ep}{m:Ep}(h:GM l (Oj l []) pre m post=true):∃o,Good l pre m post o:=by
 unfold GM at h;simp only[Bool.and_eq_true]at h;obtain⟨⟨⟨⟨h1,h2⟩,h3⟩,h4⟩,h5⟩:=h;cases ho:l[m.i]? with
 |none=>simp[ho]at h1
 | some o=>
   simp only[ho,Bool.and_eq_true]at h1;obtain⟨⟨⟨e1,e2⟩,e3⟩,e4⟩:=h1;refine⟨o,ho,fun d hd=>?_,fun cs b hsel=>?_,fun t ht j oj hj hdst=>?_,fun t ht j oj hj hdst=>?_,fun j hj=>?_,fun hk p hp hp0=>?_,fun hk p hp=>?_,fun p hp hpi=>?_⟩
   · have:=List.all_eq_true.1 e1 d hd
     simp only[List.any_eq_true,beq_iff_eq]at this;exact this
   ·rw[hsel]at e2;simp at e2
   · have:=List.all_eq_true.1 (List.all_eq_true.1 e3 t ht) (oj,j) (List.mem_zipIdx_iff_getElem?.2 hj)
     simp only[hdst,bne_self_eq_false,Bool.false_or,Bool.or_eq_true,beq_iff_eq]at this;rcases this with(h|h)|h
     ·exact .inl h
     ·exact .inr (.inl h)
     ·exact .inr (.inr h)
   · rw[ht]at e4
     have:=List.all_eq_true.1 e4 (oj,j) (List.mem_zipIdx_iff_getElem?.2 hj);simpa[hdst]using this
   ·exact List.all_eq_true.1 h2 j hj
   · simp only[Bool.or_eq_true,decide_eq_true_eq]at h3
     rcases h3 with h3|h3
     ·omega
     · have:=List.all_eq_true.1 h3 p hp
       simp only[Bool.or_eq_true,beq_iff_eq]at this;exact this.resolve_left hp0
   · simp only[Bool.or_eq_true,decide_eq_true_eq]at h4
     rcases h4 with h4|h4
     ·omega
     ·exact List.all_eq_true.1 h4 p hp
   · simp only[Bool.not_eq_true']at h5
     have:=List.any_eq_false.1 h5 p hp;simp[hpi]at this
theorem sJ{l:List Oper}{A:List Nat}:∀(ms pre:List Ep),sI l A pre ms=true→∀x m y,ms=x++m::y→GM l A (pre++x) m y=true:=by
 intro ms
 induction ms with
 |nil=>intro pre _ x m y h;simp at h
 | cons m0 ms ih=>
   intro pre h x m y e;simp only[sI,Bool.and_eq_true]at h;cases x with
   | nil=>
     simp only[List.nil_append,List.cons.injEq]at e;obtain⟨rfl,rfl⟩:=e;simpa using h.1
   | cons x0 x=>
     simp only[List.cons_append,List.cons.injEq]at e;obtain⟨rfl,e⟩:=e;have:=ih _ h.2 x m y e;simpa using this
def Ke(l:List Oper)(a0 a:Act)(ex:Nat→Prop)(val:Nat→Value):Prop:=
 a.defers=a0.defers∧a.tmps.size=a0.tmps.size∧
 (∀t,(∀j oj,l[j]?=some oj→oj.dst=some t→¬ex j)→a.tmps[t]?=a0.tmps[t]?)∧
 (∀j oj t,l[j]?=some oj→oj.dst=some t→ex j→t<a0.tmps.size→a.tmps[t]?=some (val j))
theorem Wm{a:Act}{dst:Option Tmp}{v:Value}{t:Nat}(h:dst≠some t):(a.put dst v).tmps[t]?=a.tmps[t]?:=by
 cases dst with
 |none=>rfl
 | some d=>
   have:d≠t:=fun e=>h (by rw[e]);simp[Act.put,Array.getElem?_setIfInBounds_ne this]
theorem jT{a:Act}{d:Nat}{v:Value}(h:d<a.tmps.size):(a.put (some d) v).tmps[d]?=some v:=by
 simp[Act.put,Array.getElem?_setIfInBounds_self_of_lt h]
theorem PZ{a:Act}{dst:Option Tmp}{v:Value}:(a.put dst v).tmps.size=a.tmps.size:=by cases dst<;>simp[Act.put]
theorem put_defers{a:Act}{dst:Option Tmp}{v:Value}:(a.put dst v).defers=a.defers:=by cases dst<;>simp[Act.put]
theorem Ke.put{l:List Oper}{a0 a:Act}{ex ex':Nat→Prop}{val val':Nat→Value}(h:Ke l a0 a ex val){i:Nat}{o:Oper}(ho:l[i]?=some o)
    (alone:∀t,o.dst=some t→∀j oj,l[j]?=some oj→oj.dst=some t→j=i) (hex:∀j,ex' j↔(ex j∨j=i)) (hval:∀j,ex j→j≠i→val' j=val j) (v:Value) (hv:val' i=v):
    Ke l a0 (a.put o.dst v) ex' val':=by
 obtain⟨h1,h2,h3,h4⟩:=h;refine⟨by rw[put_defers];exact h1,by rw[PZ];exact h2,fun t ht=>?_,fun j oj t hj hdst hexj hlt=>?_⟩
 · have hne:o.dst≠some t:=fun e=>ht i o ho e ((hex i).2 (.inr rfl))
   rw[Wm hne];exact h3 t fun j oj hj hdst hexj=>ht j oj hj hdst ((hex j).2 (.inl hexj))
 · by_cases hji:j=i
   · subst hji
     have e:oj=o:=by rw[ho]at hj;exact(Option.some.inj hj).symm
     subst e;rw[hdst,jT (by rw[h2];exact hlt),hv]
   · have hne:o.dst≠some t:=fun e=>hji (alone t e j oj hj hdst)
     rw[Wm hne];have hexj':ex j:=((hex j).1 hexj).resolve_right hji;rw[hval j hexj' hji];exact h4 j oj t hj hdst hexj' hlt
theorem Ke.congr{l:List Oper}{a0 a:Act}{ex ex':Nat→Prop}{val val':Nat→Value}(h:Ke l a0 a ex val)(hex:∀j oj,l[j]?=some oj→(ex' j↔ex j))(hval:∀j,ex j→val' j=val j):Ke l a0 a ex' val':=by
 obtain⟨h1,h2,h3,h4⟩:=h;refine⟨h1,h2,fun t ht=>h3 t fun j oj hj hd hexj=>ht j oj hj hd ((hex j oj hj).2 hexj),fun j oj t hj hdst hexj hlt=>?_⟩;have:=(hex j oj hj).1 hexj;rw[hval j this];exact h4 j oj t hj hdst this hlt
theorem Ke.eq{l:List Oper}{a0 a a':Act}{ex:Nat→Prop}{val:Nat→Value}(h:Ke l a0 a ex val)(h':Ke l a0 a' ex val):a=a':=by
 obtain⟨h1,h2,h3,h4⟩:=h;obtain⟨k1,k2,k3,k4⟩:=h';have ht:a.tmps=a'.tmps:=by
  apply Array.ext_getElem?;intro t;by_cases hlt:t<a0.tmps.size
  · by_cases hown:∃j oj,l[j]?=some oj∧oj.dst=some t∧ex j
    · obtain⟨j,oj,hj,hd,he⟩:=hown
      rw[h4 j oj t hj hd he hlt,k4 j oj t hj hd he hlt]
    · have hn:∀j oj,l[j]?=some oj→oj.dst=some t→¬ex j:=fun j oj hj hd he=>hown ⟨j,oj,hj,hd,he⟩
      rw[h3 t hn,k3 t hn]
  ·rw[Array.getElem?_eq_none (by omega),Array.getElem?_eq_none (by omega)]
 cases a;cases a';simp only at ht h1 k1;rw[ht,h1,k1]
def Ma(l:List Oper)(a0:Act)(i:Nat)(o:Oper)(val:Nat→Value)(a:Act):Prop:=
 a.tmps.size=a0.tmps.size∧∀t∈o.looksAt l.toArray,
  (∀j oj,l[j]?=some oj→oj.dst=some t→anc l i j=true→t<a0.tmps.size→a.tmps[t]?=some (val j))∧
  ((∀j oj,l[j]?=some oj→oj.dst=some t→anc l i j=false)→a.tmps[t]?=a0.tmps[t]?)
theorem Ma.agree{l:List Oper}{a0 a a':Act}{i:Nat}{o:Oper}{val val':Nat→Value}(h:Ma l a0 i o val a)(h':Ma l a0 i o val' a')(hv:∀j,anc l i j=true→val j=val' j):
    ∀t∈o.looksAt l.toArray,a.tmps[t]?=a'.tmps[t]?:=by
 intro(t:Nat) ht;obtain⟨h1,h2⟩:=h.2 t ht;obtain⟨k1,k2⟩:=h'.2 t ht;by_cases hlt:t<a0.tmps.size
 · by_cases hown:∃j oj,l[j]?=some oj∧oj.dst=some t∧anc l i j=true
   · obtain⟨j,oj,hj,hd,he⟩:=hown
     rw[h1 j oj hj hd he hlt,k1 j oj hj hd he hlt,hv j he]
   · have hn:∀j oj,l[j]?=some oj→oj.dst=some t→anc l i j=false:=fun j oj hj hd=>by
       cases hb:anc l i j with
       |false=>rfl
       |true=>exact(hown ⟨j,oj,hj,hd,hb⟩).elim
     rw[h2 hn,k2 hn]
 · have e1:a.tmps[t]?=none:=Array.getElem?_eq_none (by have:=h.1;omega)
   have e2:a'.tmps[t]?=none:=Array.getElem?_eq_none (by have:=h'.1;omega);rw[e1,e2]
theorem Ma.val{l:List Oper}{a0 a:Act}{i:Nat}{o:Oper}{val val':Nat→Value}(h:Ma l a0 i o val a)(hv:∀j,anc l i j=true→val' j=val j):Ma l a0 i o val' a:=
 ⟨h.1,fun t ht=>⟨fun j oj hj hd he hlt=>by rw[hv j he];exact(h.2 t ht).1 j oj hj hd he hlt,(h.2 t ht).2⟩⟩
theorem Ke.looks{l:List Oper}{a0 a:Act}{ex:Nat→Prop}{val:Nat→Value}(h:Ke l a0 a ex val){i:Nat}{o:Oper}
    (hl:∀t∈o.looksAt l.toArray,∀j oj,l[j]?=some oj→oj.dst=some t→j=i∨anc l i j=true∨anc l j i=true)
    (hi:¬ex i) (h1:∀j,anc l i j=true→ex j) (h2:∀j,anc l j i=true→¬ex j):Ma l a0 i o val a:=
 ⟨h.2.1,fun t ht=>⟨fun j oj hj hd he hlt=>h.2.2.2 j oj t hj hd (h1 j he) hlt,fun hn=>h.2.2.1 t fun j oj hj hd hex=>by
  rcases hl t ht j oj hj hd with rfl|he|he
  ·exact hi hex
  ·rw[hn j oj hj hd]at he;cases he
  ·exact h2 j he hex⟩⟩
def pick(l:List Oper)(ms:List Ep):List (Oper×Ep):=ms.map fun m=>(l.getD m.i default,m)
def exd(listed:Array Bool)(i:Nat):Prop:=listed.getD i false=true
section
variable{P:Program}{T:Tel}{l:List Oper}{ms:List Ep}{S:World→Prop}{Q:Act→World→Prop}{a0:Act}
structure QA(P:Program)(l:List Oper)(S:World→Prop)(a0:Act)(b w:World)(val:Nat→Value)(pw qw:Nat→World)(m:Ep):Prop where
 ok :∃o a',l[m.i]?=some o∧Ma l a0 m.i o val a'∧
  ((m.kind=0∧∃w',S w'∧Lb P l.toArray o a' w' fun v w''=>v=val m.i∧w''=w')∨
   ((m.kind=1∨m.kind=2)∧Ext b (pw m.i)∧S (pw m.i)∧(∀j∈m.deps,Ext (qw j) (pw m.i))∧Ext (qw m.i) w∧
    Lb P l.toArray o a' (pw m.i) fun v w''=>v=val m.i∧w''=qw m.i))
structure Inv(P:Program)(T:Tel)(l:List Oper)(ms:List Ep)(S:World→Prop)(Q:Act→World→Prop)(a0:Act)(listed:Array Bool)(a:Act)(w:World)
    (pre rem:List Ep) (ac:Act) (b:World) (h:List (Nat×World×World)) (val:Nat→Value) (pw qw:Nat→World):Prop where
 split:ms=pre++rem
 size:listed.size=l.length
 closed:∀i o,l[i]?=some o→exd listed i→∀d∈direct o,exd listed d
 fa:Ke l a0 a (exd listed) val
 fc:Ke l a0 ac (fun j=>∃m∈pre,m.i=j) val
 flow:Flow P T l.toArray S Q (pick l rem) ac b h
 hb:Ext b w
 hS:S w
 hh:∀p∈h,p.2=(pw p.1,qw p.1)∧exd listed p.1
 hq:∀j,exd listed j→Ext (qw j) w
 hpq:∀i j,exd listed i→exd listed j→i≠j→Ext (qw i) (pw j)∨Ext (qw j) (pw i)
 done:∀m∈pre,exd listed m.i∨(m.kind=0∧∃o a',l[m.i]?=some o∧Ma l a0 m.i o val a'∧∀w,S w→Lb P l.toArray o a' w fun v w'=>v=val m.i∧w'=w)
 recs:∀m∈rem,exd listed m.i→QA P l S a0 b w val pw qw m
theorem Ns(hB:Lc l ms=true){pre:List Ep}{m:Ep}{post:List Ep}(e:ms=pre++m::post):∃o,Good l pre m post o:=by
 simp only[Lc,Bool.and_eq_true]at hB;have:=sJ ms [] hB.2 pre m post e;exact XB (by simpa using this)
theorem Pf(hB:Lc l ms=true){pre rem:List Ep}(e:ms=pre++rem):∀i o,l[i]?=some o→(∃m∈pre,m.i=i)→∀d∈direct o,∃m∈pre,m.i=d:=by
 rintro i o ho ⟨m,hm,rfl⟩ d hd;obtain⟨x,y,rfl⟩:=List.append_of_mem hm;obtain⟨o',g⟩:=Ns hB (pre:=x) (m:=m) (post:=y++rem) (by rw[e];simp);have:o'=o:=by have:=g.at_;rw[ho]at this;exact(Option.some.inj this).symm
 subst this;obtain⟨p,hp,hpd⟩:=g.edges d hd;exact⟨p,by simp[hp],hpd⟩
theorem GN(hB:Lc l ms=true){pre:List Ep}{m:Ep}{post:List Ep}{o:Oper}(e:ms=pre++m::post)(g:Good l pre m post o){j:Nat}(h:anc l m.i j=true):∃p∈pre,p.i=j:=by
 obtain⟨d,hd,hj⟩:=aO g.at_ h;have hp:=g.edges d hd;rcases hj with rfl|⟨_,hj⟩
 ·exact hp
 ·exact Ga (X:=fun j=>∃p∈pre,p.i=j) (Pf hB (rem:=m::post) e) d j hp hj
theorem jU(hB:Lc l ms=true){pre:List Ep}{m:Ep}{post:List Ep}{o:Oper}(e:ms=pre++m::post)(g:Good l pre m post o){j:Nat}(h:anc l j m.i=true):¬ ∃p∈pre,p.i=j:=by
 intro hp;obtain⟨p,hp,hpi⟩:=Ga (X:=fun j=>∃p∈pre,p.i=j) (Pf hB (rem:=m::post) e) j m.i hp h;exact g.new p hp hpi
theorem Bg{i:Nat}{o:Oper}(h:l[i]?=some o):l.getD i default=o:=by simp[h]
theorem Wn(hB:Lc l ms=true){pre:List Ep}{m:Ep}{post:List Ep}{o:Oper}(e:ms=pre++m::post)(g:Good l pre m post o){ac:Act}{val:Nat→Value}
    (fc:Ke l a0 ac (fun j=>∃m∈pre,m.i=j) val):Ma l a0 m.i o val ac:=
 fc.looks g.looks (fun⟨p,hp,hpi⟩=>g.new p hp hpi) (fun _ h=>GN hB e g h) (fun _ h=>jU hB e g h)
theorem dY(_hB:Lc l ms=true){pre:List Ep}{m:Ep}{post:List Ep}{o:Oper}(_e:ms=pre++m::post)(g:Good l pre m post o){ac:Act}{val val':Nat→Value}
    (fc:Ke l a0 ac (fun j=>∃m∈pre,m.i=j) val) (v:Value) (hv:val' m.i=v) (hval:∀j,(∃p∈pre,p.i=j)→val' j=val j):Ke l a0 (ac.put o.dst v) (fun j=>∃p∈pre++[m],p.i=j) val':=by
 refine fc.put g.at_ g.alone (fun j=>?_) (fun j hj _=>hval j hj) v hv;constructor
 · rintro⟨p,hp,hpj⟩
   rcases List.mem_append.1 hp with hp|hp
   ·exact .inl ⟨p,hp,hpj⟩
   · have:p=m:=by simpa using hp
     subst this;exact .inr hpj.symm
 · rintro(⟨p,hp,hpj⟩|rfl)
   ·exact⟨p,by simp[hp],hpj⟩
   ·exact⟨m,by simp,rfl⟩
theorem Inv.pop(hB:Lc l ms=true){listed:Array Bool}{a:Act}{w:World}{pre:List Ep}{m:Ep}{post:List Ep}{ac:Act}{b:World}{h:List (Nat×World×World)}{val:Nat→Value}{pw qw:Nat→World}
    (I:Inv P T l ms S Q a0 listed a w pre (m::post) ac b h val pw qw) (hm:exd listed m.i∨m.kind=0):
    ∃ac' h' val',Inv P T l ms S Q a0 listed a w (pre++[m]) post ac' b h' val' pw qw:=by
 obtain⟨o,g⟩:=Ns hB I.split;have hlk:=Wn hB I.split g I.fc;have hsplit:ms=(pre++[m])++post:=by rw[I.split];simp
 have hfl:=I.flow;simp only[pick,List.map_cons,Bg g.at_]at hfl;by_cases hex:exd listed m.i
 · -- it has been carried out
   obtain⟨o',a',ho',hl',hrec⟩:=(I.recs m (by simp) hex).ok;have eo:o'=o:=by have:=g.at_;rw[ho']at this;exact Option.some.inj this
   subst eo;have hag:=hl'.agree hlk (fun _ _=>rfl);have mk:∀(v:Value) (h':List (Nat×World×World)),v=val m.i→(∀p∈h',p.2=(pw p.1,qw p.1)∧exd listed p.1)→Flow P T l.toArray S Q (pick l post) (ac.put o'.dst v) b h'→
       ∃ac' h' val',Inv P T l ms S Q a0 listed a w (pre++[m]) post ac' b h' val' pw qw:=by
    intro v h' hv hh' hf;refine⟨ac.put o'.dst v,h',val,hsplit,I.size,I.closed,I.fa,dY hB I.split g I.fc v hv.symm (fun _ _=>rfl),hf,I.hb,I.hS,hh',I.hq,I.hpq,fun p hp=>?_,fun p hp=>I.recs p (by simp[hp])⟩;rcases List.mem_append.1 hp with hp|hp
    ·exact I.done p hp
    · have:p=m:=by simpa using hp
      subst this;exact .inl hex
   rcases hrec with⟨hk,w',hSw',hval⟩|⟨hk,r1,r2,r3,r4,hval⟩
   · simp only[Flow,hk]at hfl
     obtain⟨v,hv,hf⟩:=hfl;have h1:=hval.same g.nosel hag;obtain⟨v1,w1,_,hone⟩:=h1.one;have e1:=(hone _).1 h1;have e2:=(hone _).1 (hv w' hSw');exact mk v h (by rw[←e2.1,e1.1]) I.hh hf
   · have h1:=hval.same g.nosel hag
     have hpre:∀p∈h,p.1∈m.deps→Ext p.2.2 (pw m.i):=fun p hp hd=>by rw[(I.hh p hp).1];exact r3 _ hd
     rcases hk with hk|hk<;>simp only[Flow,hk]at hfl
     · have h2:=hfl (pw m.i) r1 r2 hpre
       obtain⟨v1,w1,_,hone⟩:=h1.one;have e1:=(hone _).1 h1;have e2:=(hone _).1 h2;exact mk v1 h e1.1 I.hh e2.2
     · have h2:=hfl (pw m.i) r1 r2 hpre
       obtain⟨v1,w1,_,hone⟩:=h1.one;have e1:=(hone _).1 h1;have e2:=(hone _).1 h2;refine mk v1 _ e1.1 (fun p hp=>?_) e2.2;rcases List.mem_cons.1 hp with rfl|hp
       ·exact⟨by rw[e1.2],hex⟩
       ·exact I.hh p hp
 · -- it is free
   have hk:m.kind=0:=hm.resolve_left hex;simp only[Flow,hk]at hfl;obtain⟨v,hv,hf⟩:=hfl;have hnew:∀p∈pre,p.i≠m.i:=g.new;have hvp:∀j,(∃p∈pre,p.i=j)→(fun j=>if j=m.i then v else val j) j=val j:=by
    rintro j ⟨p,hp,rfl⟩;simp[hnew p hp]
   have hvx:∀j,exd listed j→(fun j=>if j=m.i then v else val j) j=val j:=fun j hj=>by
    have:j≠m.i:=fun e=>hex (e▸hj);simp[this]
   refine⟨ac.put o.dst v,h,fun j=>if j=m.i then v else val j,hsplit,I.size,I.closed,I.fa.congr (fun _ _ _=>Iff.rfl) hvx,dY hB I.split g I.fc v (by simp) hvp,hf,I.hb,I.hS,I.hh,I.hq,I.hpq,fun p hp=>?_,fun p hp hpx=>?_⟩
   · rcases List.mem_append.1 hp with hp|hp
     · refine(I.done p hp).imp id fun⟨k,o',a',ho',hl',hval⟩=>⟨k,o',a',ho',hl'.val fun j hj=>?_,by simpa[hnew p hp]using hval⟩
       obtain⟨x,y,e⟩:=List.append_of_mem hp;have hj':∃p∈pre,p.i=j:=Ga (X:=fun j=>∃p∈pre,p.i=j) (Pf hB I.split) p.i j ⟨p,hp,rfl⟩ hj;exact hvp j hj'
     · have:p=m:=by simpa using hp
       subst this;exact .inr ⟨hk,o,ac,g.at_,hlk.val fun j hj=>hvp j (GN hB I.split g hj),by simpa using hv⟩
   · obtain⟨o',a',ho',hl',hrec⟩:=(I.recs p (by simp[hp]) hpx).ok
     have hpne:p.i≠m.i:=fun e=>hex (e▸hpx);refine⟨o',a',ho',hl'.val fun j hj=>hvx j (Ga I.closed p.i j hpx hj),?_⟩;simpa[hpne]using hrec
theorem Inv.normal(hB:Lc l ms=true){listed:Array Bool}{a:Act}{w:World}{b:World}{pw qw:Nat→World}:∀(rem pre:List Ep) (ac:Act) (h:List (Nat×World×World)) (val:Nat→Value),
    Inv P T l ms S Q a0 listed a w pre rem ac b h val pw qw→∃pre' rem' ac' h' val',Inv P T l ms S Q a0 listed a w pre' rem' ac' b h' val' pw qw∧(∀m post,rem'=m::post→¬exd listed m.i∧m.kind≠0):=by
 intro rem
 induction rem with
 |nil=>intro pre ac h val I;exact⟨pre,[],ac,h,val,I,fun m post e=>by simp at e⟩
 | cons m post ih=>
   intro pre ac h val I;by_cases hm:exd listed m.i∨m.kind=0
   · obtain⟨ac',h',val',I'⟩:=I.pop hB hm
     exact ih _ _ _ _ I'
   · refine⟨pre,m::post,ac,h,val,I,fun m' post' e=>?_⟩
     simp only[List.cons.injEq]at e;obtain⟨rfl,_⟩:=e;exact⟨fun h=>hm (.inl h),fun h=>hm (.inr h)⟩
end
section
variable{P:Program}{T:Tel}{l:List Oper}{ms:List Ep}{S:World→Prop}{Q:Act→World→Prop}{a0:Act}
theorem Sk(hB:Lc l ms=true){pre:List Ep}{m0:Ep}{post:List Ep}(e:ms=pre++m0::post){m:Ep}(hm:m∈post):m0.i≠m.i:=by
 obtain⟨x,y,rfl⟩:=List.append_of_mem hm;obtain⟨o,g⟩:=Ns hB (pre:=pre++m0::x) (m:=m) (post:=y) (by rw[e];simp);exact g.new m0 (by simp)
theorem aHs(hB:Lc l ms=true)(hSm:∀w w',S w→Ext w w'→S w'){listed:Array Bool}{w b:World}{val:Nat→Value}{pw qw:Nat→World}
    (closed:∀i o,l[i]?=some o→exd listed i→∀d∈direct o,exd listed d) (hb:Ext b w) (hS:S w) (hq:∀j,exd listed j→Ext (qw j) w)
    {m:Ep} {om:Oper} (hun:¬exd listed m.i) (hanc:∀j,anc l m.i j=true→exd listed j) (hk:m.kind<3) (hom:l[m.i]?=some om):
    ∀ (rem pre:List Ep) (ac:Act) (h:List (Nat×World×World)) (valh:Nat→Value) (wh:World),ms=pre++rem→m∈rem→Ke l a0 ac (fun j=>∃p∈pre,p.i=j) valh→Flow P T l.toArray S Q (pick l rem) ac b h→Ext w wh→
     (∀p∈h,Ext p.2.2 wh∧(exd listed p.1→p.2.2=qw p.1))→(∀j,exd listed j→valh j=val j)→(∀m'∈rem,exd listed m'.i→QA P l S a0 b w val pw qw m')→
     ∀a',Ma l a0 m.i om val a'→
      (m.kind=0∧∃v,∀w',S w'→Lb P l.toArray om a' w' fun v' w''=>v'=v∧w''=w')∨
      (m.kind≠0∧∃v w',Ext w w'∧Lb P l.toArray om a' w fun v' w''=>v'=v∧w''=w'):=by
 intro rem
 induction rem with
 |nil=>intro pre ac h valh wh _ hm;simp at hm
 | cons m0 post ih=>
   intro pre ac h valh wh e hm fc hfl hwh hh hval hrecs a' hla;obtain⟨o,g⟩:=Ns hB e;have hlk:=Wn hB e g fc;have hsplit:ms=(pre++[m0])++post:=by rw[e];simp
   simp only[pick,List.map_cons,Bg g.at_]at hfl;by_cases hme:m0=m
   · subst hme
     have eo:o=om:=by have:=g.at_;rw[hom]at this;exact(Option.some.inj this).symm
     subst eo;have hag:=hlk.agree hla (fun j hj=>hval j (hanc j hj));have hpre:∀p∈h,p.1∈m0.deps→Ext p.2.2 w:=fun p hp hd=>by
      have hx:=hanc p.1 (g.deps _ hd);rw[(hh p hp).2 hx];exact hq _ hx
     have hk3:m0.kind=0∨m0.kind=1∨m0.kind=2:=by omega
     rcases hk3 with hk0|hk0|hk0<;>simp only[Flow,hk0]at hfl
     · obtain⟨v,hv,_⟩:=hfl
       exact .inl ⟨hk0,v,fun w' hw'=>(hv w' hw').same g.nosel hag⟩
     · have h1:=(hfl w hb hS hpre).same g.nosel hag
       obtain⟨v,w',hK,hone⟩:=h1.one;exact .inr ⟨by omega,v,w',hK.1,(hone _).2 ⟨rfl,rfl⟩⟩
     · have h1:=(hfl w hb hS hpre).same g.nosel hag
       obtain⟨v,w',hK,hone⟩:=h1.one;exact .inr ⟨by omega,v,w',hK.1,(hone _).2 ⟨rfl,rfl⟩⟩
   · have hmp:m∈post:=by
       rcases List.mem_cons.1 hm with h|h
       ·exact(hme h.symm).elim
       ·exact h
     have hrecs':∀m'∈post,exd listed m'.i→QA P l S a0 b w val pw qw m':=fun m' hm'=>hrecs m' (by simp[hm']);have hnew:∀p∈pre,p.i≠m0.i:=g.new
     -- a value that is only supposed
     have hvp:∀v,∀j,(∃p∈pre,p.i=j)→(fun j=>if j=m0.i then v else valh j) j=valh j:=by
      rintro v j ⟨p,hp,rfl⟩;simp[hnew p hp]
     by_cases hex:exd listed m0.i
     · obtain⟨o',a1,ho',hl',hrec⟩:=(hrecs m0 (by simp) hex).ok
       have eo:o'=o:=by have:=g.at_;rw[ho']at this;exact Option.some.inj this
       subst eo;have hag:=hl'.agree hlk (fun j hj=>(hval j (Ga closed m0.i j hex hj)).symm);have mk:∀(v:Value) (h':List (Nat×World×World)),v=val m0.i→(∀p∈h',Ext p.2.2 wh∧(exd listed p.1→p.2.2=qw p.1))→Flow P T l.toArray S Q (pick l post) (ac.put o'.dst v) b h'→_:=fun v h' hv hh' hf=>
        ih (pre++[m0]) (ac.put o'.dst v) h' valh wh hsplit hmp (dY hB e g fc v (by rw[hval _ hex,hv]) (fun _ _=>rfl)) hf hwh hh' hval hrecs' a' hla
       rcases hrec with⟨hk0,w',hSw',hv0⟩|⟨hk0,r1,r2,r3,r4,hv0⟩
       · simp only[Flow,hk0]at hfl
         obtain⟨v,hv,hf⟩:=hfl;have h1:=hv0.same g.nosel hag;obtain⟨v1,w1,_,hone⟩:=h1.one;have e1:=(hone _).1 h1;have e2:=(hone _).1 (hv w' hSw');exact mk v h (by rw[←e2.1,e1.1]) hh hf
       · have h1:=hv0.same g.nosel hag
         have hpre:∀p∈h,p.1∈m0.deps→Ext p.2.2 (pw m0.i):=fun p hp hd=>by
          rw[(hh p hp).2 (Ga closed m0.i p.1 hex (g.deps _ hd))];exact r3 _ hd
         rcases hk0 with hk0|hk0<;>simp only[Flow,hk0]at hfl
         · have h2:=hfl (pw m0.i) r1 r2 hpre
           obtain⟨v1,w1,_,hone⟩:=h1.one;have e1:=(hone _).1 h1;have e2:=(hone _).1 h2;exact mk v1 h e1.1 hh e2.2
         · have h2:=hfl (pw m0.i) r1 r2 hpre
           obtain⟨v1,w1,_,hone⟩:=h1.one;have e1:=(hone _).1 h1;have e2:=(hone _).1 h2;refine mk v1 _ e1.1 (fun p hp=>?_) e2.2;rcases List.mem_cons.1 hp with rfl|hp
           ·exact⟨by rw[e1.2];exact r4.tr hwh,fun _=>e1.2⟩
           ·exact hh p hp
     · have hvx:∀v,∀j,exd listed j→(fun j=>if j=m0.i then v else valh j) j=val j:=fun v j hj=>by
         have:j≠m0.i:=fun e=>hex (e▸hj);simp[this,hval j hj]
       have mk:∀(v:Value) (wh':World) (h':List (Nat×World×World)),Ext w wh'→(∀p∈h',Ext p.2.2 wh'∧(exd listed p.1→p.2.2=qw p.1))→Flow P T l.toArray S Q (pick l post) (ac.put o.dst v) b h'→_:=fun v wh' h' hw' hh' hf=>
        ih (pre++[m0]) (ac.put o.dst v) h' (fun j=>if j=m0.i then v else valh j) wh' hsplit hmp (dY hB e g fc v (by simp) (hvp v)) hf hw' hh' (hvx v) hrecs' a' hla
       have hbh:Ext b wh:=hb.tr hwh;have hSh:S wh:=hSm _ _ hS hwh;have hpre:∀p∈h,p.1∈m0.deps→Ext p.2.2 wh:=fun p hp _=>(hh p hp).1;have more:∀w1,Ext wh w1→∀p∈h,Ext p.2.2 w1∧(exd listed p.1→p.2.2=qw p.1):=fun w1 hw1 p hp=>⟨(hh p hp).1.tr hw1,(hh p hp).2⟩
       have more':∀w1,Ext wh w1→∀p∈(m0.i,wh,w1)::h,Ext p.2.2 w1∧(exd listed p.1→p.2.2=qw p.1):=fun w1 hw1 p hp=>by
        rcases List.mem_cons.1 hp with rfl|hp
        ·exact⟨Ie _,fun hx=>(hex hx).elim⟩
        ·exact more w1 hw1 p hp
       have hk5:m0.kind=0∨m0.kind=1∨m0.kind=2∨m0.kind=3∨m0.kind=4∨5≤m0.kind:=by omega
       rcases hk5 with hk0|hk0|hk0|hk0|hk0|hk0
       · simp only[Flow,hk0]at hfl
         obtain⟨v,_,hf⟩:=hfl;exact mk v wh h hwh hh hf
       · simp only[Flow,hk0]at hfl
         obtain⟨v,w1,hK,_⟩:=(hfl wh hbh hSh hpre).one;exact mk v w1 h (hwh.tr hK.1) (more w1 hK.1) hK.2
       · simp only[Flow,hk0]at hfl
         obtain⟨v,w1,hK,_⟩:=(hfl wh hbh hSh hpre).one;exact mk v w1 _ (hwh.tr hK.1) (more' w1 hK.1) hK.2
       · simp only[Flow,hk0]at hfl
         obtain⟨v,w1,hK⟩:=(hfl wh hbh hSh hpre).op.some_;exact mk v w1 h (hwh.tr hK.1) (more w1 hK.1) hK.2
       · simp only[Flow,hk0]at hfl
         obtain⟨v,w1,hK⟩:=(hfl wh hbh hSh hpre).op.some_;exact mk v w1 _ (hwh.tr hK.1) (more' w1 hK.1) hK.2
       ·exact(hex (hanc _ (g.bars hk0 m hmp))).elim
theorem sK{listed:Array Bool}{i j:Nat}(hi:i<listed.size):exd (listed.setIfInBounds i true) j↔(exd listed j∨j=i):=by
 unfold exd;by_cases hij:i=j
 ·subst hij;simp[hi]
 · rw[getD_set_ne false hij]
   constructor
   ·exact .inl
   · rintro(h|rfl)
     ·exact h
     ·exact(hij rfl).elim
def wB(P:Program)(T:Tel)(l:List Oper)(ms:List Ep)(S:World→Prop)(Q:Act→World→Prop)(a0:Act)(listed:Array Bool)(a:Act)(w:World):Prop:=
 ∃pre rem ac b h val pw qw,Inv P T l ms S Q a0 listed a w pre rem ac b h val pw qw
theorem BP(hB:Lc l ms=true):∀i o,l[i]?=some o→∃m∈ms,m.i=i:=by
 intro i o ho;have hi:i<l.length:=(List.getElem?_eq_some_iff.1 ho).1;simp only[Lc,Bool.and_eq_true]at hB;have:=List.all_eq_true.1 hB.1 i (List.mem_range.2 hi);simpa using this
end
section
variable{P:Program}{T:Tel}{l:List Oper}{ms:List Ep}{S:World→Prop}{Q:Act→World→Prop}{a0:Act}
theorem BQ{listed:Array Bool}(hsz:listed.size=l.length)(closed:∀i o,l[i]?=some o→exd listed i→∀d∈direct o,exd listed d){i:Nat}{o:Oper}(ho:l[i]?=some o)(hd:∀d∈direct o,exd listed d):
    ∀j oj,l[j]?=some oj→exd (listed.setIfInBounds i true) j→∀d∈direct oj,exd (listed.setIfInBounds i true) d:=by
 have hi:i<listed.size:=by rw[hsz];exact(List.getElem?_eq_some_iff.1 ho).1
 intro j oj hj hx d hdj;rw[sK hi]at hx⊢;rcases hx with hx|rfl
 ·exact .inl (closed j oj hj hx d hdj)
 · have:oj=o:=by rw[ho]at hj;exact(Option.some.inj hj).symm
   subst this;exact .inl (hd d hdj)
theorem sM{listed:Array Bool}{i:Nat}(his:i<listed.size){pw qw:Nat→World}{w w':World}(hpq:∀i j,exd listed i→exd listed j→i≠j→Ext (qw i) (pw j)∨Ext (qw j) (pw i))(hq:∀j,exd listed j→Ext (qw j) w)(_hw:Ext w w'):
    ∀a b,exd (listed.setIfInBounds i true) a→exd (listed.setIfInBounds i true) b→a≠b→Ext ((fun j=>if j=i then w' else qw j) a) ((fun j=>if j=i then w else pw j) b)∨Ext ((fun j=>if j=i then w' else qw j) b) ((fun j=>if j=i then w else pw j) a):=by
 intro a b ha hb hne;rw[sK his]at ha hb;by_cases hai:a=i
 · have hbi:b≠i:=fun e=>hne (hai.trans e.symm)
   right;simp[hai,hbi];exact hq b (hb.resolve_right hbi)
 · by_cases hbi:b=i
   · left
     simp[hai,hbi];exact hq a (ha.resolve_right hai)
   · simp only[if_neg hai,if_neg hbi]
     exact hpq a b (ha.resolve_right hai) (hb.resolve_right hbi) hne
theorem wB.step(hB:Lc l ms=true)(hSm:∀w w',S w→Ext w w'→S w')(hT:BO T ms=true){listed:Array Bool}{a:Act}{w:World}(I':wB P T l ms S Q a0 listed a w){i:Nat}(hi:i∈Region.ready .any l.toArray listed):
    vY P T l.toArray i (fun a' w'=>wB P T l ms S Q a0 (listed.setIfInBounds i true) a' w') a w:=by
 obtain⟨pre0,rem0,ac0,b,h0,val0,pw,qw,I0⟩:=I';obtain⟨pre,rem,ac,h,val,I,hhead⟩:=I0.normal hB;obtain⟨hun0,o,ho0,hall⟩:=mem_ready.1 hi;have ho:l[i]?=some o:=by simpa using ho0
 have hil:i<l.length:=(List.getElem?_eq_some_iff.1 ho).1;have his:i<listed.size:=by rw[I.size];exact hil
 have hun:¬exd listed i:=by
  unfold exd;simp[his]at hun0;simp[his,hun0]
 have hdir:∀d∈direct o,exd listed d:=by
  intro d hd;obtain⟨e,he,rfl⟩:=List.mem_map.1 hd;have he':=List.mem_filter.1 he;exact hall e (by simpa using he'.1) he'.2
 have hanc:∀j,anc l i j=true→exd listed j:=fun j hj=>by
  obtain⟨d,hd,hj'⟩:=aO ho hj;rcases hj' with rfl|⟨_,hj'⟩
  ·exact hdir _ hd
  ·exact Ga I.closed d j (hdir d hd) hj'
 have hdesc:∀j,anc l j i=true→¬exd listed j:=fun j hj hx=>hun (Ga I.closed j i hx hj);have hcl:=BQ I.size I.closed ho hdir;have hex:= @sK listed i;obtain⟨m,hm,hmi⟩:=BP hB i o ho;subst hmi;have hsz:(listed.setIfInBounds m.i true).size=l.length:=by simp[I.size]
 rw[I.split]at hm;rcases List.mem_append.1 hm with hm|hm
 · -- it was let by, being free
   rcases I.done m hm with hx|⟨hk,o',a',ho',hl',hval⟩
   ·exact(hun hx).elim
   have eo:o'=o:=by rw[ho]at ho';exact(Option.some.inj ho').symm
   subst eo;obtain⟨x,y,e⟩:=List.append_of_mem hm;obtain⟨o2,g⟩:=Ns hB (pre:=x) (m:=m) (post:=y++rem) (by rw[I.split,e];simp);have eo:o2=o':=by have:=g.at_;rw[ho]at this;exact(Option.some.inj this).symm
   subst eo;have hla:Ma l a0 m.i o2 val a:=I.fa.looks g.looks hun hanc hdesc;have hrun:=(hval w I.hS).same g.nosel (hl'.agree hla (fun _ _=>rfl));refine hrun.op.opT (Tm hT (m:=m) (by rw[I.split];exact List.mem_append_left _ hm) (by omega)) ho0 fun v w' hv=>?_;obtain⟨rfl,rfl⟩:=hv;refine⟨pre,rem,ac,b,h,val,fun j=>if j=m.i then w' else pw j,fun j=>if j=m.i then w' else qw j,I.split,hsz,hcl,I.fa.put ho g.alone (fun j=>hex his) (fun _ _ _=>rfl) _ rfl,I.fc,I.flow,I.hb,I.hS,fun p hp=>?_,fun j hj=>?_,sM his I.hpq I.hq (Ie _),fun p hp=>?_,fun p hp hpx=>?_⟩
   · have:=I.hh p hp
     have hne:p.1≠m.i:=fun e=>hun (e▸this.2);exact⟨by simp[hne,this.1],(hex his).2 (.inl this.2)⟩
   · by_cases hj':j=m.i
     ·simp[hj'];exact Ie _
     · simp[hj']
       exact I.hq j (((hex his).1 hj).resolve_right hj')
   ·exact(I.done p hp).imp (fun h=>(hex his).2 (.inl h)) id
   · have hpm:p.i≠m.i:=fun e'=>by
       obtain⟨x',y',e2⟩:=List.append_of_mem hp;exact Sk hB (pre:=x) (m0:=m) (post:=y++rem) (by rw[I.split,e];simp) (m:=p) (by simp[hp]) e'.symm
     have hpx':=((hex his).1 hpx).resolve_right hpm;obtain⟨o3,a3,ho3,hl3,hr3⟩:=(I.recs p hp hpx').ok;refine⟨o3,a3,ho3,hl3,hr3.imp id fun⟨k1,k2,k3,k4,k5,k6⟩=>⟨k1,by simpa[hpm]using k2,by simpa[hpm]using k3,fun j hj=>?_,by simp[hpm];exact k5,by simpa[hpm]using k6⟩⟩;obtain⟨x',y',e2⟩:=List.append_of_mem hp;obtain⟨o4,g4⟩:=Ns hB (pre:=pre++x') (m:=p) (post:=y') (by rw[I.split,e2];simp);have hjx:=Ga I.closed p.i j hpx' (g4.deps j hj);have hjm:j≠m.i:=fun e=>hun (e▸hjx);simp[hjm,hpm];exact k4 j hj
 · cases rem with
   |nil=>simp at hm
   |cons m0 post=>
   obtain⟨hh1,hh2⟩:=hhead m0 post rfl;by_cases hme:m0=m
   · -- it is the canonical head
     subst hme;obtain⟨o2,g⟩:=Ns hB I.split;have eo:o2=o:=by have:=g.at_;rw[ho]at this;exact(Option.some.inj this).symm
     subst eo;have hla:Ma l a0 m0.i o2 val a:=I.fa.looks g.looks hun hanc hdesc;have hlk:=Wn hB I.split g I.fc;have hag:=hlk.agree hla (fun _ _=>rfl);have hfl:=I.flow;have hsplit:ms=(pre++[m0])++post:=by rw[I.split];simp
     simp only[pick,List.map_cons,Bg g.at_]at hfl;have hnew:∀p∈pre,p.i≠m0.i:=g.new;have hpre:∀p∈h,Ext p.2.2 w:=fun p hp=>by rw[(I.hh p hp).1];exact I.hq _ (I.hh p hp).2
     have hturn:Rh h:=fun p hp q hq hne=>by rw[(I.hh p hp).1,(I.hh q hq).1];exact I.hpq _ _ (I.hh p hp).2 (I.hh q hq).2 hne
     -- what every step that only adds to the world comes to
     have mk:∀(v:Value) (w':World) (h':List (Nat×World×World)),Ext w w'→(∀p∈h',p∈h∨p=(m0.i,w,w'))→Flow P T l.toArray S Q (pick l post) (ac.put o2.dst v) b h'→
         wB P T l ms S Q a0 (listed.setIfInBounds m0.i true) (a.put o2.dst v) w':=by
      intro v w' h' hw hh' hf;have hvp:∀j,(∃p∈pre,p.i=j)→(fun j=>if j=m0.i then v else val j) j=val j:=by
       rintro j ⟨p,hp,rfl⟩;simp[hnew p hp]
      have hvx:∀j,exd listed j→(fun j=>if j=m0.i then v else val j) j=val j:=fun j hj=>by
       have:j≠m0.i:=fun e=>hun (e▸hj);simp[this]
      refine⟨pre++[m0],post,ac.put o2.dst v,b,h',fun j=>if j=m0.i then v else val j,fun j=>if j=m0.i then w else pw j,fun j=>if j=m0.i then w' else qw j,hsplit,hsz,hcl,
       I.fa.put ho g.alone (fun j=>hex his) (fun j hj _=>hvx j hj) v (by simp),dY hB I.split g I.fc v (by simp) hvp,hf,I.hb.tr hw,hSm _ _ I.hS hw,fun p hp=>?_,fun j hj=>?_,sM his I.hpq I.hq hw,fun p hp=>?_,fun p hp hpx=>?_⟩
      · rcases hh' p hp with hp|rfl
        · have:=I.hh p hp
          have hne:p.1≠m0.i:=fun e=>hun (e▸this.2);exact⟨by simp[hne,this.1],(hex his).2 (.inl this.2)⟩
        ·exact⟨by simp,(hex his).2 (.inr rfl)⟩
      · by_cases hj':j=m0.i
        ·simp[hj'];exact Ie _
        · simp[hj']
          exact(I.hq j (((hex his).1 hj).resolve_right hj')).tr hw
      · rcases List.mem_append.1 hp with hp|hp
        · refine(I.done p hp).imp (fun h=>(hex his).2 (.inl h)) fun⟨k,o',a',ho',hl',hval⟩=>⟨k,o',a',ho',hl'.val fun j hj=>?_,by simpa[hnew p hp]using hval⟩
          exact hvp j (Ga (X:=fun j=>∃p∈pre,p.i=j) (Pf hB I.split) p.i j ⟨p,hp,rfl⟩ hj)
        · have:p=m0:=by simpa using hp
          subst this;exact .inl ((hex his).2 (.inr rfl))
      · have hpm:p.i≠m0.i:=fun e'=>Sk hB I.split hp e'.symm
        have hpx':=((hex his).1 hpx).resolve_right hpm;obtain⟨o3,a3,ho3,hl3,hr3⟩:=(I.recs p (by simp[hp]) hpx').ok;refine⟨o3,a3,ho3,hl3.val fun j hj=>hvx j (Ga I.closed p.i j hpx' hj),?_⟩;rcases hr3 with⟨k1,w3,k2,k3⟩|⟨k1,k2,k3,k4,k5,k6⟩
        ·exact .inl ⟨k1,w3,k2,by simpa[hpm]using k3⟩
        · refine .inr ⟨k1,by simpa[hpm]using k2,by simpa[hpm]using k3,fun j hj=>?_,by simp[hpm];exact k5.tr hw,by simpa[hpm]using k6⟩
          obtain⟨x',y',e2⟩:=List.append_of_mem hp;obtain⟨o4,g4⟩:=Ns hB (pre:=pre++m0::x') (m:=p) (post:=y') (by rw[I.split,e2];simp);have hjx:=Ga I.closed p.i j hpx' (g4.deps j hj);have hjm:j≠m0.i:=fun e=>hun (e▸hjx);simp[hjm,hpm];exact k4 j hj
     have hk5:m0.kind=1∨m0.kind=2∨m0.kind=3∨m0.kind=4∨5≤m0.kind:=by omega
     rcases hk5 with hk0|hk0|hk0|hk0|hk0
     · simp only[Flow,hk0]at hfl
       exact((hfl w I.hb I.hS (fun p hp _=>hpre p hp)).same g.nosel hag).op.opT (Tm hT (m:=m0) (by rw[I.split];exact List.mem_append_right _ (List.mem_cons_self ..)) (by omega)) ho0 fun v w' hv=>mk v w' h hv.1 (fun p hp=> .inl hp) hv.2
     · simp only[Flow,hk0]at hfl
       exact((hfl w I.hb I.hS (fun p hp _=>hpre p hp)).same g.nosel hag).op.opT (Tm hT (m:=m0) (by rw[I.split];exact List.mem_append_right _ (List.mem_cons_self ..)) (by omega)) ho0 fun v w' hv=>mk v w' _ hv.1 (fun p hp=>by rcases List.mem_cons.1 hp with rfl|hp;exact .inr rfl;exact .inl hp) hv.2
     · simp only[Flow,hk0]at hfl
       exact((hfl w I.hb I.hS (fun p hp _=>hpre p hp)).same g.nosel hag).opI ho0 fun v w' hv=>mk v w' h hv.1 (fun p hp=> .inl hp) hv.2
     · simp only[Flow,hk0]at hfl
       exact((hfl w I.hb I.hS (fun p hp _=>hpre p hp)).same g.nosel hag).opI ho0 fun v w' hv=>mk v w' _ hv.1 (fun p hp=>by rcases List.mem_cons.1 hp with rfl|hp;exact .inr rfl;exact .inl hp) hv.2
     · have hfl':∀w,Ext b w→S w→(∀p∈h,Ext p.2.2 w)→Rh h→Gy T m0.i P l.toArray o2 ac w fun v w'=>S w'∧Flow P T l.toArray S Q (pick l post) (ac.put o2.dst v) w' []:=by
         unfold Flow at hfl;split at hfl<;>first|omega|exact hfl
       refine((hfl' w I.hb I.hS hpre hturn).same g.nosel hag).opI ho0 fun v w' hv=>?_;have hvp:∀j,(∃p∈pre,p.i=j)→(fun j=>if j=m0.i then v else val j) j=val j:=by
        rintro j ⟨p,hp,rfl⟩;simp[hnew p hp]
       have hvx:∀j,exd listed j→(fun j=>if j=m0.i then v else val j) j=val j:=fun j hj=>by
        have:j≠m0.i:=fun e=>hun (e▸hj);simp[this]
       refine⟨pre++[m0],post,ac.put o2.dst v,w',[],fun j=>if j=m0.i then v else val j,fun _=>w',fun _=>w',hsplit,hsz,hcl,
        I.fa.put ho g.alone (fun j=>hex his) (fun j hj _=>hvx j hj) v (by simp),dY hB I.split g I.fc v (by simp) hvp,hv.2,Ie _,hv.1,fun p hp=>by simp at hp,fun j hj=>Ie _,fun _ _ _ _ _=> .inl (Ie _),fun p hp=>?_,fun p hp hpx=>?_⟩
       · rcases List.mem_append.1 hp with hp|hp
         · refine(I.done p hp).imp (fun h=>(hex his).2 (.inl h)) fun⟨k,o',a',ho',hl',hval⟩=>⟨k,o',a',ho',hl'.val fun j hj=>?_,by simpa[hnew p hp]using hval⟩
           exact hvp j (Ga (X:=fun j=>∃p∈pre,p.i=j) (Pf hB I.split) p.i j ⟨p,hp,rfl⟩ hj)
         · have:p=m0:=by simpa using hp
           subst this;exact .inl ((hex his).2 (.inr rfl))
       · have hpm:p.i≠m0.i:=fun e'=>Sk hB I.split hp e'.symm
         have hpx':=((hex his).1 hpx).resolve_right hpm;exact(hdesc p.i (g.bars hk0 p hp) hpx').elim
   · -- it comes up out of the canonical turn
     have hmp:m∈post:=by
      rcases List.mem_cons.1 hm with h|h
      ·exact(hme h.symm).elim
      ·exact h
     obtain⟨x,y,e⟩:=List.append_of_mem hmp;have hsp:ms=(pre++m0::x)++m::y:=by rw[I.split,e];simp
     obtain⟨o2,g⟩:=Ns hB hsp;have eo:o2=o:=by have:=g.at_;rw[ho]at this;exact(Option.some.inj this).symm
     subst eo;have hk:m.kind<3:=by
      rcases Nat.lt_or_ge m.kind 3 with h|h
      ·exact h
      ·exact(hh1 (hanc _ (g.calls h m0 (by simp) hh2))).elim
     have hla:Ma l a0 m.i o2 val a:=I.fa.looks g.looks hun hanc hdesc;have hr:=aHs hB hSm I.closed I.hb I.hS I.hq hun hanc hk ho (m0::post) pre ac h val w I.split (by simp[hmp]) I.fc I.flow (Ie _)
      (fun p hp=>⟨by rw[(I.hh p hp).1];exact I.hq _ (I.hh p hp).2,fun _=>by rw[(I.hh p hp).1]⟩) (fun _ _=>rfl) I.recs a hla
     have hnp:∀p∈pre,p.i≠m.i:=fun p hp=>g.new p (by simp[hp])
     -- its record
     have mk :∀(v:Value) (w':World),Ext w w'→S w'→Lb P l.toArray o2 a w (fun v' w''=>v'=v∧w''=w')→(m.kind=0→w'=w)→
         wB P T l ms S Q a0 (listed.setIfInBounds m.i true) (a.put o2.dst v) w':=by
      intro v w' hw hSw hrun hw0;have hvp:∀j,(∃p∈pre,p.i=j)→(fun j=>if j=m.i then v else val j) j=val j:=by
       rintro j ⟨p,hp,rfl⟩;simp[hnp p hp]
      have hvx:∀j,exd listed j→(fun j=>if j=m.i then v else val j) j=val j:=fun j hj=>by
       have:j≠m.i:=fun e=>hun (e▸hj);simp[this]
      refine⟨pre,m0::post,ac,b,h,fun j=>if j=m.i then v else val j,fun j=>if j=m.i then w else pw j,fun j=>if j=m.i then w' else qw j,I.split,hsz,hcl,
       I.fa.put ho g.alone (fun j=>hex his) (fun j hj _=>hvx j hj) v (by simp),I.fc.congr (fun _ _ _=>Iff.rfl) hvp,I.flow,I.hb.tr hw,hSw,fun p hp=>?_,fun j hj=>?_,sM his I.hpq I.hq hw,fun p hp=>?_,fun p hp hpx=>?_⟩
      · have:=I.hh p hp
        have hne:p.1≠m.i:=fun e=>hun (e▸this.2);exact⟨by simp[hne,this.1],(hex his).2 (.inl this.2)⟩
      · by_cases hj':j=m.i
        ·simp[hj'];exact Ie _
        · simp[hj']
          exact(I.hq j (((hex his).1 hj).resolve_right hj')).tr hw
      · refine(I.done p hp).imp (fun h=>(hex his).2 (.inl h)) fun⟨k,o',a',ho',hl',hval⟩=>⟨k,o',a',ho',hl'.val fun j hj=>?_,by simpa[hnp p hp]using hval⟩
        exact hvp j (Ga (X:=fun j=>∃p∈pre,p.i=j) (Pf hB I.split) p.i j ⟨p,hp,rfl⟩ hj)
      · by_cases hpm:p.i=m.i
        · -- the record of this very operation
          have hpm':p=m:=by
           rcases List.mem_append.1 (show p∈(m0::x)++m::y by rw[e]at hp;simpa using hp)with h1|h1
           ·exact(g.new p (by simp at h1⊢;rcases h1 with h1|h1<;>simp[h1]) hpm).elim
           · rcases List.mem_cons.1 h1 with h1|h1
             ·exact h1
             ·exact(Sk hB hsp h1 hpm.symm).elim
          subst hpm';refine⟨o2,a,ho,hla.val fun j hj=>hvx j (hanc j hj),?_⟩;by_cases hk0:p.kind=0
          · refine .inl ⟨hk0,w,I.hS,?_⟩
            have e0:=hw0 hk0;subst e0;simpa using hrun
          · refine .inr ⟨by omega,by simp;exact I.hb,by simp;exact I.hS,fun j hj=>?_,by simp;exact Ie _,by simpa using hrun⟩
            have hjx:=hanc j (g.deps j hj);have hjm:j≠p.i:=fun e=>hun (e▸hjx);simp[hjm];exact I.hq j hjx
        · have hpx':=((hex his).1 hpx).resolve_right hpm
          obtain⟨o3,a3,ho3,hl3,hr3⟩:=(I.recs p hp hpx').ok;refine⟨o3,a3,ho3,hl3.val fun j hj=>hvx j (Ga I.closed p.i j hpx' hj),?_⟩;rcases hr3 with⟨k1,w3,k2,k3⟩|⟨k1,k2,k3,k4,k5,k6⟩
          ·exact .inl ⟨k1,w3,k2,by simpa[hpm]using k3⟩
          · refine .inr ⟨k1,by simpa[hpm]using k2,by simpa[hpm]using k3,fun j hj=>?_,by simp[hpm];exact k5.tr hw,by simpa[hpm]using k6⟩
            obtain⟨x',y',e2⟩:=List.append_of_mem hp;obtain⟨o4,g4⟩:=Ns hB (pre:=pre++x') (m:=p) (post:=y') (by rw[I.split,e2];simp);have hjx:=Ga I.closed p.i j hpx' (g4.deps j hj);have hjm:j≠m.i:=fun e=>hun (e▸hjx);simp[hjm,hpm];exact k4 j hj
     rcases hr with⟨hk0,v,hv⟩|⟨hk0,v,w',hw,hv⟩
     · have hrun:=hv w I.hS
       refine hrun.op.opT (Tm hT (m:=m) (by rw[I.split];exact List.mem_append_right _ (List.mem_cons_of_mem _ hmp)) (by omega)) ho0 fun v' w' hv'=>?_;obtain⟨rfl,rfl⟩:=hv';exact mk _ _ (Ie _) I.hS hrun (fun _=>rfl)
     · refine hv.op.opT (Tm hT (m:=m) (by rw[I.split];exact List.mem_append_right _ (List.mem_cons_of_mem _ hmp)) (by omega)) ho0 fun v' w'' hv'=>?_
       obtain⟨rfl,rfl⟩:=hv';exact mk _ _ hw (hSm _ _ I.hS hw) hv (fun h=>(hk0 h).elim)
theorem wB.end_(hB:Lc l ms=true){listed:Array Bool}{a:Act}{w:World}(I':wB P T l ms S Q a0 listed a w)(hr:Region.ready .any l.toArray listed=[]):Q a w:=by
 obtain⟨pre0,rem0,ac0,b,h0,val0,pw,qw,I0⟩:=I';obtain⟨pre,rem,ac,h,val,I,hhead⟩:=I0.normal hB;have hpos:∀n x m y,ms=x++m::y→x.length=n→exd listed m.i:=by
  intro n
  induction n using Nat.strongRecOn with
  | ind n ih=>
    intro x m y e hn;obtain⟨o2,g⟩:=Ns hB e;cases hx:listed.getD m.i false with
    |true=>exact hx
    | false=>
      exfalso;have hi:m.i<l.length:=(List.getElem?_eq_some_iff.1 g.at_).1;have:m.i∈Region.ready .any l.toArray listed:=mem_ready.2 ⟨by
       have hs:m.i<listed.size:=by rw[I.size];exact hi
       simp[hs]at hx⊢;exact hx,o2,by simpa using g.at_,fun ed hed hbd=>by
        have hdo:ed.on∈direct o2:=List.mem_map.2 ⟨ed,List.mem_filter.2 ⟨by simpa using hed,hbd⟩,rfl⟩;obtain⟨p,hp,hpd⟩:=g.edges _ hdo;obtain⟨x1,x2,rfl⟩:=List.append_of_mem hp;rw[←hpd];exact ih x1.length (by rw[←hn];simp) x1 p (x2++m::y) (by rw[e];simp) rfl⟩
      rw[hr]at this;cases this
 have hall:∀i,i<l.length→exd listed i:=by
  intro i hi;obtain⟨m,hm,hmi⟩:=BP hB i _ (List.getElem?_eq_getElem hi);obtain⟨x,y,e⟩:=List.append_of_mem hm;rw[←hmi];exact hpos _ x m y e rfl
 have hrem:rem=[]:=by
  cases rem with
  |nil=>rfl
  | cons m post=>
    obtain⟨o,g⟩:=Ns hB I.split;exact((hhead m post rfl).1 (hall _ (List.getElem?_eq_some_iff.1 g.at_).1)).elim
 subst hrem;have hfl:=I.flow;simp only[pick,List.map_nil,Flow]at hfl;have hq:=hfl w I.hb I.hS (fun p hp=>by rw[(I.hh p hp).1];exact I.hq _ (I.hh p hp).2) (fun p hp q hq hne=>by rw[(I.hh p hp).1,(I.hh q hq).1];exact I.hpq _ _ (I.hh p hp).2 (I.hh q hq).2 hne);have:a=ac:=(I.fa.congr (ex':=fun j=>∃m∈pre,m.i=j) (fun j oj hj=>by
  constructor
  ·intro _;exact hall j (List.getElem?_eq_some_iff.1 hj).1
  · intro _
    obtain⟨m,hm,hmi⟩:=BP hB j oj hj;exact⟨m,by rw[I.split]at hm;simpa using hm,hmi⟩) (fun _ _=>rfl)).eq I.fc
 rw[this];exact hq
theorem Zn(hB:Lc l ms=true)(hSm:∀w w',S w→Ext w w'→S w')(hT:BO T ms=true):∀(fuel:Nat) (listed:Array Bool) (a:Act) (w:World),wB P T l ms S Q a0 listed a w→
    (listed.toList.countP (·==false))≤fuel→aM P T l.toArray Q fuel listed a w:=by
 intro fuel
 induction fuel with
 | zero=>
   intro listed a w I hc;have hr:Region.ready .any l.toArray listed=[]:=by
    rw[List.eq_nil_iff_forall_not_mem];intro i hi;obtain⟨hun,o,ho,_⟩:=mem_ready.1 hi;have hlt:i<listed.size:=by
     rcases Nat.lt_or_ge i listed.size with h|h
     ·exact h
     ·simp[Array.getElem?_eq_none h]at hun
    have hf:listed[i]=false:=by simpa[hlt]using hun
    have h0:listed.toList.countP (·==false)=0:=by omega
    rw[List.countP_eq_zero]at h0;exact h0 listed[i] (by simp) (by simp[hf])
   exact⟨hr,I.end_ hB hr⟩
 | succ fuel ih=>
   intro listed a w I hc;refine⟨fun hr=>I.end_ hB hr,fun i hi=>?_⟩;refine(I.step hB hSm hT hi).mono (fun a' w' I'=>ih _ a' w' I' ?_);obtain⟨hun,o,ho,_⟩:=mem_ready.1 hi;have hlt:i<listed.size:=by
    rcases Nat.lt_or_ge i listed.size with h|h
    ·exact h
    ·simp[Array.getElem?_eq_none h]at hun
   have hf:listed[i]=false:=by simpa[hlt]using hun
   have:(listed.setIfInBounds i true).toList=listed.toList.set i true:=by simp
   rw[this];have hlt':i<listed.toList.length:=by simpa using hlt
   have e1:listed.toList=listed.toList.take i++false::listed.toList.drop (i+1):=by
    conv=>lhs;rw[←List.take_append_drop i listed.toList,List.drop_eq_getElem_cons hlt']
    simp[hf]
   have e2:listed.toList.set i true=listed.toList.take i++true::listed.toList.drop (i+1):=by
    rw[List.set_eq_take_append_cons_drop,if_pos hlt']
   rw[e2,List.countP_append,List.countP_cons];rw[e1,List.countP_append,List.countP_cons]at hc;simp at hc⊢;omega
theorem sP{Q:Act→World→Prop}{a:Act}{w:World}(S:World→Prop)(ms:List Ep)(hB:Lc l ms=true)(hSm:∀w w',S w→Ext w w'→S w')(hT:BO T ms=true)(hS:S w)
    (h:Flow P T l.toArray S Q (pick l ms) a w []):aM P T l.toArray Q l.toArray.size (Array.replicate l.toArray.size false) a w.drew:=by
 have hx:Ext w w.drew:=⟨(Below.refl _ _).drew,Nat.le_succ _⟩
 refine Zn (a0:=a) hB hSm hT _ _ _ _ ?_ ?_
 · have hno:∀j,¬exd (Array.replicate l.toArray.size false) j:=fun j=>by
     unfold exd;simp only[Array.getD_eq_getD_getElem?,Array.getElem?_replicate];split<;>simp
   exact⟨[],ms,a,w,[],fun _=>undef,fun _=>w,fun _=>w,rfl,by simp,fun i o _ hx=>(hno i hx).elim,⟨rfl,rfl,fun _ _=>rfl,fun j _ _ _ _ hx=>(hno j hx).elim⟩,
    ⟨rfl,rfl,fun _ _=>rfl,fun j _ _ _ _ hx=>by obtain⟨m,hm,_⟩:=hx;simp at hm⟩,h,hx,hSm _ _ hS hx,fun p hp=>by simp at hp,fun j hx=>(hno j hx).elim,fun i _ hx=>(hno i hx).elim,fun p hp=>by simp at hp,fun p _ hx=>(hno _ hx).elim⟩
 ·simp[List.countP_replicate]
theorem gF{Q:Act→World→Prop}{a:Act}{w:World}(S:World→Prop)(ms:List Ep)(hB:Lc l ms=true)(hSm:∀w w',S w→Ext w w'→S w')(hS:S w)
    (h:Flow P noT l.toArray S Q (pick l ms) a w []):Ni P l.toArray Q l.toArray.size (Array.replicate l.toArray.size false) a w.drew:=(sP S ms hB hSm (vZ ms) hS h).anyI
theorem jV{id:Nat}{R:Exit→Act→World→Prop}{a:Act}{w:World}(S:World→Prop)(ms:List Ep)(hm:P.follows .mixedOrders=true)(hB:Lc l ms=true)(hSm:∀w w',S w→Ext w w'→S w')(hS:S w)
    (h:Flow P noT l.toArray S (fun a' w'=>R .normal a' w') (pick l ms) a w []):(Code.region id l.toArray true).wp P R a w:=
 wp_region_any hm (Ni.any (fun _ _ h=>h) _ _ _ _ (gF S ms hB hSm hS h))
end
attribute [go_sem] Wl vX
section
variable{P:Program}{T:Tel}{ops:Array Oper}{S:World→Prop}{Q:Act→World→Prop}{o:Oper}{m:Ep}{rest:List (Oper×Ep)}{a:Act}{b:World}{h:List (Nat×World×World)}
theorem Flow.nil(hq:∀w,Ext b w→S w→(∀p∈h,Ext p.2.2 w)→Rh h→Q a w):Flow P T ops S Q [] a b h:=hq
theorem jW(hk:m.kind=0)(hg:Region.wanted o (yielded ops a.tmps)=true)(v:Value)(h1:∀w,S w→Wl (fun v' w'=>v'=v∧w'=w) ((execOp a.eval o).run P w))(h2:Flow P T ops S Q rest (a.put o.dst v) b h):Flow P T ops S Q ((o,m)::rest) a b h:=by
 simp only[Flow,hk];exact⟨v,fun w hw=>by unfold Lb;rw[if_pos hg];exact h1 w hw,h2⟩
theorem jX(hk:m.kind=0)(hg:Region.wanted o (yielded ops a.tmps)=false)(h2:Flow P T ops S Q rest (a.put o.dst undef) b h):Flow P T ops S Q ((o,m)::rest) a b h:=by
 simp only[Flow,hk];exact⟨undef,fun w hw=>by unfold Lb;rw[if_neg (by rw[hg];simp)];exact⟨rfl,rfl⟩,h2⟩
theorem jY(hk:m.kind=1)(hg:Region.wanted o (yielded ops a.tmps)=true)(v:Value)(h1:∀w,Ext b w→S w→(∀p∈h,p.1∈m.deps→Ext p.2.2 w)→Wl (fun v' w'=>v'=v∧w'=w) ((execOp a.eval o).run P w))(h2:Flow P T ops S Q rest (a.put o.dst v) b h):Flow P T ops S Q ((o,m)::rest) a b h:=by
 simp only[Flow,hk];intro w hw hS hd;unfold Lb;rw[if_pos hg];have h3:=h1 w hw hS hd;obtain⟨v1,w1,hK,hone⟩:=jQ h3;obtain⟨e1,e2⟩:=hK;exact(hone _).2 ⟨by rw[e2];exact Ie _,by rw[e1];exact h2⟩
theorem jZ(hk:m.kind=1)(hg:Region.wanted o (yielded ops a.tmps)=false)(h2:Flow P T ops S Q rest (a.put o.dst undef) b h):Flow P T ops S Q ((o,m)::rest) a b h:=by
 simp only[Flow,hk];intro w hw hS hd;unfold Lb;rw[if_neg (by rw[hg];simp)];exact⟨Ie _,h2⟩
theorem KO(hk:m.kind=2)(hg:o.guard=none)(h1:∀w,Ext b w→S w→(∀p∈h,p.1∈m.deps→Ext p.2.2 w)→∀K:Value→World→Prop,(∀v w',Ext w w'→Flow P T ops S Q rest (a.put o.dst v) b ((m.i,w,w')::h)→K v w')→Wl K ((execOp a.eval o).run P w)):Flow P T ops S Q ((o,m)::rest) a b h:=by
 simp only[Flow,hk];intro w hw hS hd;unfold Lb;rw[if_pos (by simp[Region.wanted,hg])];exact h1 w hw hS hd _ fun v w' he hf=>⟨he,hf⟩
theorem kC(hT:T m.i=none)(hk:m.kind=3)(hg:Region.wanted o (yielded ops a.tmps)=true)(f:FuncId)(args:Array Value)(he:∀w,(execOp a.eval o).run P w= .ok (.enter f args) w)(v:Value)
    (h1:∀w,Ext b w→S w→(∀p∈h,p.1∈m.deps→Ext p.2.2 w)→Calls P f args w fun e w'=>e= .returned v∧Ext w w') (h2:Flow P T ops S Q rest (a.put o.dst v) b h):Flow P T ops S Q ((o,m)::rest) a b h:=by
 simp only[Flow,hk];intro w hw hS hd;refine Hm.callTo hT ?_;unfold Hm;rw[if_pos hg,he w];exact(h1 w hw hS hd).mono fun e w' ⟨h3,h4⟩=>⟨v,h3,h4,h2⟩
theorem kD(hT:T m.i=none)(hk:m.kind=3)(hg:Region.wanted o (yielded ops a.tmps)=false)(h2:Flow P T ops S Q rest (a.put o.dst undef) b h):Flow P T ops S Q ((o,m)::rest) a b h:=by
 simp only[Flow,hk];intro w hw hS hd;refine Hm.callTo hT ?_;unfold Hm;rw[if_neg (by rw[hg];simp)];exact⟨Ie _,h2⟩
theorem oL(hT:T m.i=none)(hk:m.kind=4)(hg:o.guard=none)(f:FuncId)(args:Array Value)(he:∀w,(execOp a.eval o).run P w= .ok (.enter f args) w)
    (h1:∀w,Ext b w→S w→(∀p∈h,p.1∈m.deps→Ext p.2.2 w)→Calls P f args w fun e w'=>∃v,e= .returned v∧Ext w w'∧Flow P T ops S Q rest (a.put o.dst v) b ((m.i,w,w')::h)):Flow P T ops S Q ((o,m)::rest) a b h:=by
 simp only[Flow,hk];intro w hw hS hd;refine Hm.callTo hT ?_;unfold Hm;rw[if_pos (by simp[Region.wanted,hg]),he w];exact h1 w hw hS hd
theorem oM{t:World→Value→World→Prop}(hT:T m.i=some t)(hk:m.kind=4)(hg:o.guard=none)(f:FuncId)(args:Array Value)(he:∀w,(execOp a.eval o).run P w= .ok (.enter f args) w)
    (h1:∀w,Ext b w→S w→(∀p∈h,p.1∈m.deps→Ext p.2.2 w)→Calls P f args w fun e w'=>∃v,e= .returned v∧t w v w') (h2:∀w v w',Ext b w→t w v w'→Ext w w'∧Flow P T ops S Q rest (a.put o.dst v) b ((m.i,w,w')::h)):Flow P T ops S Q ((o,m)::rest) a b h:=by
 simp only[Flow,hk];intro w hw hS hd;unfold Gy;rw[hT];refine⟨?_,fun v w' hv=>h2 w v w' hw hv⟩;unfold Hm;rw[if_pos (by simp[Region.wanted,hg]),he w];exact h1 w hw hS hd
theorem pJ(hT:T m.i=none)(hk:m.kind=5)(hg:o.guard=none)(h1:∀w,Ext b w→S w→(∀p∈h,Ext p.2.2 w)→Rh h→∀K:Value→World→Prop,(∀v w',S w'→Flow P T ops S Q rest (a.put o.dst v) w' []→K v w')→Wl K ((execOp a.eval o).run P w)):Flow P T ops S Q ((o,m)::rest) a b h:=by
 simp only[Flow,hk];intro w hw hS hd ht;refine Hm.callTo hT ?_;unfold Hm;rw[if_pos (by simp[Region.wanted,hg])];have h3:=h1 w hw hS hd ht (fun v w'=>S w'∧Flow P T ops S Q rest (a.put o.dst v) w' []) fun v w' he hf=>⟨he,hf⟩
 unfold Wl at h3;unfold vX;split at h3
 ·rename_i e;rw[e];exact h3
 ·rename_i e;rw[e];exact h3
 ·exact h3.elim
theorem oN(hT:T m.i=none)(hk:m.kind=5)(hg:o.guard=none)(f:FuncId)(args:Array Value)(he:∀w,(execOp a.eval o).run P w= .ok (.enter f args) w)
    (h1:∀w,Ext b w→S w→(∀p∈h,Ext p.2.2 w)→Rh h→Calls P f args w fun e w'=>∃v,e= .returned v∧S w'∧Flow P T ops S Q rest (a.put o.dst v) w' []):Flow P T ops S Q ((o,m)::rest) a b h:=by
 simp only[Flow,hk];intro w hw hS hd ht;refine Hm.callTo hT ?_;unfold Hm;rw[if_pos (by simp[Region.wanted,hg]),he w];exact h1 w hw hS hd ht
theorem oO{t:World→Value→World→Prop}(hT:T m.i=some t)(hk:m.kind=5)(hg:o.guard=none)(f:FuncId)(args:Array Value)(he:∀w,(execOp a.eval o).run P w= .ok (.enter f args) w)
    (h1:∀w,Ext b w→S w→(∀p∈h,Ext p.2.2 w)→Rh h→Calls P f args w fun e w'=>∃v,e= .returned v∧t w v w') (h2:∀w,Ext b w→S w→(∀p∈h,Ext p.2.2 w)→Rh h→∀v w',t w v w'→S w'∧Flow P T ops S Q rest (a.put o.dst v) w' []):Flow P T ops S Q ((o,m)::rest) a b h:=by
 simp only[Flow,hk];intro w hw hS hd ht;unfold Gy;rw[hT];refine⟨?_,h2 w hw hS hd ht⟩;unfold Hm;rw[if_pos (by simp[Region.wanted,hg]),he w];exact h1 w hw hS hd ht
end
section
variable{P:Program}{T:Tel}{ops:Array Oper}{S:World→Prop}{Q:Act→World→Prop}{o:Oper}{m:Ep}{rest:List (Oper×Ep)}{a:Act}{b:World}{h:List (Nat×World×World)}
end
theorem Ext.new(w:World)(o:Obj):Ext w (w.alloc o):=⟨(Below.refl _ _).alloc (Nat.le_refl _) o,Nat.le_refl _⟩
theorem pK(w:World):Ext w w.drew:=⟨(Below.refl _ _).drew,Nat.le_succ _⟩
end Go.Flow
namespace Go.Sep
theorem BR{P:Program}{w w':World}{a c:Addr}{u:TypeId}{v:Value}{at_:Bool}{l:List Addr}(h:w.viewStore P a u c v at_= .ok (w',l)):w'.drawn=w.drawn:=by
 unfold World.viewStore at h;simp only[bind,Except.bind,pure,Except.pure]at h
 repeat' split at h
 all_goals first|(cases h;done)|(cases h;rfl)
theorem KP{P:Program}{w w':World}{a:Addr}{v:Value}{at_:Bool}{l:List Addr}(h:w.farStore P a v at_= .ok (w',l)):w'.drawn=w.drawn:=by
 unfold World.farStore at h;split at h
 · split at h
   · rename_i hv
     cases h;exact BR hv
   ·cases h
 ·cases h
theorem KQ{α:Type}:∀(x:Ask α) (w:World),w.drawn≤(w.ask x).2.drawn:=by
 intro x
 induction x with
 |done a=>intro w;exact Nat.le_refl _
 | ask what range k ih=>
   intro w;unfold World.ask;dsimp only;split
   ·exact ih _ _
   ·exact Nat.le_trans (Nat.le_succ w.drawn) (ih _ {w with drawn:=w.drawn+1})
theorem KR(w:World)(c:Sys):w.drawn≤(w.sys c).2.drawn:=by
 have h:=KQ (Kernel.perform c w.os) w;unfold World.sys;split
 ·exact Nat.le_refl _
 · rename_i e
   rw[e]at h;exact h
theorem run_drawn{α:Type}{P:Program}(x:Sem α):∀(w w':World) (a:α),x.run P w= .ok a w'→w.drawn≤w'.drawn:=by
 induction x with
 |pure a=>intro w w' b h;simp only[Sem.run,Result.ok.injEq]at h;rw[h.2];exact Nat.le_refl _
 | load m a k ih=>
   intro w w' b h;unfold Sem.run at h;split at h
   ·exact ih _ _ _ _ h
   · split at h
     ·exact ih _ _ _ _ h
     ·cases h
 | store m a v k ih=>
   intro w w' b h;have key:(match w.cell? a with
       |some _=>if w.frozen? a then Result.halt (.unsupported (.unsafePointer "a write to bytes that a string shares")) w else k.run P (w.setCell a v)
       | none=>match w.farStore P a v (m== .atomic)with
         | .ok (w,_)=>k.run P w
         | .error h=> .halt h w)=Result.ok b w'→w.drawn≤w'.drawn:=fun h=>by
    split at h
    · split at h
      ·cases h
      · have t:=ih _ _ _ h
        exact t
    · split at h
      · rename_i hf
        have t:=ih _ _ _ h;rw[KP hf]at t;exact t
      ·cases h
   cases v<;>first|exact key h|(simp only[Sem.run]at h;cases h;done)
 |new o k ih=>intro w w' b h;unfold Sem.run at h;have t:=ih _ _ _ _ h;exact t
 |shape r k ih=>intro w w' b h;unfold Sem.run at h;exact ih _ _ _ _ h
 | freeze a n k ih=>
   intro w w' b h;unfold Sem.run at h;have:=ih _ _ _ h;have e:(w.freeze a n).drawn=w.drawn:=by unfold World.freeze;split<;>rfl
   omega
 |frozen a k ih=>intro w w' b h;unfold Sem.run at h;exact ih _ _ _ _ h
 | getObj r k ih=>
   intro w w' b h;unfold Sem.run at h;split at h
   ·cases h
   ·exact ih _ _ _ _ h
   ·cases h
 | setObj r o k ih=>
   intro w w' b h;unfold Sem.run at h;split at h
   ·cases h
   · have t:=ih _ _ _ h
     exact t
   ·cases h
 | choose q k ih=>
   intro w w' b h;unfold Sem.run at h;split at h
   ·exact ih _ _ _ _ h
   · have:=ih _ _ _ _ h
     simp at this;omega
 | sys c k ih=>
   intro w w' b h;unfold Sem.run at h;have t:=ih _ _ _ _ h;exact Nat.le_trans (KR w c) t
 |program k ih=>intro w w' b h;unfold Sem.run at h;exact ih _ _ _ _ h
 |mark m k ih=>intro w w' b h;unfold Sem.run at h;exact ih _ _ _ h
 |halt x=>intro w w' b h;unfold Sem.run at h;cases h
end Go.Sep
namespace Go.Mem
open Go.RowKit Go.Flow
structure Fv(X:Nat→Prop)(w w':World):Prop where
 os:w'.os=w.os
 tape:w'.tape=w.tape
 output:w'.output=w.output
 size:w.heap.size≤w'.heap.size
 block:∀k,k<w.heap.size→¬X k→w'.heap[k]?=w.heap[k]?
 drawn:w.drawn≤w'.drawn
theorem Fv.refl(X:Nat→Prop)(w:World):Fv X w w:=⟨rfl,rfl,rfl,Nat.le_refl _,fun _ _ _=>rfl,Nat.le_refl _⟩
theorem Fv.trans{X Y Z:Nat→Prop}{a b c:World}(h:Fv X a b)(k:Fv Y b c)(hx:∀i,i<a.heap.size→X i→Z i)(hy:∀i,i<a.heap.size→Y i→Z i):Fv Z a c:=
 ⟨k.os.trans h.os,k.tape.trans h.tape,k.output.trans h.output,Nat.le_trans h.size k.size,fun i hi hn=>(k.block i (Nat.lt_of_lt_of_le hi h.size) (fun e=>hn (hy i hi e))).trans (h.block i hi (fun e=>hn (hx i hi e))),Nat.le_trans h.drawn k.drawn⟩
theorem Fv.mono{X Y:Nat→Prop}{a b:World}(h:Fv X a b)(hx:∀i,i<a.heap.size→X i→Y i):Fv Y a b:=⟨h.os,h.tape,h.output,h.size,fun i hi hn=>h.block i hi (fun e=>hn (hx i hi e)),h.drawn⟩
theorem Uh{X:Nat→Prop}{a b:World}(h:Ext a b):Fv X a b:=⟨h.os,h.tape,h.output,h.size,fun i hi _=>h.block i hi,h.drawn⟩
theorem Fv.ext{X:Nat→Prop}{a b:World}(h:Fv X a b)(hx:∀i,i<a.heap.size→¬X i):Ext a b:=⟨⟨h.os,h.tape,h.output,h.size,fun i hi=>h.block i hi (hx i hi)⟩,h.drawn⟩
theorem Fv.then_ext{X:Nat→Prop}{a b c:World}(h:Fv X a b)(k:Ext b c):Fv X a c:=h.trans (Uh (X:=X) k) (fun _ _ h=>h) (fun _ _ h=>h)
theorem Fv.seq{X:Nat→Prop}{a b c:World}(h:Fv X a b)(k:Fv X b c):Fv X a c:=h.trans k (fun _ _ h=>h) (fun _ _ h=>h)
theorem Ol{a b:World}{row:Option Nat}(h:a.grownBy b row)(hd:a.drawn≤b.drawn):Fv (fun i=>some i=row) a b:=⟨h.os,h.tape,h.output,h.size,fun i hi hn=>h.block i hi hn,hd⟩
theorem Fv.setCell(w:World)(p:Addr)(u:Value):Fv (fun i=>i=p.block) w (w.setCell p u):=⟨rfl,rfl,rfl,by simp[World.setCell],fun i _ hn=>Below.heap_setCell _ _ _ _ hn,Nat.le_refl _⟩
def Src(w:World)(A:Option Addr)(xs:List Value):Prop:=xs=[]∨∃g off,A=some ⟨g,off,none⟩∧w.rangeAt g off xs
section
variable{w w':World}{base:Nat}{e:TypeId}{size:Nat}{v:Value}{n:Nat}{xs:List Value}
theorem Im(h:w.ownsRow base e size v n xs):∃A cap,v= .slice A n cap∧Src w A xs∧n≤cap∧cap≤maxLen:=by
 rcases h.2 with⟨hv,hn⟩|⟨g,cap,cur,hv,hb,hgg,hnc,hcm,hcs,htake⟩
 · subst hn
   exact⟨none,0,hv, .inl (List.eq_nil_of_length_eq_zero (by simpa using h.1)),Nat.le_refl _,Nat.zero_le _⟩
 · refine⟨some ⟨g,0,none⟩,cap,hv, .inr ⟨g,0,rfl,fun j u hu=>?_⟩,hnc,hcm⟩
   have:=h.cells (g:=g) (by rw[hv];rfl) j u hu;rwa[Addr.add_mid]at this
end
section
variable{P:Program}(w:World)
theorem Qn(base:Nat)(t ty e:TypeId)(i:TypeInfo)(z:Value)(size bytes:Nat)(ht:P.underlying t=some (.slice e))(hi:P.info? e=some i)(hz:i.zero=some z)
    (hsize:i.size=size) (hby:i.bytes=bytes) (hzs:z.cells.size=size) (hsz:0<size)
    (v:Value) (n:Nat) (xs:List Value) (hown:w.ownsRow base e size v n xs)
    (A:Option Addr) (m c:Nat) (news:List Value) (hl:news.length=m*size) (hs:Src w A news) (h1:∀u∈news,u.oneCell'=true)
    (h63:n+m≤maxLen) (hbytes:(n+m)*bytes≤140737488355328) (hbase:base≤w.heap.size):
    ∃v' w',(Builtin.append_ #[t,t] ty #[v, .slice A m c]).run P w= .ok v' w'∧w'.ownsRow base e size v' (n+m) (xs++news)∧Fv (fun g=>v.ownBlock=some g) w w'∧
     (v'.ownBlock=v.ownBlock∨v'.ownBlock=some w.heap.size):=by
 have hk:∀w',w.grownBy w' v.ownBlock→w.drawn≤w'.drawn→Fv (fun g=>v.ownBlock=some g) w w':=fun w' h hd=>(Ol h hd).mono fun _ _ h=>h.symm;cases A with
 | none=>
   have hn:news=[]:=by
    rcases hs with h|⟨g,off,h,_⟩
    ·exact h
    ·cases h
   subst hn;have hm:m=0:=by
    rcases Nat.eq_zero_or_pos m with h|h
    ·exact h
    · have:0<m*size:=Nat.mul_pos h hsz
      simp at hl;omega
   subst hm;refine⟨v,w,?_,by simpa using hown,Fv.refl _ _, .inl rfl⟩;rcases hown.2 with⟨rfl,rfl⟩|⟨g,cap,cur,rfl,_,_,hnc,_⟩
   ·simp[Builtin.append_,run_underlying ht,sizeOf,typeInfo,hi,Builtin.lenOf,Builtin.firstCells]
   ·simp[Builtin.append_,run_underlying ht,sizeOf,typeInfo,hi,Builtin.lenOf,Builtin.firstCells,hnc,storeCells]
 | some ad=>
   have hc:∀j u,news[j]?=some u→w.cell? (ad.add j)=some u:=by
    intro j u hu;rcases hs with rfl|⟨g,off,hA,hr⟩
    ·simp at hu
    · injection hA with hA
      subst hA;rw[Addr.add_mid];exact hr j u hu
   obtain⟨v',w',hrun,h2,h3,_,h5⟩:=run_append_own_at (P:=P) w base t ty e i z size bytes ht hi hz hsize hby hzs hsz v n xs hown ad m c news hl hc h1 h63 hbytes hbase;exact⟨v',w',hrun,h2,hk w' h3 (Go.Sep.run_drawn _ _ _ _ hrun),h5⟩
end
section
variable{w w':World}{base:Nat}{e:TypeId}{size:Nat}{g n cap:Nat}{xs:List Value}
theorem KS(h:w.ownsRow base e size (.slice (some ⟨g,0,none⟩) n cap) n xs):w.rangeAt g 0 xs:=fun j u hu=>by
 have:=h.cells (g:=g) rfl j u hu;rwa[Addr.add_mid]at this
theorem Ji{w:World}{g:Nat}{cs:List Value}{t:TypeId}{fz:Nat×Nat}(h:w.heap[g]?=some (.cells cs.toArray t fz)):w.rangeAt g 0 cs:=fun j u hu=>by
 rw[cell_of_row w g (0+j) _ t fz h];simpa using hu
def over(xs:List Value)(o:Nat)(cs:List Value):List Value:=xs.take o++cs++xs.drop (o+cs.length)
end
section
variable{P:Program}(w:World)
end
theorem dZ(xs:List Value)(o:Nat)(v:Value)(r:List Value)(h:o+(r.length+1)≤xs.length):over (xs.set o v) (o+1) r=over xs o (v::r):=by
 unfold over;have h1:(xs.set o v).take (o+1)=xs.take o++[v]:=by
  rw[List.take_succ_eq_append_getElem (by simp;omega),List.getElem_set_self,List.take_set_of_le (Nat.le_refl _)]
 have h2:(xs.set o v).drop (o+1+r.length)=xs.drop (o+(v::r).length):=by
  rw[List.drop_set_of_lt (by omega)];congr 1;simp;omega
 rw[h1,h2];simp
theorem aP{base:Nat}{e:TypeId}{size g n cap:Nat}:∀(cs:List Value) (o:Nat) (w:World) (xs:List Value),w.ownsRow base e size (.slice (some ⟨g,0,none⟩) n cap) n xs→o+cs.length≤n*size→
    (w.setCells g o cs).ownsRow base e size (.slice (some ⟨g,0,none⟩) n cap) n (over xs o cs)
 |[],o,w,xs,h,_=>by simpa[World.setCells,over]using h
 | v::r,o,w,xs,h,hf=>by
   have hl:=h.1;have h1:=aP r (o+1) (w.setCell ⟨g,o,none⟩ v) (xs.set o v) (h.stored o v).1 (by simp at hf;omega);rw[dZ xs o v r (by simp at hf;omega)]at h1;exact h1
theorem Wo(g:Nat):∀(cs:List Value) (o:Nat) (w:World),Fv (fun i=>i=g) w (w.setCells g o cs)
 |[],_,_=>Fv.refl _ _
 |v::r,o,w=>(Fv.setCell w ⟨g,o,none⟩ v).seq (Wo g r (o+1) _)
theorem KT{w:World}{base:Nat}{e:TypeId}{size g n cap:Nat}{xs:List Value}(h:w.ownsRow base e size (.slice (some ⟨g,0,none⟩) n cap) n xs)(o k:Nat)(hf:o+k≤n*size):w.there g o k:=fun j hj=>by
 refine⟨?_,h.frozenAt _⟩;rw[h.cellAt (o+j) (by omega),List.getElem?_eq_getElem (by rw[h.1];omega)];rfl
end Go.Mem
namespace Go.Sep
open Go.RowKit Go.Flow Go.Mem
abbrev Bj:=List (Nat×Value)
def look:Bj→Nat→Option Value
 |[],_=>none
 |(k,v)::r,t=>bif Nat.beq k t then some v else look r t
def ev(ρ:Bj):Operand→Option Value
 | .tmp t=>look ρ t
 | .const v=>some v
 | .global g=>some (.pointer (some ⟨g,0,none⟩))
 | .func f=>some (.func (.func f) #[] #[])
def evs(ρ:Bj):List Operand→Option (List Value)
 |[]=>some []
 | x::r=>match ev ρ x,evs ρ r with
   |some v,some l=>some (v::l)
   |_,_=>none
def Vz(ρ:Bj)(a:Act):Prop:=∀t v,look ρ t=some v→a.tmps[t]?=some v
structure Has(n:Nat)(ds:List Deferred)(ρ:Bj)(a:Act):Prop where
 size:a.tmps.size=n
 defers:a.defers=ds
 sees:Vz ρ a
theorem Vz.eval{ρ:Bj}{a:Act}(h:Vz ρ a){x:Operand}{v:Value}(hx:ev ρ x=some v):a.eval x=v:=by
 cases x with
 |tmp t=>simp only[Act.eval];rw[Array.getD_eq_getD_getElem?,h t v hx];rfl
 |const u=>exact Option.some.inj hx
 |global g=>exact Option.some.inj hx
 |func f=>exact Option.some.inj hx
theorem Vz.evals{ρ:Bj}{a:Act}(h:Vz ρ a):∀{xs:List Operand} {vs:List Value},evs ρ xs=some vs→xs.map a.eval=vs
 |[],vs,hx=>by simp[evs]at hx;simp[←hx]
 | x ::r,vs,hx=>by
   unfold evs at hx;split at hx
   · rename_i v l h1 h2
     simp only[Option.some.injEq]at hx;rw[List.map_cons,h.eval h1,h.evals h2,←hx]
   ·cases hx
theorem Vz.put{ρ:Bj}{a:Act}(h:Vz ρ a){d:Nat}{v:Value}(hd:d<a.tmps.size):Vz ((d,v)::ρ) (a.put (some d) v):=by
 intro t u ht;unfold look at ht;simp only[Act.put];rw[Array.getElem?_setIfInBounds];cases hb:Nat.beq d t with
 | true=>
   have e:=Nat.eq_of_beq_eq_true hb;rw[hb]at ht;simp only[cond_true,Option.some.injEq]at ht;rw[if_pos e,if_pos hd,ht]
 | false=>
   have e:d≠t:=fun e=>by rw[e,Nat.beq_refl]at hb;cases hb
   rw[hb]at ht;rw[if_neg e];exact h t u ht
theorem Has.put{n:Nat}{ds:List Deferred}{ρ:Bj}{a:Act}(h:Has n ds ρ a){d:Nat}{v:Value}(hd:Nat.blt d n=true):Has n ds ((d,v)::ρ) (a.put (some d) v):=
 ⟨by simp[Act.put,h.size],h.defers,h.sees.put (by rw[h.size];exact Nat.le_of_ble_eq_true hd)⟩
def Wd(ρ:Bj):Bj→Prop
 |[]=>True
 |(k,v)::r=>look ρ k=some v∧Wd ρ r
theorem Wd.look{ρ:Bj}:∀{ρ':Bj},Wd ρ ρ'→∀t v,look ρ' t=some v→Sep.look ρ t=some v
 |[],_,t,v,h=>by simp[Sep.look]at h
 | (k,u)::r,hs,t,v,h=>by
   unfold Sep.look at h;cases hb:Nat.beq k t with
   | true=>
     rw[hb]at h;simp only[cond_true,Option.some.injEq]at h;rw[←Nat.eq_of_beq_eq_true hb,←h];exact hs.1
   |false=>rw[hb]at h;exact hs.2.look t v h
theorem Has.sub{n:Nat}{ds:List Deferred}{ρ ρ':Bj}{a:Act}(h:Has n ds ρ a)(hs:Wd ρ ρ'):Has n ds ρ' a:=⟨h.size,h.defers,fun t v ht=>h.sees t v (hs.look t v ht)⟩
def slotsOf:Nat→List Value→Bj
 |_,[]=>[]
 |k,v::r=>(k,v)::slotsOf (k+1) r
theorem aQ:∀(l:List Value) (k t:Nat) (v:Value),look (slotsOf k l) t=some v→k≤t∧l[t-k]?=some v
 |[],k,t,v,h=>by simp[slotsOf,look]at h
 | u ::r,k,t,v,h=>by
   unfold slotsOf look at h;cases hb:Nat.beq k t with
   | true=>
     have e:=Nat.eq_of_beq_eq_true hb;rw[hb]at h;simp only[cond_true,Option.some.injEq]at h;subst e;subst h;exact⟨Nat.le_refl _,by simp⟩
   | false=>
     rw[hb]at h;obtain⟨h1,h2⟩:=aQ r (k+1) t v h;refine⟨by omega,?_⟩;have:t-k=(t-(k+1))+1:=by omega
     rw[this,List.getElem?_cons_succ];exact h2
theorem Yd(l:List Value)(n:Nat)(hn:Nat.ble l.length n=true):Has n [] (slotsOf 0 l) {tmps:=l.toArray++Array.replicate (n-l.toArray.size) undef,defers:=[]}:=by
 have hn:=Nat.le_of_ble_eq_true hn;refine⟨by simp;omega,rfl,fun t v ht=>?_⟩;obtain⟨_,h2⟩:=aQ l 0 t v ht;have hlt:t<l.length:=by
  rcases Nat.lt_or_ge t l.length with h|h
  ·exact h
  ·rw[Nat.sub_zero,List.getElem?_eq_none h]at h2;cases h2
 rw[Array.getElem?_append_left (by simpa using hlt)];simpa using h2
structure Ad where
 owns:List Nat
 reads:List Nat
 holds:World→Prop
 loc:∀w w':World,(∀g,g∈owns∨g∈reads→w'.heap[g]?=w.heap[g]?)→holds w→holds w'
 lt:∀w:World,holds w→∀g,g∈owns∨g∈reads→g<w.heap.size
def owns(Γ:List Ad):List Nat:=Γ.flatMap Ad.owns
def reads(Γ:List Ad):List Nat:=Γ.flatMap Ad.reads
structure sat(Γ:List Ad)(w:World):Prop where
 each:∀c∈Γ,c.holds w
 nodup:(owns Γ).Nodup
 apart:∀g∈reads Γ,g∉owns Γ
theorem Ri{Γ:List Ad}{g:Nat}:g∈owns Γ↔ ∃c∈Γ,g∈c.owns:=by simp[owns]
theorem dm{Γ:List Ad}{g:Nat}:g∈reads Γ↔ ∃c∈Γ,g∈c.reads:=by simp[reads]
theorem sat.lt_own{Γ:List Ad}{w:World}(h:sat Γ w){g:Nat}(hg:g∈owns Γ):g<w.heap.size:=by
 obtain⟨c,hc,hgc⟩:=Ri.1 hg;exact c.lt w (h.each c hc) g (.inl hgc)
theorem sat.lt_read{Γ:List Ad}{w:World}(h:sat Γ w){g:Nat}(hg:g∈reads Γ):g<w.heap.size:=by
 obtain⟨c,hc,hgc⟩:=dm.1 hg;exact c.lt w (h.each c hc) g (.inr hgc)
theorem sat.nil(w:World):sat [] w:=⟨by simp,by simp[owns],by simp[reads]⟩
theorem sat.ext{Γ:List Ad}{w w':World}(h:sat Γ w)(k:Ext w w'):sat Γ w':=
 ⟨fun c hc=>c.loc w w' (fun g hg=>k.block g (c.lt w (h.each c hc) g hg)) (h.each c hc),h.nodup,h.apart⟩
theorem Dk(Γ Δ:List Ad):owns (Γ++Δ)=owns Γ++owns Δ:=by simp[owns]
theorem Ez(Γ Δ:List Ad):reads (Γ++Δ)=reads Γ++reads Δ:=by simp[reads]
theorem sat.perm{Γ Δ:List Ad}{w:World}(h:sat Γ w)(p:Γ.Perm Δ):sat Δ w:=
 ⟨fun c hc=>h.each c (p.mem_iff.2 hc),(p.flatMap_right Ad.owns).nodup_iff.1 h.nodup,fun g hg hn=>by
  obtain⟨c,hc,hgc⟩:=dm.1 hg;obtain⟨d,hd,hgd⟩:=Ri.1 hn;exact h.apart g (dm.2 ⟨c,p.mem_iff.2 hc,hgc⟩) (Ri.2 ⟨d,p.mem_iff.2 hd,hgd⟩)⟩
theorem sat.left{Γ Δ:List Ad}{w:World}(h:sat (Γ++Δ) w):sat Γ w:=
 ⟨fun c hc=>h.each c (List.mem_append_left _ hc),by have:=h.nodup;rw[Dk]at this;exact(List.nodup_append.1 this).1,
  fun g hg hn=>h.apart g (by rw[Ez];exact List.mem_append_left _ hg) (by rw[Dk];exact List.mem_append_left _ hn)⟩
theorem sat.right{Γ Δ:List Ad}{w:World}(h:sat (Γ++Δ) w):sat Δ w:=
 ⟨fun c hc=>h.each c (List.mem_append_right _ hc),by have:=h.nodup;rw[Dk]at this;exact(List.nodup_append.1 this).2.1,
  fun g hg hn=>h.apart g (by rw[Ez];exact List.mem_append_right _ hg) (by rw[Dk];exact List.mem_append_right _ hn)⟩
structure Db(Γ Γ':List Ad)(w w':World):Prop where
 sat:sat Γ' w'
 keeps:Fv (fun g=>g∈owns Γ) w w'
 own:∀g∈owns Γ',g<w.heap.size→g∈owns Γ
 rd:∀g∈reads Γ',g<w.heap.size→g∈owns Γ∨g∈reads Γ
theorem Db.frame{Γ Γ' Δ:List Ad}{w w':World}(hs:Sep.sat (Γ++Δ) w)(h:Db Γ Γ' w w'):Db (Γ++Δ) (Γ'++Δ) w w':=by
 have hd:=hs.right;have hnd:=hs.nodup;rw[Dk]at hnd;have hdis:∀g∈owns Γ,g∉owns Δ:=fun g h1 h2=>(List.nodup_append.1 hnd).2.2 g h1 g h2 rfl;have hrd:∀g∈reads Δ,g∉owns Γ:=fun g h1 h2=>hs.apart g (by rw[Ez];exact List.mem_append_right _ h1) (by rw[Dk];exact List.mem_append_left _ h2);have hro:∀g∈reads Γ,g∉owns Δ:=fun g h1 h2=>hs.apart g (by rw[Ez];exact List.mem_append_left _ h1) (by rw[Dk];exact List.mem_append_right _ h2);refine⟨⟨?_,?_,?_⟩,?_,?_,?_⟩
 · intro c hc
   rcases List.mem_append.1 hc with h1|h1
   ·exact h.sat.each c h1
   · refine c.loc w w' (fun g hg=>h.keeps.block g (c.lt w (hd.each c h1) g hg) ?_) (hd.each c h1)
     rcases hg with hg|hg
     ·exact fun h2=>hdis g h2 (Ri.2 ⟨c,h1,hg⟩)
     ·exact hrd g (dm.2 ⟨c,h1,hg⟩)
 · rw[Dk]
   refine List.nodup_append.2 ⟨h.sat.nodup,hd.nodup,?_⟩;intro g h1 g' h2 e;subst e;exact hdis g (h.own g h1 (hd.lt_own h2)) h2
 · intro g hg hn
   rw[Ez]at hg;rw[Dk]at hn;rcases List.mem_append.1 hg with h1|h1<;>rcases List.mem_append.1 hn with h2|h2
   ·exact h.sat.apart g h1 h2
   · rcases h.rd g h1 (hd.lt_own h2)with h3|h3
     ·exact hdis g h3 h2
     ·exact hro g h3 h2
   ·exact hrd g h1 (h.own g h2 (hd.lt_read h1))
   ·exact hd.apart g h1 h2
 ·exact h.keeps.mono fun g _ hg=>by rw[Dk];exact List.mem_append_left _ hg
 · intro g hg hl
   rw[Dk]at hg⊢;rcases List.mem_append.1 hg with h1|h1
   ·exact List.mem_append_left _ (h.own g h1 hl)
   ·exact List.mem_append_right _ h1
 · intro g hg hl
   rw[Ez]at hg⊢;rw[Dk];rcases List.mem_append.1 hg with h1|h1
   · rcases h.rd g h1 hl with h2|h2
     ·exact .inl (List.mem_append_left _ h2)
     ·exact .inr (List.mem_append_left _ h2)
   ·exact .inr (List.mem_append_right _ h1)
theorem Db.trans{Γ Δ Θ:List Ad}{a b c:World}(h:Db Γ Δ a b)(k:Db Δ Θ b c):Db Γ Θ a c:=
 ⟨k.sat,h.keeps.trans k.keeps (fun _ _ h=>h) (fun g hl hg=>h.own g hg hl),
  fun g hg hl=>h.own g (k.own g hg (Nat.lt_of_lt_of_le hl h.keeps.size)) hl,
  fun g hg hl=>by
   rcases k.rd g hg (Nat.lt_of_lt_of_le hl h.keeps.size)with h1|h1
   ·exact .inl (h.own g h1 hl)
   ·exact h.rd g h1 hl⟩
theorem Db.refl{Γ:List Ad}{w:World}(h:Sep.sat Γ w):Db Γ Γ w w:=⟨h,Fv.refl _ _,fun _ h _=>h,fun _ h _=> .inr h⟩
theorem Db.perm{Γ Γ' Δ:List Ad}{w w':World}(h:Db Γ Γ' w w')(p:Γ'.Perm Δ):Db Γ Δ w w':=
 ⟨h.sat.perm p,h.keeps,fun g hg=>h.own g ((p.flatMap_right Ad.owns).mem_iff.2 hg),fun g hg=>h.rd g ((p.flatMap_right Ad.reads).mem_iff.2 hg)⟩
theorem Db.drop{Γ Γ' Δ:List Ad}{w w':World}(h:Db Γ (Γ'++Δ) w w'):Db Γ Γ' w w':=
 ⟨h.sat.left,h.keeps,fun g hg=>h.own g (by rw[Dk];exact List.mem_append_left _ hg),fun g hg=>h.rd g (by rw[Ez];exact List.mem_append_left _ hg)⟩
theorem Db.ext{Γ Δ:List Ad}{w w' w'':World}(h:Db Γ Δ w w')(k:Ext w' w''):Db Γ Δ w w'':=
 ⟨h.sat.ext k,h.keeps.then_ext k,h.own,h.rd⟩
theorem Db.pre{Γ Γ' Δ:List Ad}{w w':World}(p:Γ.Perm Γ')(h:Db Γ' Δ w w'):Db Γ Δ w w':=
 ⟨h.sat,h.keeps.mono (fun _ _ hg=>(p.flatMap_right Ad.owns).mem_iff.2 hg),fun g hg hl=>(p.flatMap_right Ad.owns).mem_iff.2 (h.own g hg hl),
  fun g hg hl=>(h.rd g hg hl).imp (p.flatMap_right Ad.owns).mem_iff.2 (p.flatMap_right Ad.reads).mem_iff.2⟩
structure Cx where
 n:Nat
 Γ0:List Ad
 w0:World
 ds:List Deferred
def To(C:Cx)(ρ:Bj)(Γ:List Ad)(K:Act→World→Prop):Prop:=∀a w,Has C.n C.ds ρ a→Db C.Γ0 Γ C.w0 w→K a w
section rules
variable{P:Program}{C:Cx}{ρ ρ':Bj}{Γ Γ':List Ad}{K:Act→World→Prop}{Q:Exit→Act→World→Prop}
theorem Ju(ρ':Bj)(hs:Wd ρ ρ')(h:To C ρ' Γ K):To C ρ Γ K:=fun a w ha hp=>h a w (ha.sub hs) hp
theorem bz(p:Γ.Perm Γ')(h:To C ρ Γ' K):To C ρ Γ K:=fun a w ha hp=>h a w ha (hp.perm p)
theorem To.drop{Δ:List Ad}(h:To C ρ Γ K):To C ρ (Γ++Δ) K:=fun a w ha hp=>h a w ha hp.drop
theorem pM{p:Prop}(hp:∀w,sat Γ w→p)(h:p→To C ρ Γ K):To C ρ Γ K:=fun a w ha hq=>h (hp w hq.sat) a w ha hq
theorem Js{x y:Code}(h:To C ρ Γ (x.wp P (Exit.then (y.wp P Q) Q))):To C ρ Γ ((Code.seq x y).wp P Q):=fun a w ha hp=>wp_seq (h a w ha hp)
theorem Jsp(h:To C ρ Γ (Q .normal)):To C ρ Γ (Code.skip.wp P Q):=fun a w ha hp=>wp_skip (h a w ha hp)
theorem Jex{id:Nat}(h:To C ρ Γ (Q (.exit id))):To C ρ Γ ((Code.exit id).wp P Q):=fun a w ha hp=>wp_exit (h a w ha hp)
theorem Jrt(h:To C ρ Γ (Q .ret)):To C ρ Γ (Code.ret.wp P Q):=fun a w ha hp=>wp_ret (h a w ha hp)
theorem To.b{id:Nat}{c:Code}(h:To C ρ Γ (c.wp P (Exit.inBlock id Q))):To C ρ Γ ((Code.block id c).wp P Q):=fun a w ha hp=>wp_block (h a w ha hp)
theorem Ld{c:Operand}{x y:Code}(hc:ev ρ c=some (.bool true))(h:To C ρ Γ (x.wp P Q)):To C ρ Γ ((Code.cond c x y).wp P Q):=
 fun a w ha hp=>wp_cond_true (ha.sees.eval hc) (h a w ha hp)
theorem BS{c:Operand}{x y:Code}(hc:ev ρ c=some (.bool false))(h:To C ρ Γ (y.wp P Q)):To C ρ Γ ((Code.cond c x y).wp P Q):=
 fun a w ha hp=>wp_cond_false (ha.sees.eval hc) (h a w ha hp)
theorem Ee{c:Operand}{x y:Code}{t:Bool}(hc:ev ρ c=some (.bool t))(h1:t=true→To C ρ Γ (x.wp P Q))(h2:t=false→To C ρ Γ (y.wp P Q)):To C ρ Γ ((Code.cond c x y).wp P Q):=
 fun a w ha hp=>wp_cond_split (ha.sees.eval hc) (fun e=>h1 e a w ha hp) (fun e=>h2 e a w ha hp)
theorem aa{c:Operand}{x y:Code}{p:Prop} [Decidable p](hc:ev ρ c=some (.bool (decide p)))(h1:p→To C ρ Γ (x.wp P Q))(h2:¬p→To C ρ Γ (y.wp P Q)):To C ρ Γ ((Code.cond c x y).wp P Q):=
 Ee hc (fun e=>h1 (of_decide_eq_true e)) (fun e=>h2 (of_decide_eq_false e))
theorem cz{id:Nat}{l:List Oper}(h:To C ρ Γ (wpList P l.toArray Q l)):To C ρ Γ ((Code.region id l.toArray false).wp P Q):=fun a w ha hp=>wp_region_lit (h a w ha hp)
theorem Jn{ops:Array Oper}(h:To C ρ Γ (Q .normal)):To C ρ Γ (wpList P ops Q []):=h
theorem Jt{Q':Exit→Act→World→Prop}(h:To C ρ Γ K):To C ρ Γ (Exit.then K Q' .normal):=h
theorem Jtx{id:Nat}(h:To C ρ Γ (Q (.exit id))):To C ρ Γ (Exit.then K Q (.exit id)):=h
theorem Jbn{id:Nat}(h:To C ρ Γ (Q .normal)):To C ρ Γ (Exit.inBlock id Q .normal):=h
theorem Jbx{id:Nat}(h:To C ρ Γ (Q .normal)):To C ρ Γ (Exit.inBlock id Q (.exit id)):=fun a w ha hp=>by
 show(if id=id then _ else _);rw[if_pos rfl];exact h a w ha hp
theorem GQ{id id':Nat}(hne:Nat.beq id' id=false)(h:To C ρ Γ (Q (.exit id'))):To C ρ Γ (Exit.inBlock id Q (.exit id')):=fun a w ha hp=>by
 show(if id'=id then _ else _);rw[if_neg (fun e=>by rw[e,Nat.beq_refl]at hne;cases hne)];exact h a w ha hp
def aR(C:Cx)(I:Nat→Bj→List Ad→Prop)(m:Nat)(a:Act)(w:World):Prop:=∃k,k<m∧∃ρ Γ,I k ρ Γ∧Has C.n C.ds ρ a∧Db C.Γ0 Γ C.w0 w
theorem To.loop{c:Code}(I:Nat→Bj→List Ad→Prop)(m0:Nat)(h0:I m0 ρ Γ)(round:∀m ρ Γ,I m ρ Γ→To C ρ Γ (c.wp P (Exit.then (aR C I m) Q))):To C ρ Γ ((Code.loop c).wp P Q):=fun _ _ ha hp=>
 wp_loop_ghost (fun m a w=>∃ρ Γ,I m ρ Γ∧Has C.n C.ds ρ a∧Db C.Γ0 Γ C.w0 w) m0 ⟨ρ,Γ,h0,ha,hp⟩ fun m a w ⟨ρ,Γ,hI,ha,hp⟩=>round m ρ Γ hI a w ha hp
theorem Jag{I:Nat→Bj→List Ad→Prop}{m:Nat}(k:Nat)(hk:k<m)(h:I k ρ Γ):To C ρ Γ (aR C I m):=fun _ _ ha hp=>⟨k,hk,ρ,Γ,h,ha,hp⟩
theorem QB{I:Nat→Bj→List Ad→Prop}{m:Nat}{ρ':Bj}(k:Nat)(hk:k<m)(h:I k ρ' Γ∧Wd ρ ρ'):To C ρ Γ (aR C I m):=fun _ _ ha hp=>⟨k,hk,ρ',Γ,h.1,ha.sub h.2,hp⟩
theorem aEk{c:Code}{ρ':Bj}(I:Nat→Bj→List Ad→Prop)(m0:Nat)(h0:I m0 ρ' Γ∧Wd ρ ρ')(round:∀m ρ Γ,I m ρ Γ→To C ρ Γ (c.wp P (Exit.then (aR C I m) Q))):To C ρ Γ ((Code.loop c).wp P Q):=Ju ρ' h0.2 (To.loop I m0 h0.1 round)
theorem Jhe{T:Type}{F:T→Bj×List Ad}{p:T→Prop}(t:T)(hp:p t)(hs:Wd ρ (F t).1)(hg:(F t).2=Γ):To C ρ Γ (fun a w=>∃t,p t∧Has C.n C.ds (F t).1 a∧Db C.Γ0 (F t).2 C.w0 w):=
 fun _ _ ha hq=>⟨t,hp,ha.sub hs,by rw[hg];exact hq⟩
end rules
def Bd(P:Program)(f:FuncId)(args:List Value)(Γ:List Ad)(R:Value→List Ad→Prop):Prop:=
 ∀w,sat Γ w→Calls P f args.toArray w fun e w'=>∃v Γ',e= .returned v∧R v Γ'∧Db Γ Γ' w w'
def Fin(C:Cx)(R:Value→List Ad→Prop)(e:Ending)(w':World):Prop:=∃v Γ',e= .returned v∧R v Γ'∧Db C.Γ0 Γ' C.w0 w'
theorem Bd.enter{P:Program}{f:FuncId}{args:List Value}{Γ:List Ad}{R:Value→List Ad→Prop}{fn:Func}{c:Code}{n:Nat}
    (hf:P.funcs[f]?=some fn) (hb:fn.body=some c) (hn:fn.ntmps=n) (hl:Nat.ble args.length n=true)
    (h:∀w,To ⟨n,Γ,w,[]⟩ (slotsOf 0 args) Γ (c.wp P (bodyPost P fn (Fin ⟨n,Γ,w,[]⟩ R)))):Bd P f args Γ R:=fun w hs=>by
 refine calls_of_wp hf hb ?_;rw[hn];exact h w _ w (Yd args n hl) (Db.refl hs)
theorem Bd.mono{P:Program}{f:FuncId}{args:List Value}{Γ:List Ad}{R R':Value→List Ad→Prop}(h:Bd P f args Γ R)(hr:∀v Γ',R v Γ'→R' v Γ'):Bd P f args Γ R':=
 fun w hs=>(h w hs).mono fun _ _ ⟨v,Γ',h1,h2,h3⟩=>⟨v,Γ',h1,hr v Γ' h2,h3⟩
section ends
variable{P:Program}{C:Cx}{ρ:Bj}{Γ:List Ad}{R:Value→List Ad→Prop}{fn:Func}
theorem wC{ex:Exit}{v:Value}(hex:ex= .ret∨ex= .normal)(hr:∀a w,Has C.n C.ds ρ a→sat Γ w→(results fn a.tmps).run P w= .ok v w)(h:R v Γ)(hds:C.ds=[]:=by rfl):To C ρ Γ (bodyPost P fn (Fin C R) ex):=fun a w ha hp=>by
 rcases hex with rfl|rfl
 ·exact⟨ha.defers.trans hds,v,hr a w ha hp.sat,v,Γ,rfl,h,hp⟩
 ·exact⟨ha.defers.trans hds,v,hr a w ha hp.sat,v,Γ,rfl,h,hp⟩
theorem Dr{ex:Exit}(hex:ex= .ret∨ex= .normal)(hres:fn.results=#[])(h:R (.tuple #[]) Γ)(hds:C.ds=[]:=by rfl):To C ρ Γ (bodyPost P fn (Fin C R) ex):=
 wC hex (fun a w _ _=>results_none hres a.tmps P w) h hds
theorem XC{ex:Exit}{t:Nat}{v:Value}(hex:ex= .ret∨ex= .normal)(hres:fn.results=#[.tmp t])(hv:look ρ t=some v)(h:R v Γ)(hds:C.ds=[]:=by rfl):To C ρ Γ (bodyPost P fn (Fin C R) ex):=
 wC hex (fun a w ha _=>by rw[results_tmp hres,Array.getD_eq_getD_getElem?,ha.sees t v hv];rfl) h hds
theorem Ei{ex:Exit}{t u:Nat}{v v':Value}(hex:ex= .ret∨ex= .normal)(hres:fn.results=#[.tmp t, .tmp u])(hv:look ρ t=some v)(hv':look ρ u=some v')(h:R (.tuple #[v,v']) Γ)(hds:C.ds=[]:=by rfl):To C ρ Γ (bodyPost P fn (Fin C R) ex):=
 wC hex (fun a w ha _=>by rw[results_tmp2 hres,Array.getD_eq_getD_getElem?,ha.sees t v hv,Array.getD_eq_getD_getElem?,ha.sees u v' hv'];rfl) h hds
end ends
theorem BU{w w':World}{base:Nat}{e:TypeId}{size:Nat}{v:Value}{n:Nat}{xs:List Value}(h:w.ownsRow base e size v n xs)(k:∀g,v.ownBlock=some g→w'.heap[g]?=w.heap[g]?):w'.ownsRow base e size v n xs:=by
 refine⟨h.1,?_⟩;rcases h.2 with hn|⟨g,cap,cur,hv,hb,hgg,rest⟩
 ·exact .inl hn
 ·exact .inr ⟨g,cap,cur,hv,hb,(k g (by rw[hv];rfl)).trans hgg,rest⟩
def box(b:Nat)(cs:List Value)(t:TypeId):Ad where
 owns:=[b]
 reads:=[]
 holds w:=w.heap[b]?=some (.cells cs.toArray t (0,0))
 loc w w' h hw:=by rw[h b (.inl (by simp))];exact hw
 lt w hw g hg:=by
  simp only[List.mem_singleton,List.not_mem_nil,or_false]at hg;subst hg;exact lt_of_block hw
def Ik(A:Option Addr):List Nat:=(A.map Addr.block).toList
theorem Om{A:Option Addr}{g:Nat}:g∈Ik A↔ ∃a,A=some a∧a.block=g:=by
 cases A<;>simp[Ik,eq_comm]
def row(e:TypeId)(size:Nat)(A:Option Addr)(n cap:Nat)(xs:List Value):Ad where
 owns:=Ik A
 reads:=[]
 holds w:=w.ownsRow 0 e size (.slice A n cap) n xs
 loc w w' h hw:=by
  refine BU hw fun g hg=>?_;refine h g (.inl ?_);cases A with
  |none=>simp[Value.ownBlock]at hg
  |some a=>simp[Value.ownBlock]at hg;simp[Ik,hg]
 lt w hw g hg:=by
  simp only[List.not_mem_nil,or_false]at hg;obtain⟨a,rfl,rfl⟩:=Om.1 hg;exact(hw.lt _ rfl).2
def Jc(A:Option Addr):List Value→List Nat
 |[]=>[]
 |_::_=>Ik A
theorem aj{α:Type _}{as bs:List α}:(as++bs).length=as.length+bs.length:=List.length_append
theorem ag{α:Type _}{a:α}{as:List α}:(a::as).length=as.length+1:=List.length_cons
theorem bg{α:Type _}:([]:List α).length=0:=List.length_nil
theorem sN{α:Type _}{l:List α}{i:Nat}{a:α}(h:l[i]?=some a):a∈l:=List.mem_of_getElem? h
theorem gge{α:Type _}{l:List α}{i:Nat}(h:i<l.length):l[i]?=some l[i]:=List.getElem?_eq_getElem h
abbrev bE:ByteArray:=ByteArray.empty
abbrev iv(z:Int):Value:= .int .i64 z
abbrev nz:Value:= .slice none 0 0
abbrev ub(k:Nat):Value:= .int .u8 ((k:Nat):Int)
abbrev ui(z:Int):Value:= .int .u8 z
abbrev wb(k:Nat):Value:= .int .u32 ((k:Nat):Int)
abbrev wi(z:Int):Value:= .int .u32 z
abbrev xb(k:Nat):Value:= .int .u64 ((k:Nat):Int)
abbrev xi(z:Int):Value:= .int .u64 z
abbrev bf:Value:= .bool false
abbrev bt:Value:= .bool true
abbrev yB:=ByteArray
abbrev vU:=Value
abbrev pG:=Program
abbrev tI:=TypeId
abbrev wD:=World
abbrev oP:=@Option
theorem kr{p:Prop}(h:p:=by kernel_rfl):p:=h
theorem de{p:Prop}(h:p:=by decide):p:=h
theorem sm{p:Prop}(h:p:=by simp):p:=h
abbrev nv(k:Nat):Value:= .int .i64 ((k:Nat):Int)
abbrev pv(b:Nat):Value:= .pointer (some ⟨b,0,none⟩)
def ro(A:Option Addr)(xs:List Value):Ad where
 owns:=[]
 reads:=Jc A xs
 holds w:=Src w A xs
 loc w w' h hw:=by
  rcases hw with rfl|⟨g,off,rfl,hr⟩
  ·exact .inl rfl
  · cases xs with
    |nil=>exact .inl rfl
    | cons x xs=>
      refine .inr ⟨g,off,rfl,fun j v hv=>?_⟩;have:=hr j v hv;simp only[World.cell?]at this⊢;rw[h g (.inr (by simp[Jc,Ik]))];exact this
 lt w hw g hg:=by
  simp only[List.not_mem_nil,false_or]at hg;rcases hw with rfl|⟨g',off,rfl,hr⟩
  ·simp[Jc]at hg
  · cases xs with
    |nil=>simp[Jc]at hg
    | cons x xs=>
      simp[Jc,Ik]at hg;subst hg;exact World.block_lt_of_cell? w ⟨g,off+0,none⟩ (hr 0 x rfl)
def Ad.gives(c:Ad)(b off:Nat)(us:List Value):Prop:=∀w,c.holds w→w.rangeAt b off us
def Ad.takes(c:Ad)(b off:Nat)(us:List Value)(c':Ad):Prop:=∀w,c.holds w→w.there b off us.length∧c'.holds (w.setCells b off us)∧(b∈c.owns)∧c'.owns=c.owns∧c'.reads=c.reads
def blk(A:Option Addr):Nat:=(A.getD ⟨0,0,none⟩).block
def ofs(A:Option Addr):Nat:=(A.getD ⟨0,0,none⟩).off
def sub(xs:List Value)(o n:Nat):List Value:=(xs.drop o).take n
theorem eB{w:World}{g off o n:Nat}{xs us:List Value}(h:w.rangeAt g off xs)(hu:sub xs o n=us):w.rangeAt g (off+o) us:=fun j v hv=>by
 rw[←hu,sub]at hv;have h1:(xs.drop o)[j]?=some v:=by
  rw[List.getElem?_take]at hv;split at hv
  ·exact hv
  ·cases hv
 rw[List.getElem?_drop]at h1;rw[Nat.add_assoc];exact h _ _ h1
theorem Ob{b o n:Nat}{cs us:List Value}{t:TypeId}(hu:sub cs o n=us):(box b cs t).gives b o us:=fun w hw=>by
 have:=eB (Ji hw) hu;rwa[Nat.zero_add]at this
theorem bg1{b o:Nat}{cs:List Value}{u:Value}{t:TypeId}(hu:cs[o]?=some u):(box b cs t).gives b o [u]:=Ob (n:=1) (by
 unfold sub;have hlt:o<cs.length:=(List.getElem?_eq_some_iff.1 hu).1;rw[List.drop_eq_getElem_cons hlt,(List.getElem?_eq_some_iff.1 hu).2];rfl)
theorem Qa{w:World}{e:TypeId}{size:Nat}{A:Option Addr}{n cap:Nat}{xs:List Value}(h:w.ownsRow 0 e size (.slice A n cap) n xs)(hn:0<n):A=some ⟨blk A,0,none⟩:=by
 rcases h.2 with⟨_,h2⟩|⟨g,cap',cur,hv,_⟩
 ·omega
 ·simp only[Value.slice.injEq]at hv;rw[hv.1];rfl
theorem KU{w:World}{e:TypeId}{size:Nat}{A:Option Addr}{n cap:Nat}{xs:List Value}(h:w.ownsRow 0 e size (.slice A n cap) n xs){us:List Value}{o k:Nat}(hu:sub xs o k=us)(hus:us≠[]):A=some ⟨blk A,0,none⟩:=by
 refine Qa h ?_;rcases Nat.eq_zero_or_pos n with hn|hn
 · have h0:=h.1
   rw[hn,Nat.zero_mul]at h0;have:xs=[]:=List.length_eq_zero_iff.1 h0;rw[this]at hu;simp[sub]at hu;exact(hus hu).elim
 ·exact hn
theorem pO{e:TypeId}{size:Nat}{A:Option Addr}{n cap o k:Nat}{xs us:List Value}(hu:sub xs o k=us):(row e size A n cap xs).gives (blk A) (ofs A+o) us:=fun w hw=>by
 cases us with
 |nil=>exact fun j v hv=>by simp at hv
 | cons u us=>
   have e1:=KU hw hu (by simp);have hw':w.ownsRow 0 e size (.slice (some ⟨blk A,0,none⟩) n cap) n xs:=by rw[←e1];exact hw
   have:ofs A=0:=by rw[e1];rfl
   rw[this];exact eB (KS hw') hu
theorem Ev{A:Option Addr}{o k:Nat}{xs us:List Value}(hu:sub xs o k=us):(ro A xs).gives (blk A) (ofs A+o) us:=fun w hw=>by
 rcases hw with rfl|⟨g,off,rfl,hr⟩
 ·simp[sub]at hu;subst hu;exact fun j v hv=>by simp at hv
 ·exact eB hr hu
theorem aHt{xs:List Value}{o:Nat}{u:Value}(hu:xs[o]?=some u):sub xs o 1=[u]:=by
 unfold sub;have hlt:o<xs.length:=(List.getElem?_eq_some_iff.1 hu).1;rw[List.drop_eq_getElem_cons hlt,(List.getElem?_eq_some_iff.1 hu).2];rfl
theorem kE{α:Type}{enc:α→List Value}{size:Nat}(hs:∀x,(enc x).length=size):∀{l:List α} {j:Nat} {y:α},l[j]?=some y→sub (l.flatMap enc) (j*size) size=enc y
 |[],j,y,h=>by simp at h
 | x::l,0,y,h=>by
   simp only[List.getElem?_cons_zero,Option.some.injEq]at h;subst h;unfold sub;rw[Nat.zero_mul,List.drop_zero,List.flatMap_cons,←hs x,List.take_left]
 | x::l,j+1,y,h=>by
   rw[List.getElem?_cons_succ]at h;have:=kE hs h;unfold sub at this⊢;have e1:(j+1)*size-(enc x).length=j*size:=by rw[hs x,Nat.add_mul,Nat.one_mul];omega
   rw[List.flatMap_cons,List.drop_append,List.drop_of_length_le (by rw[hs x,Nat.add_mul,Nat.one_mul];omega),List.nil_append,e1];exact this
def oks(Γ:List Ad)(w:World):Prop:=∀c∈Γ,c.holds w
def Rd(P:Program)(o:Oper)(ρ:Bj)(Γ:List Ad)(v:Value):Prop:=∀a w,Vz ρ a→oks Γ w→(execOp a.eval o).run P w= .ok (.value v) w
def Up(P:Program)(o:Oper)(ρ:Bj)(Γ Γ':List Ad):Prop:=∀a w,Vz ρ a→sat Γ w→∃w',(execOp a.eval o).run P w= .ok .skip w'∧Db Γ Γ' w w'
def Mk(P:Program)(o:Oper)(ρ:Bj)(Γ:List Ad)(R:Value→List Ad→Prop):Prop:=∀a w,Vz ρ a→oks Γ w→∃v N w',(execOp a.eval o).run P w= .ok (.value v) w'∧R v N∧Db [] N w w'
def Ge(P:Program)(o:Oper)(ρ:Bj)(Γ:List Ad)(R:Value→List Ad→Prop):Prop:=∀a w,Vz ρ a→sat Γ w→∃v Γ' w',(execOp a.eval o).run P w= .ok (.value v) w'∧R v Γ'∧Db Γ Γ' w w'
def Ent(P:Program)(o:Oper)(ρ:Bj)(f:FuncId)(vs:List Value):Prop:=∀a w,Vz ρ a→(execOp a.eval o).run P w= .ok (.enter f vs.toArray) w
def grd(ops:Array Oper)(ρ:Bj)(o:Oper):Option Bool:=
 match o.guard with
 |none=>some true
 | some (j,s)=>match((ops[j]?).bind (·.dst)).bind (look ρ)with
   | some v=>match v with
     | .bool b=>some (b==s)
     |_=>some false
   |none=>none
def aEl:Value→Option Bool
 | .bool b=>some b
 |_=>none
theorem Es{ops:Array Oper}{ρ:Bj}{o:Oper}{t:Bool}(h:grd ops ρ o=some t){a:Act}(ha:Vz ρ a):Region.wanted o (yielded ops a.tmps)=t:=by
 unfold grd at h;unfold Region.wanted;cases hg:o.guard with
 |none=>rw[hg]at h;simpa using h
 | some js=>
   obtain⟨j,s⟩:=js;rw[hg]at h;simp only at h⊢;cases hd:(ops[j]?).bind (·.dst)with
   |none=>rw[hd]at h;simp at h
   | some d=>
     rw[hd]at h;simp only[Option.bind_some]at h;cases hl:look ρ d with
     |none=>rw[hl]at h;simp at h
     | some v=>
       rw[hl]at h;have hy:yielded ops a.tmps j=aEl v:=by
        unfold yielded;rw[hd];simp only[Option.bind_some,ha d _ hl];cases v<;>rfl
       rw[hy];cases v with
       | bool b=>
         simp only[Option.some.injEq]at h;subst h;cases b<;>cases s<;>rfl
       |_=>simp only[Option.some.injEq]at h;subst h;rfl
section walk
variable{P:Program}{o:Oper}{ρ:Bj}{Γ Γ':List Ad}{C:Cx}{ops:Array Oper}{Q:Exit→Act→World→Prop}{rest:List Oper}{v:Value}{d:Nat}
theorem eD{a:Act}{w w':World}{v:Value}(hg:Region.wanted o (yielded ops a.tmps)=true)(hr:(execOp a.eval o).run P w= .ok (.value v) w')(k:wpList P ops Q rest (a.put o.dst v) w'):wpList P ops Q (o::rest) a w:=by
 refine wpList_step fun K hK=>?_;rw[if_pos hg];unfold Oper.wp;rw[hr];exact hK _ _ k
theorem BV{a:Act}{w w':World}(hg:Region.wanted o (yielded ops a.tmps)=true)(hr:(execOp a.eval o).run P w= .ok .skip w')(k:wpList P ops Q rest (a.put o.dst undef) w'):wpList P ops Q (o::rest) a w:=by
 refine wpList_step fun K hK=>?_;rw[if_pos hg];unfold Oper.wp;rw[hr];exact hK _ _ k
theorem To.rd(hg:grd ops ρ o=some true)(hd:o.dst=some d)(hn:Nat.blt d C.n=true)(h:Rd P o ρ Γ v)(k:To C ((d,v)::ρ) Γ (wpList P ops Q rest)):To C ρ Γ (wpList P ops Q (o::rest)):=
 fun a w ha hp=>eD (Es hg ha.sees) (h a w ha.sees hp.sat.each) (by rw[hd];exact k _ w (ha.put hn) hp)
theorem Jsk(hg:grd ops ρ o=some false)(hd:o.dst=some d)(hn:Nat.blt d C.n=true)(k:To C ((d,undef)::ρ) Γ (wpList P ops Q rest)):To C ρ Γ (wpList P ops Q (o::rest)):=
 fun a w ha hp=>by
  refine wpList_step fun K hK=>?_;rw[if_neg (by rw[Es hg ha.sees];simp),hd];exact hK _ _ (k _ w (ha.put hn) hp)
theorem Jup(hg:grd ops ρ o=some true)(hd:o.dst=none)(h:Up P o ρ Γ Γ')(k:To C ρ Γ' (wpList P ops Q rest)):To C ρ Γ (wpList P ops Q (o::rest)):=
 fun a w ha hp=>by
  obtain⟨w',hr,hq⟩:=h a w ha.sees hp.sat
  refine BV (Es hg ha.sees) hr ?_;rw[hd];exact k a w' ha (hp.trans hq)
theorem Db.add{N:List Ad}{w w':World}(hs:Sep.sat Γ w)(h:Db [] N w w'):Db Γ (N++Γ) w w':=Db.frame (Γ:=[]) (Δ:=Γ) hs h
theorem Jmk{R:Value→List Ad→Prop}(hg:grd ops ρ o=some true)(hd:o.dst=some d)(hn:Nat.blt d C.n=true)(h:Mk P o ρ Γ R)(k:∀v N,R v N→To C ((d,v)::ρ) (N++Γ) (wpList P ops Q rest)):To C ρ Γ (wpList P ops Q (o::rest)):=
 fun a w ha hp=>by
  obtain⟨v,N,w',hr,hR,hq⟩:=h a w ha.sees hp.sat.each;refine eD (Es hg ha.sees) hr ?_;rw[hd];exact k v N hR _ w' (ha.put hn) (hp.trans (hq.add hp.sat))
theorem Jge{R:Value→List Ad→Prop}(hg:grd ops ρ o=some true)(hd:o.dst=some d)(hn:Nat.blt d C.n=true)(h:Ge P o ρ Γ R)(k:∀v Γ',R v Γ'→To C ((d,v)::ρ) Γ' (wpList P ops Q rest)):To C ρ Γ (wpList P ops Q (o::rest)):=
 fun a w ha hp=>by
  obtain⟨v,Γ',w',hr,hR,hq⟩:=h a w ha.sees hp.sat
  refine eD (Es hg ha.sees) hr ?_;rw[hd];exact k v Γ' hR _ w' (ha.put hn) (hp.trans hq)
def Ui:List Ad→List Nat→Option (List Ad×List Ad)
 |Γ,[]=>some ([],Γ)
 | Γ,i::r=>match Γ[i]?,Ui (Γ.eraseIdx i) r with
   |some c,some (l,R)=>some (c::l,R)
   |_,_=>none
theorem Jd{α:Type}:∀{l:List α} {i:Nat} {x:α},l[i]?=some x→l.Perm (x::l.eraseIdx i)
 |[],i,x,h=>by simp at h
 |y::l,0,x,h=>by simp at h;subst h;exact List.Perm.refl _
 | y::l,i+1,x,h=>by
   rw[List.getElem?_cons_succ]at h;rw[List.eraseIdx_cons_succ];exact((Jd h).cons y).trans (List.Perm.swap x y _)
theorem Jv:∀{is:List Nat} {Γ Γ1 R:List Ad},Ui Γ is=some (Γ1,R)→Γ.Perm (Γ1++R)
 | [],Γ,Γ1,R,h=>by
   simp only[Ui,Option.some.injEq,Prod.mk.injEq]at h;obtain⟨rfl,rfl⟩:=h;exact List.Perm.refl _
 | i ::r,Γ,Γ1,R,h=>by
   unfold Ui at h;split at h
   · rename_i c l R' h1 h2
     simp only[Option.some.injEq,Prod.mk.injEq]at h;obtain⟨rfl,rfl⟩:=h;exact(Jd h1).trans ((Jv h2).cons c)
   ·cases h
theorem Db.at_{is:List Nat}{Γ1 Γ1' R:List Ad}{w w':World}(hp:Ui Γ is=some (Γ1,R))(hs:Sep.sat Γ w)(h:Db Γ1 Γ1' w w'):Db Γ (Γ1'++R) w w':=
 Db.pre (Jv hp) (h.frame (hs.perm (Jv hp)))
theorem Jcl{R:Value→List Ad→Prop}{f:FuncId}{vs:List Value}{Γ1 Δ:List Ad}(is:List Nat)(hg:grd ops ρ o=some true)(hd:o.dst=some d)(hn:Nat.blt d C.n=true)(he:Ent P o ρ f vs)(hp:Ui Γ is=some (Γ1,Δ))
    (hc:Bd P f vs Γ1 R) (k:∀v Γ',R v Γ'→To C ((d,v)::ρ) (Γ'++Δ) (wpList P ops Q rest)):To C ρ Γ (wpList P ops Q (o::rest)):=
 fun a w ha hq=>by
  refine wpList_step fun K hK=>?_;rw[if_pos (Es hg ha.sees)];unfold Oper.wp;rw[he a w ha.sees];refine(hc w ((hq.sat.perm (Jv hp)).left)).mono ?_;rintro e w' ⟨v,Γ',rfl,hR,hpost⟩;show K _ _;rw[hd];exact hK _ _ (k v Γ' hR _ w' (ha.put hn) (hq.trans (Db.at_ hp hq.sat hpost)))
theorem Rj{Γ1 Γ1':List Ad}{w w':World}(hq:owns Γ1=[])(h:Db Γ1 Γ1' w w')(hr:reads Γ1'=[]):Db [] Γ1' w w':=
 ⟨h.sat,by have:=h.keeps;rw[hq]at this;exact this,fun g hg hl=>by have:=h.own g hg hl;rw[hq]at this;exact this,fun g hg=>by rw[hr]at hg;simp at hg⟩
theorem Gh{Γ1:List Ad}{w:World}(hq:owns Γ1=[])(h:oks Γ1 w):sat Γ1 w:=⟨h,by rw[hq];simp,fun g _=>by rw[hq];simp⟩
theorem JcQ{R:Value→List Ad→Prop}{f:FuncId}{vs:List Value}{Γ1:List Ad}(hg:grd ops ρ o=some true)(hd:o.dst=some d)(hn:Nat.blt d C.n=true)(he:Ent P o ρ f vs)(hc:Bd P f vs Γ1 R)(hq:owns Γ1=[])(hs:∀w,oks Γ w→oks Γ1 w)
    (k:∀v Γ',R v Γ'→reads Γ'=[]∧To C ((d,v)::ρ) (Γ'++Γ) (wpList P ops Q rest)):To C ρ Γ (wpList P ops Q (o::rest)):=
 fun a w ha hp=>by
  refine wpList_step fun K hK=>?_;rw[if_pos (Es hg ha.sees)];unfold Oper.wp;rw[he a w ha.sees];refine(hc w (Gh hq (hs w hp.sat.each))).mono ?_;rintro e w' ⟨v,Γ',rfl,hR,hpost⟩;show K _ _;rw[hd];obtain⟨hr,hk⟩:=k v Γ' hR;exact hK _ _ (hk _ w' (ha.put hn) (hp.trans ((Rj hq hpost hr).add hp.sat)))
theorem Jas(Δ:List Ad)(h:Γ=Δ){K:Act→World→Prop}(k:To C ρ Δ K):To C ρ Γ K:=by rw[h];exact k
theorem Eg{Γ1 Δ:List Ad}(is:List Nat)(hp:Ui Γ is=some (Γ1,Δ)){K:Act→World→Prop}(k:To C ρ Γ1 K):To C ρ Γ K:=bz (Jv hp) k.drop
theorem Qb{c:Ad}(i:Nat)(hi:Γ[i]?=some c)(ho:c.owns=[]){K:Act→World→Prop}(k:To C ρ (c::Γ) K):To C ρ Γ K:=fun a w ha hq=>by
 have hm:c∈Γ:=List.mem_of_getElem? hi;have e1:owns (c::Γ)=owns Γ:=by simp[owns,ho]
 refine k a w ha ⟨⟨fun x hx=>?_,?_,fun g hg=>?_⟩,hq.keeps,fun g hg=>?_,fun g hg=>?_⟩
 · rcases List.mem_cons.1 hx with rfl|h
   ·exact hq.sat.each _ hm
   ·exact hq.sat.each x h
 ·rw[e1];exact hq.sat.nodup
 · rw[e1]
   obtain⟨x,hx,hgx⟩:=dm.1 hg;refine hq.sat.apart g (dm.2 ⟨x,?_,hgx⟩);rcases List.mem_cons.1 hx with rfl|h
   ·exact hm
   ·exact h
 ·rw[e1]at hg;exact hq.own g hg
 · obtain⟨x,hx,hgx⟩:=dm.1 hg
   refine hq.rd g (dm.2 ⟨x,?_,hgx⟩);rcases List.mem_cons.1 hx with rfl|h
   ·exact hm
   ·exact h
end walk
class Ff(P:Program)(ty:TypeId)(n:outParam Nat):Prop where
 h:∃d,P.underlying ty=some d∧d.isRow=true∧(P.info? ty).map (·.size)=some n
class Ca(P:Program)(ty:TypeId):Prop where
 h:∃d,P.underlying ty=some d∧d.isRow=false∧(P.info? ty).map (·.size)=some 1
class De(P:Program)(ty:TypeId)(zs:outParam (List Value)):Prop where
 h:(P.info? ty).bind (fun i=>i.zero.map (·.cells.toList))=some zs
class Qx(P:Program)(s:TypeId)(f:Nat)(k:outParam Nat):Prop where
 h:∃fs fd i,P.underlying s=some (.struct fs)∧fs[f]?=some fd∧fd.offset=k∧P.info? fd.type=some i∧0<i.size
class La(P:Program)(s:TypeId)(ks:outParam (List Nat)):Prop where
 h:∃fs,P.underlying s=some (.struct fs)∧((fs.toList.map fun fd=>(fd.offset,(P.info? fd.type).any fun i=>Nat.blt 0 i.size)).take ks.length)=ks.map (·,true)
theorem La.of{P:Program}{s:TypeId}{ks:List Nat}{fs:Array Field}(h:P.underlying s=some (.struct fs))(h1:((fs.toList.map fun fd=>(fd.offset,(P.info? fd.type).any fun i=>Nat.blt 0 i.size)).take ks.length)=ks.map (·,true):=by kernel_rfl):La P s ks:=⟨fs,h,h1⟩
theorem La.ft{P:Program}{s:TypeId}{ks:List Nat}{f k:Nat}(h:La P s ks)(hk:ks[f]?=some k):Qx P s f k:=by
 obtain⟨fs,h1,h2⟩:=h;have h3:=congrArg (·[f]?) h2;have h0:=(List.getElem?_eq_some_iff.1 hk).1;simp only[List.getElem?_take,h0,if_true,List.getElem?_map,hk,Option.map_some,Option.map_eq_some_iff,Prod.mk.injEq]at h3;obtain⟨fd,h4,h5,h6⟩:=h3;cases hi:P.info? fd.type with
 |none=>rw[hi]at h6;cases h6
 |some i=>
  rw[hi]at h6;exact⟨fs,fd,i,h1,by rw[←Array.getElem?_toList];exact h4,h5,hi,Nat.le_of_ble_eq_true h6⟩
class Ce(P:Program)(t:TypeId)(e:outParam TypeId)(size bytes:outParam Nat)(zs:outParam (List Value)):Prop where
 und:P.underlying t=some (.slice e)
 inf:∃i z,P.info? e=some i∧i.zero=some z∧i.size=size∧i.bytes=bytes∧z.cells=zs.toArray
 len:zs.length=size
 pos:0<size
 one:∀u∈zs,u.oneCell'=true
theorem Ff.of{P:Program}{ty:TypeId}{n:Nat}{d:TypeDesc}(h:P.underlying ty=some d)(h1:d.isRow=true:=by rfl)(h2:(P.info? ty).map (·.size)=some n:=by kernel_rfl):Ff P ty n:=⟨d,h,h1,h2⟩
theorem Ca.of{P:Program}{ty:TypeId}{d:TypeDesc}(h:P.underlying ty=some d)(h1:d.isRow=false:=by rfl)(h2:(P.info? ty).map (·.size)=some 1:=by kernel_rfl):Ca P ty:=⟨d,h,h1,h2⟩
theorem De.of{P:Program}{ty:TypeId}{zs:List Value}(h:(P.info? ty).bind (fun i=>i.zero.map (·.cells.toList))=some zs:=by kernel_rfl):De P ty zs:=⟨h⟩
theorem Qx.of{P:Program}{s:TypeId}{f k:Nat}{fs:Array Field}{fd:Field}(h:P.underlying s=some (.struct fs))(h1:fs[f]?=some fd:=by rfl)(h2:fd.offset=k:=by rfl)(h3:(P.info? fd.type).any (fun i=>Nat.blt 0 i.size)=true:=by kernel_rfl):Qx P s f k:=by
 cases hi:P.info? fd.type with
 |none=>rw[hi]at h3;cases h3
 |some i=>rw[hi]at h3;exact⟨fs,fd,i,h,h1,h2,hi,Nat.le_of_ble_eq_true h3⟩
theorem Ce.of{P:Program}{t e:TypeId}{size bytes:Nat}{z:Value}{zs:List Value}(h:P.underlying t=some (.slice e))(h1:(P.info? e).map (fun i=>(i.zero,i.size,i.bytes))=some (some z,size,bytes))(h2:z.cells=zs.toArray)
    (h3:zs.length=size) (h4:Nat.blt 0 size=true) (h5:zs.all (·.oneCell')=true):Ce P t e size bytes zs:=by
 cases hi:P.info? e with
 |none=>rw[hi]at h1;cases h1
 | some i=>
   rw[hi]at h1;simp only[Option.map_some,Option.some.injEq,Prod.mk.injEq]at h1;exact⟨h,⟨i,z,hi,h1.1,h1.2.1,h1.2.2,h2⟩,h3,Nat.le_of_ble_eq_true h4,List.all_eq_true.1 h5⟩
theorem Ce.ofV{P:Program}{t e:TypeId}{bytes:Nat}{z:Value}(h:P.underlying t=some (.slice e))(h1:(P.info? e).map (fun i=>(i.zero,i.size,i.bytes))=some (some z,1,bytes):=by kernel_rfl)(h2:z.cells=#[z]:=by rfl)(h5:z.oneCell'=true:=by rfl):Ce P t e 1 bytes [z]:= .of h h1 h2 rfl rfl (by simp[h5])
theorem Ce.ofS{P:Program}{t e:TypeId}{size bytes:Nat}{zs:List Value}(h:P.underlying t=some (.slice e))(h1:(P.info? e).map (fun i=>(i.zero,i.size,i.bytes))=some (some (.agg zs.toArray),size,bytes):=by kernel_rfl)(h3:zs.length=size:=by rfl)(h4:Nat.blt 0 size=true:=by rfl)(h5:zs.all (·.oneCell')=true:=by rfl):Ce P t e size bytes zs:= .of h h1 rfl h3 h4 h5
section rd
variable{P:Program}{o:Oper}{ρ:Bj}{Γ:List Ad}{x y z:Operand}{u v:Value}
theorem dn(ho:o.op= .move x)(hx:ev ρ x=some v):Rd P o ρ Γ v:=fun a w ha _=>by unfold execOp;simp[ho,ha.eval hx]
theorem Rd.assign(ho:o.op= .assign x)(hx:ev ρ x=some v):Rd P o ρ Γ v:=fun a w ha _=>by unfold execOp;simp[ho,ha.eval hx]
theorem kF(ho:o.op= .pick x y z)(hx:ev ρ x=some (.bool true))(hy:ev ρ y=some v):Rd P o ρ Γ v:=fun a w ha _=>by
 unfold execOp;simp[ho,ha.eval hx,ha.eval hy,asBool]
theorem kG(ho:o.op= .pick x y z)(hx:ev ρ x=some (.bool false))(hz:ev ρ z=some v):Rd P o ρ Γ v:=fun a w ha _=>by
 unfold execOp;simp[ho,ha.eval hx,ha.eval hz,asBool]
theorem Rd.field{s:TypeId}{f k b off:Nat}(ho:o.op= .fieldAddr s x f)(hx:ev ρ x=some (.pointer (some ⟨b,off,none⟩)))(hf:Qx P s f k):Rd P o ρ Γ (.pointer (some ⟨b,off+k,none⟩)):=fun a w ha _=>by
 obtain⟨fs,fd,i,h1,h2,h3,h4,h5⟩:=hf;unfold execOp;simp[ho,ha.eval hx,Instr.fieldAt,run_underlying h1,h2,Instr.sureAddr,fieldPlace,sizeOf,typeInfo,h4,Nat.ne_of_gt h5,h3,Addr.add_mid]
theorem Rd.not{t:TypeId}{b:Bool}(ho:o.op= .unOp .not t x)(hx:ev ρ x=some (.bool b)):Rd P o ρ Γ (.bool (!b)):=fun a w ha _=>by
 unfold execOp;simp[ho,ha.eval hx,Op.unary]
theorem Rd.len{A:Option Addr}{n c:Nat}{t:TypeId}(ho:o.op= .call {callee:= .builtin .len,args:=#[x],argTypes:=#[t]})(hx:ev ρ x=some (.slice A n c)){e:TypeId}(ht:P.underlying t=some (.slice e)):Rd P o ρ Γ (.int .i64 n):=fun a w ha _=>by
 unfold execOp;simp[ho,resolve,invoke,builtin,ha.eval hx,Builtin.len_,run_underlying ht,goInt]
theorem dw{op:BinOp}{t t':TypeId}{r:Value}(ho:o.op= .binOp op t x y t')(hx:ev ρ x=some u)(hy:ev ρ y=some v)(h:∀w,(do eqGuard op t x y u v;binOp op t u v:Sem Value).run P w= .ok r w):Rd P o ρ Γ r:=fun a w ha _=>by
 unfold execOp;have:=h w;simp only[ho,ha.eval hx,ha.eval hy,Sem.run_bind]at this⊢;rw[this];rfl
section ints
variable{k:IntKind}{m n:Int}{t t':TypeId}
theorem Rd.lss(ho:o.op= .binOp .lss t x y t')(hx:ev ρ x=some (.int k m))(hy:ev ρ y=some (.int k n)):Rd P o ρ Γ (.bool (decide (m<n))):=dw ho hx hy fun w=>by simp[eqGuard,binOp,Op.intCmp]
theorem Rd.leq(ho:o.op= .binOp .leq t x y t')(hx:ev ρ x=some (.int k m))(hy:ev ρ y=some (.int k n)):Rd P o ρ Γ (.bool (decide (m≤n))):=dw ho hx hy fun w=>by simp[eqGuard,binOp,Op.intCmp]
theorem Rd.gtr(ho:o.op= .binOp .gtr t x y t')(hx:ev ρ x=some (.int k m))(hy:ev ρ y=some (.int k n)):Rd P o ρ Γ (.bool (decide (n<m))):=dw ho hx hy fun w=>by simp[eqGuard,binOp,Op.intCmp]
theorem Rd.geq(ho:o.op= .binOp .geq t x y t')(hx:ev ρ x=some (.int k m))(hy:ev ρ y=some (.int k n)):Rd P o ρ Γ (.bool (decide (n≤m))):=dw ho hx hy fun w=>by simp[eqGuard,binOp,Op.intCmp]
theorem Rd.eql(ho:o.op= .binOp .eql t x y t')(hx:ev ρ x=some (.int k m))(hy:ev ρ y=some (.int k n)):Rd P o ρ Γ (.bool (decide (m=n))):=dw ho hx hy fun w=>by
 simp[eqGuard,binOp,Op.intCmp];rfl
theorem Rd.neq(ho:o.op= .binOp .neq t x y t')(hx:ev ρ x=some (.int k m))(hy:ev ρ y=some (.int k n)):Rd P o ρ Γ (.bool (decide (m≠n))):=dw ho hx hy fun w=>by
 simp[eqGuard,binOp,Op.intCmp];rfl
theorem Rd.add(ho:o.op= .binOp .add t x y t')(hx:ev ρ x=some (.int k m))(hy:ev ρ y=some (.int k n))(h:k.wrap (m+n)=m+n):Rd P o ρ Γ (.int k (m+n)):=dw ho hx hy fun w=>by simp[eqGuard,binOp,Op.intArith,h]
theorem Rd.sub(ho:o.op= .binOp .sub t x y t')(hx:ev ρ x=some (.int k m))(hy:ev ρ y=some (.int k n))(h:k.wrap (m-n)=m-n):Rd P o ρ Γ (.int k (m-n)):=dw ho hx hy fun w=>by simp[eqGuard,binOp,Op.intArith,h]
theorem Rd.mul(ho:o.op= .binOp .mul t x y t')(hx:ev ρ x=some (.int k m))(hy:ev ρ y=some (.int k n))(h:k.wrap (m*n)=m*n):Rd P o ρ Γ (.int k (m*n)):=dw ho hx hy fun w=>by simp[eqGuard,binOp,Op.intArith,h]
theorem Io(ho:o.op= .binOp .add t x y t')(hx:ev ρ x=some (.int .i64 m))(hy:ev ρ y=some (.int .i64 n))(h:-9223372036854775808≤m+n∧m+n≤9223372036854775807):Rd P o ρ Γ (.int .i64 (m+n)):=Rd.add ho hx hy (IntWalk.i64_in _ (by omega))
theorem Fh(ho:o.op= .binOp .sub t x y t')(hx:ev ρ x=some (.int .i64 m))(hy:ev ρ y=some (.int .i64 n))(h:-9223372036854775808≤m-n∧m-n≤9223372036854775807):Rd P o ρ Γ (.int .i64 (m-n)):=Rd.sub ho hx hy (IntWalk.i64_in _ (by omega))
theorem QC{n:Nat}(ho:o.op= .binOp .add t x y t')(hx:ev ρ x=some (.int .i64 n))(hy:ev ρ y=some (.int .i64 1))(h:n<9223372036854775807):Rd P o ρ Γ (.int .i64 ((n+1:Nat):Int)):=by
 have:=Io (P:=P) (Γ:=Γ) ho hx hy (by omega);rwa[show((n:Int)+1)=((n+1:Nat):Int) by omega]at this
end ints
theorem Kg{s d:TypeId}{k k':IntKind}{m:Int}{ds:TypeDesc}(ho:o.op= .convert s d x)(hx:ev ρ x=some (.int k m))(hs:P.underlying s=some ds)(hd:P.underlying d=some (.int k'))(h:k'.wrap m=m):Rd P o ρ Γ (.int k' m):=fun a w ha _=>by
 unfold execOp;simp[ho,ha.eval hx,convert,run_underlying hs,run_underlying hd,Conv.intToInt,h]
theorem Rd.build{t:TypeId}{parts:List (Nat×Operand)}{vs:List (Nat×Value)}{cells:List Value}(ho:o.op= .build t parts.toArray)(hv:evs ρ (parts.map (·.2))=some (vs.map (·.2)))(hi:parts.map (·.1)=vs.map (·.1))(h:P.built t vs=some cells.toArray):Rd P o ρ Γ (.agg cells.toArray):=fun a w ha _=>by
 have e1:(parts.map fun p=>(p.1,a.eval p.2))=vs:=by
  have h1:=ha.evals hv;clear hv h ho
  induction parts generalizing vs with
  |nil=>cases vs<;>simp_all
  | cons p r ih=>
    cases vs with
    |nil=>simp at hi
    | cons q s=>
      simp only[List.map_cons,List.cons.injEq]at hi h1⊢;exact⟨by rw[hi.1,h1.1],ih (vs:=s) hi.2 h1.2⟩
 unfold execOp;simp only[ho,List.map_toArray,e1,Sem.run_bind,run_build w t vs.toArray cells.toArray h,Result.andThen_ok,Sem.run_pure]
theorem Cq{ty:TypeId}{b off i:Nat}{c:Ad}(ho:o.op= .load ty x)(hx:ev ρ x=some (.pointer (some ⟨b,off,none⟩)))(ht:Ca P ty)(hi:Γ[i]?=some c)(hc:c.gives b off [v]):Rd P o ρ Γ v:=fun a w ha hs=>by
 obtain⟨d,h1,h2,_⟩:=ht;have hv:w.cell? ⟨b,off,none⟩=some v:=hc w (hs c (List.mem_of_getElem? hi)) 0 v rfl;have hagg:(isAgg ty).run P w= .ok false w:=by
  unfold isAgg;rw[Sem.run_bind,run_underlying h1 w];cases d<;>simp_all
 unfold execOp;simp[ho,ha.eval hx,Instr.loadAt,Instr.sureAddr,loadVar,hagg,hv]
theorem Qc{ty:TypeId}{b off n i:Nat}{c:Ad}{us:List Value}(ho:o.op= .load ty x)(hx:ev ρ x=some (.pointer (some ⟨b,off,none⟩)))(ht:Ff P ty n)(hi:Γ[i]?=some c)(hc:c.gives b off us)(hl:us.length=n):Rd P o ρ Γ (.agg us.toArray):=fun a w ha hs=>by
 obtain⟨d,h1,h2,h3⟩:=ht;unfold execOp;simp only[ho,ha.eval hx,Sem.run_bind,run_loadAt_mid w b off ty us d (hc w (hs c (List.mem_of_getElem? hi))) h1 h2 (by rw[hl];exact h3),Result.andThen_ok,Sem.run_pure]
theorem wE{t e ie:TypeId}{size size' bytes:Nat}{zs:List Value}{A:Option Addr}{n cap j i:Nat}{xs:List Value}{k:IntKind}(ho:o.op= .indexAddr t x y)(hx:ev ρ x=some (.slice A n cap))(hy:ev ρ y=some (.int k j))(ht:Ce P t e size bytes zs)
    (hi:Γ[i]?=some (row ie size' A n cap xs)) (hj:j<n):Rd P o ρ Γ (.pointer (some ⟨blk A,ofs A+j*size,none⟩)):=fun a w ha hs=>by
 have h1:=Qa (hs _ (List.mem_of_getElem? hi)) (by omega);obtain⟨it,z,h2,h3,h4,_⟩:=ht.inf;unfold execOp;rw[h1]at hx;have:ofs A=0:=by rw[h1];rfl
 rw[this];simp[ho,ha.eval hx,ha.eval hy,Instr.indexAt,asIntOf,run_underlying ht.und,hj,sizeOf,typeInfo,h2,h4,Addr.add_mid]
theorem QD{w:World}{A:Option Addr}{xs:List Value}(h:Src w A xs)(hn:xs≠[]):A=some ⟨blk A,ofs A,none⟩:=by
 rcases h with h|⟨g,off,rfl,_⟩
 ·exact(hn h).elim
 ·rfl
theorem BX{t e:TypeId}{size bytes:Nat}{zs:List Value}{A:Option Addr}{n cap j i:Nat}{xs:List Value}{k:IntKind}(ho:o.op= .indexAddr t x y)(hx:ev ρ x=some (.slice A n cap))(hy:ev ρ y=some (.int k j))(ht:Ce P t e size bytes zs)
    (hi:Γ[i]?=some (ro A xs)) (hj:j<n) (hn:n*size=xs.length):Rd P o ρ Γ (.pointer (some ⟨blk A,ofs A+j*size,none⟩)):=fun a w ha hs=>by
 have h0:xs≠[]:=fun h=>by
  rw[h,List.length_nil]at hn;have:=Nat.mul_pos (Nat.lt_of_le_of_lt (Nat.zero_le j) hj) ht.pos;omega
 have h1:=QD (hs _ (List.mem_of_getElem? hi)) h0;obtain⟨it,z,h2,h3,h4,_⟩:=ht.inf;unfold execOp;rw[h1]at hx;simp[ho,ha.eval hx,ha.eval hy,Instr.indexAt,asIntOf,run_underlying ht.und,hj,sizeOf,typeInfo,h2,h4,Addr.add_mid]
end rd
section up
variable{P:Program}{o:Oper}{ρ:Bj}{Γ:List Ad}{x y z:Operand}{u v:Value}
theorem QE{w:World}{g:Nat}{cs:Array Value}{t:TypeId}(h:w.heap[g]?=some (.cells cs t (0,0))){off n:Nat}(hn:off+n≤cs.size):w.there g off n:=fun j hj=>by
 constructor
 ·simp[World.cell?,h,Array.getElem?_eq_getElem (show off+j<cs.size by omega)]
 ·simp[World.frozen?,h]
theorem wF{w:World}{b:Nat}{cs:Array Value}{t:TypeId}{fz:Nat×Nat}(h:w.heap[b]?=some (.cells cs t fz))(o:Nat)(u:Value):(w.setCell ⟨b,o,none⟩ u).heap[b]?=some (.cells (cs.setIfInBounds o u) t fz):=by
 have hlt:=lt_of_block h;have h':w.heap[b]= .cells cs t fz:=by simpa[Array.getElem?_eq_getElem hlt]using h
 show(w.heap.modify b _)[b]?=_;rw[Array.getElem?_eq_getElem (by simpa using hlt),Array.getElem_modify_self,h'];rfl
theorem Uj{t:TypeId}{b:Nat}:∀(us:List Value) (off:Nat) (w:World) (cs:List Value),w.heap[b]?=some (.cells cs.toArray t (0,0))→off+us.length≤cs.length→
    (w.setCells b off us).heap[b]?=some (.cells (over cs off us).toArray t (0,0))
 |[],off,w,cs,h,_=>by simpa[World.setCells,over]using h
 | u::r,off,w,cs,h,hf=>by
   simp only[List.length_cons]at hf;have h1:(w.setCell ⟨b,off,none⟩ u).heap[b]?=some (.cells (cs.set off u).toArray t (0,0)):=by
    have:=wF h off u;rwa[List.setIfInBounds_toArray]at this
   have:=Uj r (off+1) (w.setCell ⟨b,off,none⟩ u) (cs.set off u) h1 (by rw[List.length_set];omega);rw[dZ cs off u r (by omega)]at this;exact this
theorem Ye{b off:Nat}{cs us ds:List Value}{t:TypeId}(hl:Nat.ble (off+us.length) cs.length=true)(hd:over cs off us=ds):(box b cs t).takes b off us (box b ds t):=fun w hw=>
 ⟨QE hw (by simpa using Nat.le_of_ble_eq_true hl),by rw[←hd];exact Uj us off w cs hw (Nat.le_of_ble_eq_true hl),by simp[box],rfl,rfl⟩
theorem eF{e:TypeId}{size:Nat}{A:Option Addr}{n cap off:Nat}{xs us ds:List Value}(hl:off+us.length≤n*size)(hu:us≠[])(hd:over xs off us=ds):(row e size A n cap xs).takes (blk A) (ofs A+off) us (row e size A n cap ds):=fun w hw=>by
 have hn:0<n:=by
  rcases Nat.eq_zero_or_pos n with h|h
  · have:0<us.length:=List.length_pos_iff.2 hu
    rw[h,Nat.zero_mul]at hl;omega
  ·exact h
 have h1:=Qa hw hn;have hw':w.ownsRow 0 e size (.slice (some ⟨blk A,0,none⟩) n cap) n xs:=by rw[←h1];exact hw
 have h0:ofs A=0:=by rw[h1];rfl
 rw[h0,Nat.zero_add];refine⟨KT hw' off us.length hl,?_,?_,rfl,rfl⟩
 · show(w.setCells (blk A) off us).ownsRow 0 e size (.slice A n cap) n ds
   rw[h1,←hd];exact aP us off w xs hw' hl
 · show blk A∈Ik A
   exact Om.2 ⟨_,h1,rfl⟩
theorem Db.takes{c c':Ad}{b off:Nat}{us:List Value}{w:World}(h:c.takes b off us c')(hw:Sep.sat [c] w):w.there b off us.length∧Db [c] [c'] w (w.setCells b off us):=by
 obtain⟨h1,h2,h3,h4,h5⟩:=h w (hw.each c (by simp));have e1:owns [c']=owns [c]:=by simp[owns,h4]
 have e2:reads [c']=reads [c]:=by simp[reads,h5]
 refine⟨h1,⟨by simpa using h2,by rw[e1];exact hw.nodup,by rw[e1,e2];exact hw.apart⟩,?_,?_,?_⟩
 ·exact(Wo b us off w).mono fun i _ hi=>by rw[hi];simpa[owns]using h3
 ·intro g hg _;rw[e1]at hg;exact hg
 ·intro g hg _;rw[e2]at hg;exact .inr hg
theorem set_perm{Γ:List Ad}{i:Nat}{c:Ad}(c':Ad)(hi:Γ[i]?=some c):(c'::Γ.eraseIdx i).Perm (Γ.set i c'):=by
 have hlt:i<Γ.length:=(List.getElem?_eq_some_iff.1 hi).1;have h1:(Γ.set i c')[i]?=some c':=by simp[hlt]
 have h2:=Jd h1;rw[List.eraseIdx_set_eq]at h2;exact h2.symm
theorem Db.set{i:Nat}{c c':Ad}{w w':World}(hi:Γ[i]?=some c)(hs:Sep.sat Γ w)(h:Db [c] [c'] w w'):Db Γ (Γ.set i c') w w':=by
 have p:=Jd hi;exact(Db.pre p (h.frame (Δ:=Γ.eraseIdx i) (hs.perm p))).perm (set_perm c' hi)
theorem cu{ty:TypeId}{b off i:Nat}{c c':Ad}(ho:o.op= .store ty x y)(hx:ev ρ x=some (.pointer (some ⟨b,off,none⟩)))(hy:ev ρ y=some v)(ht:Ca P ty)(hv:v.oneCell'=true)(hi:Γ[i]?=some c)(hc:c.takes b off [v] c'):Up P o ρ Γ (Γ.set i c'):=fun a w ha hs=>by
 obtain⟨h1,h2⟩:=Db.takes hc ((hs.perm (Jd hi)).left (Γ:=[c]));obtain⟨d,_,_,h3⟩:=ht;refine⟨_,?_,Db.set hi hs h2⟩;have hcs:v.cells=#[v]:=by cases v<;>simp_all [Value.cells,Value.oneCell']
 obtain⟨it,h4,h5⟩:=Option.map_eq_some_iff.1 h3;have h6:=h1 0 (by simp);simp only[Nat.add_zero]at h6;cases hcell:w.cell? ⟨b,off,none⟩with
 |none=>rw[hcell]at h6;simp at h6
 | some u=>
   unfold execOp;simp[ho,ha.eval hx,ha.eval hy,Instr.storeAt,Instr.sureAddr,storeVar,sizeOf,typeInfo,h4,h5,hcs,storeCells,Addr.add,run_store P w ⟨b,off,none⟩ v .plain hv,hcell,h6.2,World.setCells]
theorem Cf{ty:TypeId}{b off i n:Nat}{c c':Ad}{us:List Value}(ho:o.op= .store ty x y)(hx:ev ρ x=some (.pointer (some ⟨b,off,none⟩)))(hy:ev ρ y=some (.agg us.toArray))(ht:Ff P ty n)(hl:us.length=n)(hv:us.all (·.oneCell')=true)(hi:Γ[i]?=some c)(hc:c.takes b off us c'):Up P o ρ Γ (Γ.set i c'):=fun a w ha hs=>by
 obtain⟨h1,h2⟩:=Db.takes hc ((hs.perm (Jd hi)).left (Γ:=[c]));obtain⟨d,_,_,h3⟩:=ht;refine⟨_,?_,Db.set hi hs h2⟩;unfold execOp;simp only[ho,ha.eval hx,ha.eval hy,Sem.run_bind,run_storeAt_mid w b off ty us.toArray (by simpa using h1) (by rw[h3,←hl];simp) (by simpa using hv),Result.andThen_ok,Sem.run_pure]
theorem Db.new{c:Ad}{w:World}{ob:Obj}(hc:c.holds (w.alloc ob))(ho:c.owns=[w.heap.size])(hr:c.reads=[]):Db [] [c] w (w.alloc ob):=
 ⟨⟨by simpa using hc,by simp[owns,ho],by simp[reads,hr]⟩,Uh (Ext.new w ob),fun g hg hl=>by simp[owns,ho]at hg;omega,fun g hg=>by simp[reads,hr]at hg⟩
theorem Mk.alloc{ty:TypeId}{zs:List Value}(ho:o.op= .alloc ty)(hz:De P ty zs):Mk P o ρ Γ (fun v N=>∃b,v= .pointer (some ⟨b,0,none⟩)∧N=[box b zs ty]):=fun a w _ _=>by
 obtain⟨it,h1,h2⟩:=Option.bind_eq_some_iff.1 hz.h;obtain⟨zv,h3,h4⟩:=Option.map_eq_some_iff.1 h2;refine⟨_,_,w.alloc (.cells zs.toArray ty),?_,⟨w.heap.size,rfl,rfl⟩,Db.new (heap_alloc_new _ _) rfl rfl⟩;have h5:zv.cells=zs.toArray:=by rw[←h4]
 unfold execOp;simp[ho,Instr.alloc,zeroValue,typeInfo,h1,h3,newVar,newRow,h5]
theorem Mk.box{ty:TypeId}{us:List Value}(ho:o.op= .box ty x)(hx:ev ρ x=some u)(hu:u.cells=us.toArray):Mk P o ρ Γ (fun v N=>∃b,v= .pointer (some ⟨b,0,none⟩)∧N=[Sep.box b us ty]):=fun a w ha _=>by
 refine⟨_,_,w.alloc (.cells us.toArray ty),?_,⟨w.heap.size,rfl,rfl⟩,Db.new (heap_alloc_new _ _) rfl rfl⟩;unfold execOp;simp[ho,ha.eval hx,Instr.box,newVar,newRow,hu]
theorem sQ{e:TypeId}{size n:Nat}{w:World}{us:List Value}(hl:us.length=n*size)(hn:n≤maxLen):(row e size (some ⟨w.heap.size,0,none⟩) n n us).holds (w.alloc (.cells us.toArray e)):=by
 have:=World.ownsRow_lit (base:=0) (e:=e) (size:=size) w us.toArray n (Nat.zero_le _) hn (by simpa using hl);show(w.alloc (.cells us.toArray e)).ownsRow 0 e size _ n us;simpa using this
theorem Tn{t e:TypeId}{size bytes:Nat}{zs:List Value}(ho:o.op= .buildSlice t 0 #[])(ht:Ce P t e size bytes zs):Mk P o ρ Γ (fun v N=>∃A,v= .slice A 0 0∧N=[row e size A 0 0 []]):=fun a w _ _=>by
 refine⟨_,_,w.alloc (.cells #[] e),?_,⟨some ⟨w.heap.size,0,none⟩,rfl,rfl⟩,Db.new (sQ (us:=[]) (by simp) (by simp[maxLen])) rfl rfl⟩;obtain⟨i,z,h1,h2,h3,_⟩:=ht.inf;unfold execOp;simp[ho,Instr.buildSlice,run_underlying ht.und,sizeOf,typeInfo,h1,Instr.fill,newRow];rw[show Array.map (fun(_:Nat)=>(default:Value)) (Array.range 0)=#[]from Array.eq_empty_of_size_eq_zero (by simp)]
theorem GR{t e:TypeId}{size bytes len:Nat}{zs:List Value}{parts:List (Nat×Operand)}{vs us:List Value}(ho:o.op= .buildSlice t len parts.toArray)(ht:Ce P t e size bytes zs)(hv:evs ρ (parts.map (·.2))=some vs)(hi:parts.map (·.1)=List.range' 0 len)
    (hlen:Nat.blt 0 len=true) (hsm:Nat.ble (len*size) 16777216=true) (hsz:vs.all (fun v=>Nat.beq v.cells.size size)=true) (hu:(vs.flatMap fun v=>v.cells.toList)=us):Mk P o ρ Γ (fun v N=>∃b,v= .slice (some ⟨b,0,none⟩) len len∧N=[row e size (some ⟨b,0,none⟩) len len us]):=fun a w ha _=>by
 replace hlen:=Nat.le_of_ble_eq_true hlen;replace hsm:=Nat.le_of_ble_eq_true hsm;obtain⟨it,z,h1,h2,h3,h4,h5⟩:=ht.inf;have hev:=ha.evals hv;have hl:vs.length=len:=by
  have:=congrArg List.length hev;have h2:=congrArg List.length hi;simp at this h2;omega
 have hall:∀v∈vs,v.cells.size=size:=fun v hv=>Nat.eq_of_beq_eq_true (List.all_eq_true.1 hsz v hv);have hlu:us.length=len*size:=by
  rw[←hu];clear hu hsz hev hv;subst hl;clear hi ho hlen hsm
  induction vs with
  |nil=>simp
  | cons v r ih=>
    have:=ih (fun v hv=>hall v (by simp[hv]));have h6:=hall v (by simp);simp only[List.flatMap_cons,List.length_append,List.length_cons,Array.length_toList];rw[this,h6,Nat.add_mul];omega
 have hle:len≤len*size:=Nat.le_mul_of_pos_right _ ht.pos;refine⟨_,_,w.alloc (.cells us.toArray e),?_,⟨w.heap.size,rfl,rfl⟩,Db.new (sQ hlu (by simp only[maxLen];omega)) rfl rfl⟩;have e1:(parts.map fun p=>(p.1,a.eval p.2))=(vs.zipIdx 0).map fun x=>(x.2,x.1):=by
  clear hv hu hsz hall hlu hle ho;rw[←hl]at hi;clear hl hlen hsm;generalize 0=k at hi⊢
  induction parts generalizing vs k with
  |nil=>cases vs<;>simp_all
  | cons p r ih=>
    cases vs with
    |nil=>simp at hev
    | cons q s=>
      simp only[List.map_cons,List.cons.injEq,List.length_cons,List.range'_succ]at hi hev;simp only[List.map_cons,List.zipIdx_cons,List.cons.injEq];exact⟨by rw[hi.1,hev.1],ih (vs:=s) hev.2 _ hi.2⟩
 unfold execOp;simp only[ho,List.map_toArray,e1];rw[Sem.run_bind,run_buildSlice w t e len _ us.toArray it z ht.und h1 h2 (by rw[h3];omega) (by rw[h3];omega) ?_]
 ·simp
 · rw[h3,←hu]
   exact Great.fill_whole ht.pos vs _ hall (by rw[hl];simp)
end up
section ge
variable{P:Program}{o:Oper}{ρ:Bj}{Γ:List Ad}{x y z:Operand}{u v:Value}
theorem Ge.append{t e:TypeId}{size bytes:Nat}{zs xs us:List Value}{A B:Option Addr}{n cap m c i:Nat}(ho:o.op= .call {callee:= .builtin .append,args:=#[x,y],argTypes:=#[t,t]})(ht:Ce P t e size bytes zs)
    (hx:ev ρ x=some (.slice A n cap)) (hy:ev ρ y=some (.slice B m c)) (hi:Γ[i]?=some (row e size A n cap xs)) (hsrc:∀w,sat Γ w→Src w B us) (hu:us.length=m*size) (h1:∀u∈us,u.oneCell'=true) (h63:n+m≤maxLen) (hby:(n+m)*bytes≤140737488355328):
    Ge P o ρ Γ (fun v Γ'=>∃A' cap',v= .slice A' (n+m) cap'∧Γ'=Γ.set i (row e size A' (n+m) cap' (xs++us))):=fun a w ha hs=>by
 obtain⟨it,zv,h2,h3,h4,h5,h6⟩:=ht.inf;have hrow:w.ownsRow 0 e size (.slice A n cap) n xs:=hs.each _ (List.mem_of_getElem? hi);obtain⟨v',w',hrun,h7,h8,h9⟩:=Qn (P:=P) w 0 t o.type e it zv size bytes ht.und h2 h3 h4 h5 (by rw[h6];simpa using ht.len) ht.pos _ n xs hrow B m c us hu (hsrc w hs) h1 h63 hby (Nat.zero_le _)
 obtain⟨A',cap',rfl,_⟩:=Im h7;have hb:∀g,g∈Ik A'→g∈Ik A∨g=w.heap.size:=fun g hg=>by
  obtain⟨ad,rfl,rfl⟩:=Om.1 hg;rcases h9 with h9|h9
  · refine .inl (Om.2 ?_)
    cases A with
    |none=>simp[Value.ownBlock]at h9
    |some a'=>simp[Value.ownBlock]at h9;exact⟨a',rfl,h9.symm⟩
  ·simp[Value.ownBlock]at h9;exact .inr h9
 refine⟨_,_,w',?_,⟨A',cap',rfl,rfl⟩,Db.set hi hs ⟨⟨fun c hc=>by rw[List.mem_singleton.1 hc];exact h7,?_,by simp[reads,row]⟩,?_,?_,by simp[reads,row]⟩⟩
 · unfold execOp
   simp only[ho,resolve,invoke,builtin,Sem.run_bind,Sem.run_pure,Result.andThen_ok,List.map_toArray,List.map_cons,List.map_nil,ha.eval hx,ha.eval hy,hrun]
 ·cases A'<;>simp[owns,row,Ik]
 · refine h8.mono fun g _ hg=>?_
   cases A with
   |none=>simp[Value.ownBlock]at hg
   |some a'=>simp[Value.ownBlock]at hg;simp[owns,row,Ik,hg]
 · intro g hg hl
   have hg':g∈Ik A':=by simpa[owns,row]using hg
   rcases hb g hg' with h|h
   ·simpa[owns,row]using h
   ·omega
theorem Sl{e:TypeId}{size:Nat}{A:Option Addr}{n cap i:Nat}{xs:List Value}(hi:Γ[i]?=some (row e size A n cap xs)):∀w,sat Γ w→Src w A xs:=fun w hs=>by
 obtain⟨A',cap',h1,h2,_⟩:=Im (show w.ownsRow 0 e size (.slice A n cap) n xs from hs.each _ (List.mem_of_getElem? hi));simp only[Value.slice.injEq]at h1;rw[h1.1];exact h2
theorem BZ{A:Option Addr}{i:Nat}{xs:List Value}(hi:Γ[i]?=some (ro A xs)):∀w,sat Γ w→Src w A xs:=fun _ hs=>hs.each _ (List.mem_of_getElem? hi)
theorem QF{t e:TypeId}{size bytes c:Nat}{zs:List Value}{kl kc:IntKind}(ho:o.op= .makeSlice t x y)(ht:Ce P t e size bytes zs)(hx:ev ρ x=some (.int kl 0))(hy:ev ρ y=some (.int kc (c:Int)))(hb:bytes*c≤281474976710656)(hc:c≤maxLen):
    Mk P o ρ Γ (fun v N=>∃b,v= .slice (some ⟨b,0,none⟩) 0 c∧N=[row e size (some ⟨b,0,none⟩) 0 c []]):=fun a w ha _=>by
 obtain⟨it,zv,h2,h3,h4,h5,h6⟩:=ht.inf;obtain⟨w',hr,h7,h8⟩:=run_make_own (P:=P) w 0 t e it zv size ht.und h2 h3 h4 kl kc c (by rw[h5];exact hb) hc (Nat.zero_le _);refine⟨_,_,w',?_,⟨w.heap.size,rfl,rfl⟩,⟨⟨fun c hc=>by rw[List.mem_singleton.1 hc];exact h7,by simp[owns,row,Ik],by simp[reads,row]⟩,(Ol h8 (run_drawn _ _ _ _ hr)).mono fun _ _ h=>by simp at h,fun g hg hl=>?_,by simp[reads,row]⟩⟩
 · unfold execOp
   simp only[ho,ha.eval hx,ha.eval hy,Sem.run_bind,hr,Result.andThen_ok,Sem.run_pure]
 ·simp[owns,row,Ik]at hg;omega
theorem Wp(zs:List Value)(n:Nat)(h:zs.length=1):(madeCells zs.toArray (n*1)).toList=(List.replicate n zs).flatten:=by
 match zs,h with
 | [z],_=>
   apply List.ext_getElem?;intro k;have e1:(List.replicate n [z]).flatten=List.replicate n z:=by
    induction n with
    |zero=>rfl
    |succ n ih=>simp[List.replicate_succ,ih]
   rw[e1];unfold madeCells;by_cases hk:k<n
   ·simp[hk,Nat.mod_one]
   ·simp[hk]
theorem kH{t e:TypeId}{size bytes n:Nat}{zs:List Value}{kl kc:IntKind}(ho:o.op= .makeSlice t x y)(ht:Ce P t e size bytes zs)(hx:ev ρ x=some (.int kl (n:Int)))(hy:ev ρ y=some (.int kc (n:Int)))(hb:bytes*n≤281474976710656)(hc:n≤maxLen):
    Mk P o ρ Γ (fun v N=>∃b,v= .slice (some ⟨b,0,none⟩) n n∧N=[row e size (some ⟨b,0,none⟩) n n (madeCells zs.toArray (n*size)).toList]):=fun a w ha _=>by
 obtain⟨it,zv,h2,h3,h4,h5,h6⟩:=ht.inf;obtain⟨w',hr,h7,h8⟩:=run_make_full (P:=P) w 0 t e it zv size ht.und h2 h3 h4 kl kc n (by rw[h5];exact hb) hc (Nat.zero_le _);rw[h6]at h7;refine⟨_,_,w',?_,⟨w.heap.size,rfl,rfl⟩,⟨⟨fun c hc=>by rw[List.mem_singleton.1 hc];exact h7,by simp[owns,row,Ik],by simp[reads,row]⟩,(Ol h8 (run_drawn _ _ _ _ hr)).mono fun _ _ h=>by simp at h,fun g hg hl=>?_,by simp[reads,row]⟩⟩
 · unfold execOp
   simp only[ho,ha.eval hx,ha.eval hy,Sem.run_bind,hr,Result.andThen_ok,Sem.run_pure]
 ·simp[owns,row,Ik]at hg;omega
def Mf(P:Program)(f:FuncId):Bool:=match P.funcs[f]? with
 |some fn=> !(fn.name== "runtime.NumGoroutine")&&fn.body.isSome
 |none=>false
theorem aS{f:FuncId}(h:Mf P f=true)(args:Array Value)(w:World):(callFunc f args).run P w= .ok (.enter f args) w:=by
 unfold Mf at h;split at h
 · rename_i fn hf
   simp only[Bool.and_eq_true,Bool.not_eq_true']at h;have h1:fn.name≠ "runtime.NumGoroutine" :=by simpa using h.1
   have h2:fn.body≠none:=by cases hb:fn.body<;>simp_all
   unfold callFunc;simp[hf,h1,h2]
 ·cases h
theorem di{f:FuncId}{xs:List Operand}{ts:Array TypeId}{vs:List Value}{c:Operand}{first captured:List Value}(ho:o.op= .call {callee:= .value c,args:=xs.toArray,argTypes:=ts})(hc:ev ρ c=some (.func (.func f) first.toArray captured.toArray))(hv:evs ρ xs=some vs)(hf:Mf P f=true):
    Ent P o ρ f (first++vs++captured):=fun a w ha=>by
 unfold execOp;simp only[ho,resolve,ha.eval hc,List.map_toArray,ha.evals hv,Deferred.ofValue,invoke,Sem.run_bind,Sem.run_pure,Result.andThen_ok,aS hf];simp
theorem Ent.fn{f:FuncId}{xs:List Operand}{ts:Array TypeId}{vs:List Value}(ho:o.op= .call {callee:= .value (.func f),args:=xs.toArray,argTypes:=ts})(hv:evs ρ xs=some vs)(hf:Mf P f=true):Ent P o ρ f vs:=fun a w ha=>by
 have:=di (P:=P) (ρ:=ρ) (first:=[]) (captured:=[]) ho rfl hv hf a w ha;simpa using this
theorem Rd.extract{i:Nat}{vs:List Value}(ho:o.op= .extract x i)(hx:ev ρ x=some (.tuple vs.toArray))(hv:vs[i]?=some v):Rd P o ρ Γ v:=fun a w ha _=>by
 unfold execOp;simp[ho,ha.eval hx,Instr.extract,hv]
end ge
abbrev News:=List (Nat×List Ad)
def flat(N:News):List Ad:=N.flatMap (·.2)
structure QG(b:World)(n:Nat×List Ad)(p:Nat×World×World):Prop where
 id:p.1=n.1
 base:Ext b p.2.1
 post:Db [] n.2 p.2.1 p.2.2
def Made(b:World):News→List (Nat×World×World)→Prop
 |[],[]=>True
 |n::N,p::h=>QG b n p∧Made b N h∧N.all (fun m=> !Nat.beq m.1 n.1)=true
 |_,_=>False
def touch(Γ:List Ad)(g:Nat):Prop:=g∈owns Γ∨g∈reads Γ
theorem QG.within{b:World}{n:Nat×List Ad}{p:Nat×World×World}(h:QG b n p){g:Nat}(hg:touch n.2 g):p.2.1.heap.size≤g∧g<p.2.2.heap.size:=by
 rcases hg with hg|hg
 ·exact⟨Nat.le_of_not_lt fun hl=>by have:=h.post.own g hg hl;simp[owns]at this,h.post.sat.lt_own hg⟩
 ·exact⟨Nat.le_of_not_lt fun hl=>by have:=h.post.rd g hg hl;simp[owns,reads]at this,h.post.sat.lt_read hg⟩
theorem Made.find{b:World}:∀{N:News} {h:List (Nat×World×World)},Made b N h→∀g,touch (flat N) g→∃q∈h,(∃m∈N,m.1=q.1)∧Ext b q.2.1∧q.2.1.heap.size≤g∧g<q.2.2.heap.size
 |[],_,_,g,hg=>by simp[touch,flat,owns,reads]at hg
 |n::N,[],hm,g,hg=>hm.elim
 | n ::N,p::h,⟨h1,h2,_⟩,g,hg=>by
   have:touch n.2 g∨touch (flat N) g:=by
    simp only[touch,flat,List.flatMap_cons,Dk,Ez,List.mem_append]at hg⊢;rcases hg with(h|h)|(h|h)
    ·exact .inl (.inl h)
    ·exact .inr (.inl h)
    ·exact .inl (.inr h)
    ·exact .inr (.inr h)
   rcases this with hg|hg
   ·exact⟨p,by simp,⟨n,by simp,h1.id.symm⟩,h1.base,h1.within hg⟩
   · obtain⟨q,hq,⟨m,hm,hmq⟩,h3⟩:=h2.find g hg
     exact⟨q,by simp[hq],⟨m,by simp[hm],hmq⟩,h3⟩
theorem Made.flush{b w:World}{Γ:List Ad}(hs:sat Γ b)(hb:Ext b w):∀{N:News} {h:List (Nat×World×World)},Made b N h→(∀p∈h,Ext p.2.2 w)→Rh h→sat (flat N++Γ) w
 |[],_,_,_,_=>by simpa[flat]using hs.ext hb
 |n::N,[],hm,_,_=>hm.elim
 | n :: N,p::h,⟨h1,h2,h3⟩,hw,ht=>by
   have ih:=h2.flush (w:=w) hs hb (fun q hq=>hw q (by simp[hq])) (fun q hq r hr=>ht q (by simp[hq]) r (by simp[hr]));have hn:sat n.2 w:=h1.post.sat.ext (hw p (by simp));have key:∀g,touch n.2 g→¬touch (flat N++Γ) g:=by
    intro g hg hg';obtain⟨a1,a2⟩:=h1.within hg;have:touch (flat N) g∨touch Γ g:=by
     simp only[touch,Dk,Ez,List.mem_append]at hg'⊢;rcases hg' with(h|h)|(h|h)
     ·exact .inl (.inl h)
     ·exact .inr (.inl h)
     ·exact .inl (.inr h)
     ·exact .inr (.inr h)
    rcases this with hx|hx
    · obtain⟨q,hq,⟨m,hm,hmq⟩,_,b1,b2⟩:=h2.find g hx
      have hne:p.1≠q.1:=by
       have:=List.all_eq_true.1 h3 m hm;simp only[Bool.not_eq_true']at this;intro e;rw[hmq,←e,h1.id,Nat.beq_refl]at this;cases this
      rcases ht p (by simp) q (by simp[hq]) hne with e|e
      ·have:=e.size;omega
      ·have:=e.size;omega
    · have hlt:g<b.heap.size:=by
        rcases hx with hx|hx
        ·exact hs.lt_own hx
        ·exact hs.lt_read hx
      have:=h1.base.size;omega
   show sat (n.2++flat N++Γ) w;rw[List.append_assoc];refine⟨fun c hc=>?_,?_,?_⟩
   · rcases List.mem_append.1 hc with h|h
     ·exact hn.each c h
     ·exact ih.each c h
   · rw[Dk]
     exact List.nodup_append.2 ⟨hn.nodup,ih.nodup,fun g hg g' hg' e=>key g (.inl hg) (.inl (e▸hg'))⟩
   · intro g hg hg'
     rw[Ez]at hg;rw[Dk]at hg';rcases List.mem_append.1 hg with h|h<;>rcases List.mem_append.1 hg' with h'|h'
     ·exact hn.apart g h h'
     ·exact key g (.inr h) (.inl h')
     ·exact key g (.inl h') (.inr h)
     ·exact ih.apart g h h'
theorem Made.post{Γ0 Γ:List Ad}{w0 b w:World}(hp:Db Γ0 Γ w0 b)(hb:Ext b w){N:News}{h:List (Nat×World×World)}(hm:Made b N h)(hw:∀p∈h,Ext p.2.2 w)(ht:Rh h):Db Γ0 (flat N++Γ) w0 w:=by
 have hs:=hm.flush hp.sat hb hw ht;refine⟨hs,hp.keeps.then_ext hb,fun g hg hl=>?_,fun g hg hl=>?_⟩
 · rw[Dk]at hg
   rcases List.mem_append.1 hg with h|h
   · obtain⟨q,_,_,h1,h2,_⟩:=hm.find g (.inl h)
     have:=h1.size;have:=hp.keeps.size;omega
   ·exact hp.own g h hl
 · rw[Ez]at hg
   rcases List.mem_append.1 hg with h|h
   · obtain⟨q,_,_,h1,h2,_⟩:=hm.find g (.inr h)
     have:=h1.size;have:=hp.keeps.size;omega
   ·exact hp.rd g h hl
def avail(N:News)(deps:List Nat):List Ad:=N.flatMap fun n=>bif deps.any (Nat.beq n.1)then n.2 else []
theorem Made.avail{b w:World}{deps:List Nat}:∀{N:News} {h:List (Nat×World×World)},Made b N h→(∀p∈h,p.1∈deps→Ext p.2.2 w)→oks (avail N deps) w
 |[],_,_,_,c,hc=>by simp[Sep.avail]at hc
 |n::N,[],hm,_,_,_=>hm.elim
 | n ::N,p::h,⟨h1,h2,_⟩,hw,c,hc=>by
   unfold Sep.avail at hc;rw[List.flatMap_cons]at hc;rcases List.mem_append.1 hc with h|h
   · cases hd:deps.any (Nat.beq n.1)with
     |false=>rw[hd]at h;simp at h
     | true=>
       rw[hd]at h;obtain⟨k,hk,hk'⟩:=List.any_eq_true.1 hd;have e:=Nat.eq_of_beq_eq_true hk';exact(h1.post.sat.ext (hw p (by simp) (by rw[h1.id,e];exact hk))).each c h
   ·exact h2.avail (fun q hq=>hw q (by simp[hq])) c h
def Dt(P:Program)(T:Tel)(l:List Oper)(Θ:List Ad)(Q:Act→World→Prop)(ms:List Ep)(C:Cx)(ρ:Bj)(Γ:List Ad)(N:News):Prop:=
 ∀a b h,Has C.n C.ds ρ a→Db C.Γ0 Γ C.w0 b→Made b N h→Flow P T l.toArray (oks Θ) Q (Go.Flow.pick l ms) a b h
theorem iT{Θ:List Ad}{w w':World}(h:oks Θ w)(k:Ext w w'):oks Θ w':=fun c hc=>c.loc w w' (fun g hg=>k.block g (c.lt w (h c hc) g hg)) (h c hc)
theorem Pg{Θ Γ:List Ad}{w:World}(h:oks Θ w)(k:oks Γ w):oks (Θ++Γ) w:=fun c hc=>(List.mem_append.1 hc).elim (h c) (k c)
section
variable{P:Program}{T:Tel}{l:List Oper}{Θ Γ Γ':List Ad}{Q:Act→World→Prop}{ms:List Ep}{C:Cx}{ρ:Bj}{N:News}{i d:Nat}{deps:List Nat}{o:Oper}{v:Value}
theorem Oy{id:Nat}{R:Exit→Act→World→Prop}(Θ:List Ad)(ms:List Ep)(hm:P.follows .mixedOrders=true)(hB:Lc l ms=true)(hΘ:∀w,oks Γ w→oks Θ w)(h:Dt P noT l Θ (R .normal) ms C ρ Γ []):To C ρ Γ ((Code.region id l.toArray true).wp P R):=
 fun a w ha hp=>jV (oks Θ) ms hm hB (fun _ _=>iT) (hΘ w hp.sat.each) (h a w [] ha hp trivial)
theorem Fw.fin(h:To C ρ (flat N++Γ) Q):Dt P T l Θ Q [] C ρ Γ N:=fun a _ _ ha hp hm=>Flow.nil fun w hb _ hw ht=>h a w ha (hm.post hp hb hw ht)
theorem Jf{m:Ep}(ho:l[m.i]?=some o):Go.Flow.pick l (m::ms)=(o,m)::Go.Flow.pick l ms:=by
 simp[Go.Flow.pick,ho]
theorem Nt(ho:l[i]?=some o)(hg:grd l.toArray ρ o=some true)(hd:o.dst=some d)(hn:Nat.blt d C.n=true)(h:Rd P o ρ Θ v)(k:Dt P T l Θ Q ms C ((d,v)::ρ) Γ N):Dt P T l Θ Q (⟨i,deps,0⟩::ms) C ρ Γ N:=fun a b h' ha hp hm=>by
 rw[Jf (m:=⟨i,deps,0⟩) ho];refine jW rfl (Es hg ha.sees) v (fun w hS=>?_) ?_
 ·rw[h a w ha.sees hS];exact⟨rfl,rfl⟩
 ·rw[hd];exact k _ b h' (ha.put hn) hp hm
theorem Fw.skip{kd:Nat}(hk:kd=0∨kd=1∨kd=3)(ho:l[i]?=some o)(hg:grd l.toArray ρ o=some false)(hd:o.dst=some d)(hn:Nat.blt d C.n=true)(k:Dt P T l Θ Q ms C ((d,undef)::ρ) Γ N)(hT:T i=none:=by rfl):Dt P T l Θ Q (⟨i,deps,kd⟩::ms) C ρ Γ N:=fun a b h' ha hp hm=>by
 rw[Jf (m:=⟨i,deps,kd⟩) ho];have hk':=k _ b h' (ha.put (v:=undef) hn) hp hm;rw[←hd]at hk';rcases hk with rfl|rfl|rfl
 ·exact jX rfl (Es hg ha.sees) hk'
 ·exact jZ rfl (Es hg ha.sees) hk'
 ·exact kD hT rfl (Es hg ha.sees) hk'
theorem Fw.rd(ho:l[i]?=some o)(hg:grd l.toArray ρ o=some true)(hd:o.dst=some d)(hn:Nat.blt d C.n=true)(h:Rd P o ρ (avail N deps++Γ) v)(k:Dt P T l Θ Q ms C ((d,v)::ρ) Γ N):Dt P T l Θ Q (⟨i,deps,1⟩::ms) C ρ Γ N:=fun a b h' ha hp hm=>by
 rw[Jf (m:=⟨i,deps,1⟩) ho];refine jY rfl (Es hg ha.sees) v (fun w hb _ hw=>?_) ?_
 ·rw[h a w ha.sees (Pg (hm.avail hw) (hp.sat.ext hb).each)];exact⟨rfl,rfl⟩
 ·rw[hd];exact k _ b h' (ha.put hn) hp hm
theorem Fw.mk{R:Value→List Ad→Prop}(ho:l[i]?=some o)(hg:o.guard=none)(hd:o.dst=some d)(hn:Nat.blt d C.n=true)(hnew:N.all (fun m=> !Nat.beq m.1 i)=true)(h:Mk P o ρ (avail N deps++Γ) R)
    (k:∀v M,R v M→Dt P T l Θ Q ms C ((d,v)::ρ) Γ ((i,M)::N)):Dt P T l Θ Q (⟨i,deps,2⟩::ms) C ρ Γ N:=fun a b h' ha hp hm=>by
 rw[Jf (m:=⟨i,deps,2⟩) ho];refine KO rfl hg (fun w hb _ hw K hK=>?_);obtain⟨v,M,w',hr,hR,hq⟩:=h a w ha.sees (Pg (hm.avail hw) (hp.sat.ext hb).each);rw[hr];refine hK v w' (hq.keeps.ext fun _ _ h=>by simp[owns]at h) ?_;rw[hd];exact k v M hR _ b _ (ha.put hn) hp ⟨⟨rfl,hb,hq⟩,hm,hnew⟩
theorem Oo{f:FuncId}{vs:List Value}{Γ1:List Ad}(ho:l[i]?=some o)(hg:grd l.toArray ρ o=some true)(hd:o.dst=some d)(hn:Nat.blt d C.n=true)(he:Ent P o ρ f vs)(hc:Bd P f vs Γ1 (fun v' _=>v'=v))(hq:owns Γ1=[])(hs:∀w,oks (avail N deps++Γ) w→oks Γ1 w)
    (k:Dt P T l Θ Q ms C ((d,v)::ρ) Γ N) (hT:T i=none:=by rfl):Dt P T l Θ Q (⟨i,deps,3⟩::ms) C ρ Γ N:=fun a b h' ha hp hm=>by
 rw[Jf (m:=⟨i,deps,3⟩) ho];refine kC hT rfl (Es hg ha.sees) f vs.toArray (fun w=>he a w ha.sees) v (fun w hb _ hw=>?_) ?_
 · refine(hc w (Gh hq (hs w (Pg (hm.avail hw) (hp.sat.ext hb).each)))).mono ?_
   rintro e w' ⟨v',Γ',rfl,rfl,hpost⟩;exact⟨rfl,hpost.keeps.ext fun _ _ h=>by rw[hq]at h;simp at h⟩
 ·rw[hd];exact k _ b h' (ha.put hn) hp hm
theorem Dx{R:Value→List Ad→Prop}{f:FuncId}{vs:List Value}{Γ1:List Ad}(ho:l[i]?=some o)(hg:o.guard=none)(hd:o.dst=some d)(hn:Nat.blt d C.n=true)(hnew:N.all (fun m=> !Nat.beq m.1 i)=true)(he:Ent P o ρ f vs)(hc:Bd P f vs Γ1 R)(hq:owns Γ1=[])(hs:∀w,oks (avail N deps++Γ) w→oks Γ1 w)
    (k:∀v Γ',R v Γ'→reads Γ'=[]∧Dt P T l Θ Q ms C ((d,v)::ρ) Γ ((i,Γ')::N)) (hT:T i=none:=by rfl):Dt P T l Θ Q (⟨i,deps,4⟩::ms) C ρ Γ N:=fun a b h' ha hp hm=>by
 rw[Jf (m:=⟨i,deps,4⟩) ho];refine oL hT rfl hg f vs.toArray (fun w=>he a w ha.sees) (fun w hb _ hw=>?_);refine(hc w (Gh hq (hs w (Pg (hm.avail hw) (hp.sat.ext hb).each)))).mono ?_;rintro e w' ⟨v',Γ',rfl,hR,hpost⟩;obtain⟨hr,hk⟩:=k v' Γ' hR;have hpq:=Rj hq hpost hr;refine⟨v',rfl,hpq.keeps.ext fun _ _ h=>by simp[owns]at h,?_⟩;rw[hd];exact hk _ b _ (ha.put hn) hp ⟨⟨rfl,hb,hpq⟩,hm,hnew⟩
def tQ(R:Value→List Ad→Prop):World→Value→World→Prop:=fun w v w'=>∃Γ',R v Γ'∧Db [] Γ' w w'
def tel:List (Nat×(Value→List Ad→Prop))→Tel
 |[],_=>none
 |(k,R)::r,i=>bif Nat.beq k i then some (tQ R)else tel r i
theorem QH{R:Value→List Ad→Prop}{f:FuncId}{vs:List Value}{Γ1:List Ad}(ho:l[i]?=some o)(hg:o.guard=none)(hd:o.dst=some d)(hn:Nat.blt d C.n=true)(hnew:N.all (fun m=> !Nat.beq m.1 i)=true)(he:Ent P o ρ f vs)(hc:Bd P f vs Γ1 R)(hq:owns Γ1=[])(hs:∀w,oks (avail N deps++Γ) w→oks Γ1 w)
    (hr:∀v Γ',R v Γ'→reads Γ'=[]) (hT:T i=some (tQ R)) (k:∀v Γ',R v Γ'→Dt P T l Θ Q ms C ((d,v)::ρ) Γ ((i,Γ')::N)):Dt P T l Θ Q (⟨i,deps,4⟩::ms) C ρ Γ N:=fun a b h' ha hp hm=>by
 rw[Jf (m:=⟨i,deps,4⟩) ho];refine oM hT rfl hg f vs.toArray (fun w=>he a w ha.sees) (fun w hb _ hw=>?_) (fun w v w' hb hv=>?_)
 · refine(hc w (Gh hq (hs w (Pg (hm.avail hw) (hp.sat.ext hb).each)))).mono ?_
   rintro e w' ⟨v',Γ',rfl,hR,hpost⟩;exact⟨v',rfl,Γ',hR,Rj hq hpost (hr v' Γ' hR)⟩
 · obtain⟨Γ',hR,hpq⟩:=hv
   refine⟨hpq.keeps.ext fun _ _ h=>by simp[owns]at h,?_⟩;rw[hd];exact k v Γ' hR _ b _ (ha.put hn) hp ⟨⟨rfl,hb,hpq⟩,hm,hnew⟩
theorem dh(ho:l[i]?=some o)(hg:o.guard=none)(hd:o.dst=none)(h:Up P o ρ (flat N++Γ) Γ')(hΘ:∀w,oks Γ' w→oks Θ w)(k:Dt P T l Θ Q ms C ρ Γ' [])(hT:T i=none:=by rfl):Dt P T l Θ Q (⟨i,deps,5⟩::ms) C ρ Γ N:=fun a b h' ha hp hm=>by
 rw[Jf (m:=⟨i,deps,5⟩) ho];refine pJ hT rfl hg (fun w hb _ hw ht K hK=>?_);have hq:=hm.post hp hb hw ht;obtain⟨w',hr,hpost⟩:=h a w ha.sees hq.sat
 rw[hr];refine hK undef w' (hΘ w' hpost.sat.each) ?_;rw[hd];exact k a w' [] ha (hq.trans hpost) trivial
theorem Fw.ge{R:Value→List Ad→Prop}(ho:l[i]?=some o)(hg:o.guard=none)(hd:o.dst=some d)(hn:Nat.blt d C.n=true)(h:Ge P o ρ (flat N++Γ) R)(k:∀v Γ',R v Γ'→(∀w,oks Γ' w→oks Θ w)∧Dt P T l Θ Q ms C ((d,v)::ρ) Γ' [])(hT:T i=none:=by rfl):Dt P T l Θ Q (⟨i,deps,5⟩::ms) C ρ Γ N:=fun a b h' ha hp hm=>by
 rw[Jf (m:=⟨i,deps,5⟩) ho];refine pJ hT rfl hg (fun w hb _ hw ht K hK=>?_);have hq:=hm.post hp hb hw ht;obtain⟨v,Γ',w',hr,hR,hpost⟩:=h a w ha.sees hq.sat
 obtain⟨hΘ,hk⟩:=k v Γ' hR;rw[hr];refine hK v w' (hΘ w' hpost.sat.each) ?_;rw[hd];exact hk _ w' [] (ha.put hn) (hq.trans hpost) trivial
theorem Fw.call{R:Value→List Ad→Prop}{f:FuncId}{vs:List Value}{Γ1 Δ:List Ad}(is:List Nat)(ho:l[i]?=some o)(hg:o.guard=none)(hd:o.dst=some d)(hn:Nat.blt d C.n=true)(he:Ent P o ρ f vs)(hpl:Ui (flat N++Γ) is=some (Γ1,Δ))(hc:Bd P f vs Γ1 R)
    (k:∀v Γ',R v Γ'→(∀w,oks (Γ'++Δ) w→oks Θ w)∧Dt P T l Θ Q ms C ((d,v)::ρ) (Γ'++Δ) []) (hT:T i=none:=by rfl):Dt P T l Θ Q (⟨i,deps,5⟩::ms) C ρ Γ N:=fun a b h' ha hp hm=>by
 rw[Jf (m:=⟨i,deps,5⟩) ho];refine oN hT rfl hg f vs.toArray (fun w=>he a w ha.sees) (fun w hb _ hw ht=>?_);have hq:=hm.post hp hb hw ht;refine(hc w ((hq.sat.perm (Jv hpl)).left)).mono ?_;rintro e w' ⟨v,Γ',rfl,hR,hpost⟩;obtain⟨hΘ,hk⟩:=k v Γ' hR;have hpost':=hq.trans (Db.at_ hpl hq.sat hpost);refine⟨v,rfl,hΘ w' hpost'.sat.each,?_⟩;rw[hd];exact hk _ w' [] (ha.put hn) hpost' trivial
def tC(Γ1:List Ad)(R:Value→List Ad→Prop):World→Value→World→Prop:=fun w v w'=>∃Γ',R v Γ'∧Db Γ1 Γ' w w'
def KV:List (Nat×List Ad×(Value→List Ad→Prop))→Tel
 |[],_=>none
 |(k,Γ1,R)::r,i=>bif Nat.beq k i then some (tC Γ1 R)else KV r i
def QI(a b:Tel):Tel:=fun i=>match a i with
 |some t=>some t
 |none=>b i
theorem Dv{R:Value→List Ad→Prop}{f:FuncId}{vs:List Value}{Γ1 Δ:List Ad}(is:List Nat)(ho:l[i]?=some o)(hg:o.guard=none)(hd:o.dst=some d)(hn:Nat.blt d C.n=true)(he:Ent P o ρ f vs)(hpl:Ui (flat N++Γ) is=some (Γ1,Δ))(hc:Bd P f vs Γ1 R)(hT:T i=some (tC Γ1 R))
    (k:∀v Γ',R v Γ'→(∀w,oks (Γ'++Δ) w→oks Θ w)∧Dt P T l Θ Q ms C ((d,v)::ρ) (Γ'++Δ) []):Dt P T l Θ Q (⟨i,deps,5⟩::ms) C ρ Γ N:=fun a b h' ha hp hm=>by
 rw[Jf (m:=⟨i,deps,5⟩) ho];refine oO hT rfl hg f vs.toArray (fun w=>he a w ha.sees) (fun w hb _ hw ht=>?_) (fun w hb _ hw ht v w' htv=>?_)
 · have hq:=hm.post hp hb hw ht
   refine(hc w ((hq.sat.perm (Jv hpl)).left)).mono ?_;rintro e w' ⟨v,Γ',rfl,hR,hpost⟩;exact⟨v,rfl,Γ',hR,hpost⟩
 · have hq:=hm.post hp hb hw ht
   obtain⟨Γ',hR,hpost⟩:=htv;obtain⟨hΘ,hk⟩:=k v Γ' hR;have hpost':=hq.trans (Db.at_ hpl hq.sat hpost);refine⟨hΘ w' hpost'.sat.each,?_⟩;rw[hd];exact hk _ w' [] (ha.put hn) hpost' trivial
end
section
variable{P:Program}{T:Tel}{l:List Oper}{Θ Γ Γ':List Ad}{Q:Act→World→Prop}{ms:List Ep}{C:Cx}{ρ:Bj}{N:News}{i d:Nat}{deps:List Nat}{o:Oper}{v:Value}
theorem aEm{R:Value→List Ad→Prop}(ho:l[i]?=some o)(hg:grd l.toArray ρ o=some true)(hd:o.dst=some d)(hn:Nat.blt d C.n=true)(hnew:N.all (fun m=> !Nat.beq m.1 i)=true)(h:Mk P o ρ (avail N deps++Γ) R)
    (k:∀v M,R v M→Dt P T l Θ Q ms C ((d,v)::ρ) Γ ((i,M)::N)):Dt P T l Θ Q (⟨i,deps,2⟩::ms) C ρ Γ N:=fun a b h' ha hp hm=>by
 rw[Jf (m:=⟨i,deps,2⟩) ho];simp only[Flow];intro w hb _ hw;unfold Lb;rw[if_pos (Es hg ha.sees)];obtain⟨v,M,w',hr,hR,hq⟩:=h a w ha.sees (Pg (hm.avail hw) (hp.sat.ext hb).each);rw[hr];refine⟨hq.keeps.ext fun _ _ h=>by simp[owns]at h,?_⟩;rw[hd];exact k v M hR _ b _ (ha.put hn) hp ⟨⟨rfl,hb,hq⟩,hm,hnew⟩
theorem QJ(ho:l[i]?=some o)(hg:grd l.toArray ρ o=some false)(hd:o.dst=some d)(hn:Nat.blt d C.n=true)(hnew:N.all (fun m=> !Nat.beq m.1 i)=true)(k:Dt P T l Θ Q ms C ((d,undef)::ρ) Γ ((i,[])::N)):Dt P T l Θ Q (⟨i,deps,2⟩::ms) C ρ Γ N:=fun a b h' ha hp hm=>by
 rw[Jf (m:=⟨i,deps,2⟩) ho];simp only[Flow];intro w hb _ _;unfold Lb;rw[if_neg (by rw[Es hg ha.sees];simp)];refine⟨Ie _,?_⟩;rw[hd];exact k _ b _ (ha.put hn) hp ⟨⟨rfl,hb,Db.refl (sat.nil _)⟩,hm,hnew⟩
end
class Enc{α:Type}(enc:α→List Value)(size:outParam Nat):Prop where
 len:∀x,(enc x).length=size
 one:∀x,∀u∈enc x,u.oneCell'=true
section
variable{α:Type}{enc:α→List Value}{size:Nat}
theorem Enc.flat_len(E:Enc enc size):∀l:List α,(l.flatMap enc).length=l.length*size
 |[]=>by simp
 |x::l=>by rw[List.flatMap_cons,List.length_append,E.len,E.flat_len l,List.length_cons,Nat.add_mul];omega
theorem Enc.flat_one(E:Enc enc size)(l:List α):∀u∈l.flatMap enc,u.oneCell'=true:=fun u hu=>by
 obtain⟨x,_,h⟩:=List.mem_flatMap.1 hu;exact E.one x u h
def rows(enc:α→List Value)(e:TypeId)(size:Nat)(A:Option Addr)(cap:Nat)(l:List α):Ad:=row e size A l.length cap (l.flatMap enc)
def ros(enc:α→List Value)(A:Option Addr)(l:List α):Ad:=ro A (l.flatMap enc)
theorem rwg(E:Enc enc size){e:TypeId}{A:Option Addr}{cap j:Nat}{l:List α}{y:α}(h:l[j]?=some y):(rows enc e size A cap l).gives (blk A) (ofs A+j*size) (enc y):=pO (kE E.len h)
theorem rsg(E:Enc enc size){A:Option Addr}{j:Nat}{l:List α}{y:α}(h:l[j]?=some y):(ros enc A l).gives (blk A) (ofs A+j*size) (enc y):=Ev (kE E.len h)
theorem gvt{c:Ad}{b off:Nat}{us:List Value}(h:c.gives b off us){f:Nat}{u:Value}(hu:us[f]?=some u):c.gives b (off+f) [u]:=fun w hw j v hv=>by
 cases j with
 |zero=>simp only[List.getElem?_cons_zero,Option.some.injEq]at hv;subst hv;exact h w hw f u hu
 |succ j=>simp at hv
theorem Em{c:Ad}{b off:Nat}{us:List Value}(h:c.gives b off us){u:Value}(hu:us=[u]):c.gives b off [u]:=by rw[←hu];exact h
end
theorem Yf{b:Nat}{cs:List Value}{t:TypeId}:(box b cs t).gives b 0 cs:=fun _ hw=>Ji hw
theorem bta{b:Nat}{cs us:List Value}{t:TypeId}(hl:us.length=cs.length):(box b cs t).takes b 0 us (box b us t):=Ye (by rw[Nat.zero_add,hl];exact Nat.ble_self_eq_true _) (by unfold over;rw[List.take_zero,Nat.zero_add,hl];simp)
theorem bt1{b off:Nat}{cs:List Value}{u:Value}{t:TypeId}(hl:Nat.blt off cs.length=true):(box b cs t).takes b off [u] (box b (cs.set off u) t):=Ye hl (by
 have:=Nat.le_of_ble_eq_true hl;unfold over;rw[List.set_eq_take_append_cons_drop,if_pos (by omega)];simp)
section
variable{P:Program}{o:Oper}{ρ:Bj}{Γ:List Ad}{x y:Operand}{C:Cx}{ops:Array Oper}{Q:Exit→Act→World→Prop}{rest:List Oper}{v:Value}{d:Nat}
variable{α:Type}{enc:α→List Value}{size:Nat}
theorem Lh{t e ie:TypeId}{bytes:Nat}{zs:List Value}{A:Option Addr}{cap j i:Nat}{l:List α}{k:IntKind}{el:α}(ho:o.op= .indexAddr t x y)(hx:ev ρ x=some (.slice A l.length cap))(hy:ev ρ y=some (.int k j))(ht:Ce P t e size bytes zs)
    (hi:Γ[i]?=some (rows enc ie size A cap l)) (hj:l[j]?=some el):Rd P o ρ Γ (.pointer (some ⟨blk A,ofs A+j*size,none⟩)):=wE ho hx hy ht hi (List.getElem?_eq_some_iff.1 hj).1
theorem aEn(E:Enc enc size){t e:TypeId}{bytes:Nat}{zs:List Value}{A:Option Addr}{cap j i:Nat}{l:List α}{k:IntKind}{el:α}(ho:o.op= .indexAddr t x y)(hx:ev ρ x=some (.slice A l.length cap))(hy:ev ρ y=some (.int k j))(ht:Ce P t e size bytes zs)
    (hi:Γ[i]?=some (ros enc A l)) (hj:l[j]?=some el):Rd P o ρ Γ (.pointer (some ⟨blk A,ofs A+j*size,none⟩)):=BX ho hx hy ht hi (List.getElem?_eq_some_iff.1 hj).1 (E.flat_len l).symm
theorem Bz(E:Enc enc size){t e:TypeId}{bytes:Nat}{zs us:List Value}{A B:Option Addr}{cap cb i j:Nat}{l:List α}{el:α}(ho:o.op= .call {callee:= .builtin .append,args:=#[x,y],argTypes:=#[t,t]})(ht:Ce P t e size bytes zs)
    (hx:ev ρ x=some (.slice A l.length cap)) (hy:ev ρ y=some (.slice B 1 cb)) (hi:Γ[i]?=some (rows enc e size A cap l)) (hj:Γ[j]?=some (row e size B 1 cb us)) (hu:enc el=us) (h63:l.length<9223372036854775807) (hby:(l.length+1)*bytes≤140737488355328):
    Ge P o ρ Γ (fun v Γ'=>∃A' cap',v= .slice A' (l++[el]).length cap'∧Γ'=Γ.set i (rows enc e size A' cap' (l++[el]))):=by
 have h:=Ge.append (P:=P) ho ht hx hy hi (Sl hj) (by rw[←hu,E.len];simp) (fun u h=>E.one el u (hu▸h)) (by simp only[maxLen];omega) hby
 intro a w ha hs;obtain⟨v,Γ',w',h1,⟨A',cap',h2,h3⟩,h4⟩:=h a w ha hs;refine⟨v,Γ',w',h1,⟨A',cap',by rw[h2];simp,?_⟩,h4⟩;rw[h3];have e1:rows enc e size A' cap' (l++[el])=row e size A' (l.length+1) cap' (l.flatMap enc++us):=by simp[rows,hu]
 rw[e1]
theorem Kw(E:Enc enc size){t e:TypeId}{bytes:Nat}{zs:List Value}{A B:Option Addr}{cap cb i:Nat}{l m:List α}(ho:o.op= .call {callee:= .builtin .append,args:=#[x,y],argTypes:=#[t,t]})(ht:Ce P t e size bytes zs)
    (hx:ev ρ x=some (.slice A l.length cap)) (hy:ev ρ y=some (.slice B m.length cb)) (hi:Γ[i]?=some (rows enc e size A cap l)) (hs:∀w,sat Γ w→Src w B (m.flatMap enc)) (h63:l.length+m.length≤9223372036854775807) (hby:(l.length+m.length)*bytes≤140737488355328):
    Ge P o ρ Γ (fun v Γ'=>∃A' cap',v= .slice A' (l++m).length cap'∧Γ'=Γ.set i (rows enc e size A' cap' (l++m))):=by
 have h:=Ge.append (P:=P) ho ht hx hy hi hs (E.flat_len m) (E.flat_one m) (by simp only[maxLen];omega) hby
 intro a w ha hs;obtain⟨v,Γ',w',h1,⟨A',cap',h2,h3⟩,h4⟩:=h a w ha hs;refine⟨v,Γ',w',h1,⟨A',cap',by rw[h2];simp,?_⟩,h4⟩;rw[h3];have e1:rows enc e size A' cap' (l++m)=row e size A' (l.length+m.length) cap' (l.flatMap enc++m.flatMap enc):=by simp[rows]
 rw[e1]
theorem To.alloc{ty:TypeId}{zs:List Value}(hg:grd ops ρ o=some true)(hd:o.dst=some d)(hn:Nat.blt d C.n=true)(ho:o.op= .alloc ty)(hz:De P ty zs)(k:∀b,To C ((d, .pointer (some ⟨b,0,none⟩))::ρ) (box b zs ty::Γ) (wpList P ops Q rest)):To C ρ Γ (wpList P ops Q (o::rest)):=
 Jmk hg hd hn (Mk.alloc ho hz) fun _ _ ⟨b,h1,h2⟩=>by subst h1 h2;exact k b
theorem QK{ty:TypeId}{u:Value}{us:List Value}(hg:grd ops ρ o=some true)(hd:o.dst=some d)(hn:Nat.blt d C.n=true)(ho:o.op= .box ty x)(hx:ev ρ x=some u)(hu:u.cells=us.toArray)(k:∀b,To C ((d, .pointer (some ⟨b,0,none⟩))::ρ) (box b us ty::Γ) (wpList P ops Q rest)):To C ρ Γ (wpList P ops Q (o::rest)):=
 Jmk hg hd hn (Mk.box ho hx hu) fun _ _ ⟨b,h1,h2⟩=>by subst h1 h2;exact k b
theorem JcV{f:FuncId}{vs:List Value}{Γ1:List Ad}(hg:grd ops ρ o=some true)(hd:o.dst=some d)(hn:Nat.blt d C.n=true)(he:Ent P o ρ f vs)(hc:Bd P f vs Γ1 (fun v' _=>v'=v))(hq:owns Γ1=[])(hs:∀w,oks Γ w→oks Γ1 w)
    (k:To C ((d,v)::ρ) Γ (wpList P ops Q rest)):To C ρ Γ (wpList P ops Q (o::rest)):=
 JcQ (R:=fun v' Γ'=>v'=v∧Γ'=[]) hg hd hn he (fun w hw=>(hc w hw).mono fun e w' ⟨v',Γ',h1,h2,h3⟩=>⟨v',[],h1,⟨h2,rfl⟩,Db.drop (Γ':=[]) h3⟩) hq hs fun v' Γ' ⟨h1,h2⟩=>by subst h1 h2;exact⟨rfl,k⟩
end
theorem jP(Γ:List Ad):∀w,oks Γ w→oks [] w:=fun _ _ c hc=>by simp at hc
theorem jS{Γ Θ:List Ad}{c:Ad}(h1:∀w,oks Γ w→c.holds w)(h2:∀w,oks Γ w→oks Θ w):∀w,oks Γ w→oks (c::Θ) w:=fun w hw x hx=>by
 rcases List.mem_cons.1 hx with rfl|h
 ·exact h1 w hw
 ·exact h2 w hw x h
theorem lS{Γ:List Ad}{c:Ad}(i:Nat)(h:Γ[i]?=some c):∀w,oks Γ w→c.holds w:=fun _ hw=>hw c (List.mem_of_getElem? h)
theorem Oq{Γ:List Ad}{e:TypeId}{size:Nat}{A:Option Addr}{n cap:Nat}{xs:List Value}(i:Nat)(h:Γ[i]?=some (row e size A n cap xs)):∀w,oks Γ w→(ro A xs).holds w:=fun w hw=>by
 obtain⟨A',cap',h1,h2,_⟩:=Im (show w.ownsRow 0 e size (.slice A n cap) n xs from hw _ (List.mem_of_getElem? h));simp only[Value.slice.injEq]at h1;show Src w A xs;rw[h1.1];exact h2
section
variable{P:Program}{o:Oper}{ρ:Bj}{Γ:List Ad}{C:Cx}{ops:Array Oper}{Q:Exit→Act→World→Prop}{rest:List Oper}{d:Nat}
theorem aEo{t:Bool}(hg:grd ops ρ o=some true)(hd:o.dst=some d)(hn:Nat.blt d C.n=true)(h:Rd P o ρ Γ (.bool t))(h1:t=true→To C ((d, .bool true)::ρ) Γ (wpList P ops Q rest))(h2:t=false→To C ((d, .bool false)::ρ) Γ (wpList P ops Q rest)):To C ρ Γ (wpList P ops Q (o::rest)):=by
 cases t
 ·exact To.rd hg hd hn h (h2 rfl)
 ·exact To.rd hg hd hn h (h1 rfl)
theorem aEp{p:Prop} [Decidable p](hg:grd ops ρ o=some true)(hd:o.dst=some d)(hn:Nat.blt d C.n=true)(h:Rd P o ρ Γ (.bool (decide p)))(h1:p→To C ((d, .bool true)::ρ) Γ (wpList P ops Q rest))(h2:¬p→To C ((d, .bool false)::ρ) Γ (wpList P ops Q rest)):To C ρ Γ (wpList P ops Q (o::rest)):=
 aEo hg hd hn h (fun e=>h1 (of_decide_eq_true e)) (fun e=>h2 (of_decide_eq_false e))
theorem aEq{T:Tel}{l:List Oper}{Θ:List Ad}{K:Act→World→Prop}{ms:List Ep}{N:News}{i:Nat}{deps:List Nat}{t:Bool}(ho:l[i]?=some o)(hg:grd l.toArray ρ o=some true)(hd:o.dst=some d)(hn:Nat.blt d C.n=true)(h:Rd P o ρ Θ (.bool t))(h1:t=true→Dt P T l Θ K ms C ((d, .bool true)::ρ) Γ N)(h2:t=false→Dt P T l Θ K ms C ((d, .bool false)::ρ) Γ N):Dt P T l Θ K (⟨i,deps,0⟩::ms) C ρ Γ N:=by
 cases t
 ·exact Nt ho hg hd hn h (h2 rfl)
 ·exact Nt ho hg hd hn h (h1 rfl)
theorem Wq{T:Tel}{l:List Oper}{Θ:List Ad}{K:Act→World→Prop}{ms:List Ep}{N:News}{i:Nat}{deps:List Nat}{p:Prop} [Decidable p](ho:l[i]?=some o)(hg:grd l.toArray ρ o=some true)(hd:o.dst=some d)(hn:Nat.blt d C.n=true)(h:Rd P o ρ Θ (.bool (decide p)))(h1:p→Dt P T l Θ K ms C ((d, .bool true)::ρ) Γ N)(h2:¬p→Dt P T l Θ K ms C ((d, .bool false)::ρ) Γ N):Dt P T l Θ K (⟨i,deps,0⟩::ms) C ρ Γ N:=
 aEq ho hg hd hn h (fun e=>h1 (of_decide_eq_true e)) (fun e=>h2 (of_decide_eq_false e))
theorem aHu {T:Type}{K:Act→World→Prop}{l:List Oper}(F:T→Bj×List Ad)(p:T→Prop)(h:To C ρ Γ (wpList P ops (Exit.then (fun a w=>∃t,p t∧Has C.n C.ds (F t).1 a∧Db C.Γ0 (F t).2 C.w0 w) Q) l))(k:∀t,p t→To C (F t).1 (F t).2 K):To C ρ Γ (wpList P ops (Exit.then K Q) l):=by
 have mono : ∀ (l:List Oper) (a:Act) (w:World),wpList P ops (Exit.then (fun a w=>∃t,p t∧Has C.n C.ds (F t).1 a∧Db C.Γ0 (F t).2 C.w0 w) Q) l a w→wpList P ops (Exit.then K Q) l a w:=by
  intro l;have hq:∀e a w,Exit.then (fun a w=>∃t,p t∧Has C.n C.ds (F t).1 a∧Db C.Γ0 (F t).2 C.w0 w) Q e a w→Exit.then K Q e a w:=fun e a w hq=>by
   cases e with
   |normal=>obtain⟨t,h1,h2,h3⟩:=hq;exact k t h1 a w h2 h3
   |exit id=>exact hq
   |goto l=>exact hq
   |ret=>exact hq
   |panic ch=>exact hq
   |outgrown=>exact hq
  induction l with
  |nil=>exact fun a w h=>hq .normal a w h
  | cons o l ih=>
    intro a w h;unfold wpList at h⊢;split
    · rename_i hw
      rw[if_pos hw]at h;rcases h with h|⟨h1,a0,w0,h2⟩
      · left
        unfold Oper.wp at h⊢;generalize (execOp a.eval o).run P w=r at h⊢;cases r with
        | ok nx w'=>
          cases nx<;>first
           |exact ih _ _ h
           |exact Calls.mono h fun e w' h'=>by
               cases e with
               |returned v=>exact ih _ _ h'
               |panicked c=>exact h'
               |outgrown=>exact h'
           |exact Rows.mono h fun _ _ h'=>ih _ _ h'
           |exact h.elim
        |halt hl w'=>cases hl<;>first|exact h|exact h.elim
      ·exact .inr ⟨h1,a0,w0,h2⟩
    · rename_i hw
      rw[if_neg hw]at h;exact ih _ _ h
 exact fun a w ha hp=>mono l a w (h a w ha hp)
end
theorem aHv{P:Program}{C:Cx}{ρ:Bj}{Γ Δ E:List Ad}{R:Value→List Ad→Prop}{fn:Func}{ex:Exit}{t b n i:Nat}{ty ty':TypeId}{cs:List Value}(is:List Nat)(hpl:Ui Γ is=some (Δ,E))(hex:ex= .ret∨ex= .normal)(hres:fn.results=#[.cell t ty])(hv:look ρ t=some (.pointer (some ⟨b,0,none⟩)))
    (hi:Γ[i]?=some (box b cs ty')) (ht:Ff P ty n) (hl:cs.length=n) (h:R (.agg cs.toArray) Δ) (hds:C.ds=[]:=by rfl):To C ρ Γ (bodyPost P fn (Fin C R) ex):=fun a w ha hp=>by
 have hr:(results fn a.tmps).run P w= .ok (.agg cs.toArray) w:=by
  obtain⟨d,h1,h2,h3⟩:=ht;have hw:=hp.sat.each _ (List.mem_of_getElem? hi);have:=run_loadVar_mid (P:=P) w b 0 ty cs d (Ji hw) h1 h2 (by rw[hl];exact h3);have he:a.tmps[t]?.getD undef= .pointer (some ⟨b,0,none⟩):=by rw[ha.sees t _ hv];rfl
  simp[results,hres,he,asAddr,this]
 have hq:Db C.Γ0 Δ C.w0 w:=(hp.perm (Jv hpl)).drop;rcases hex with rfl|rfl
 ·exact⟨ha.defers.trans hds,_,hr,_,Δ,rfl,h,hq⟩
 ·exact⟨ha.defers.trans hds,_,hr,_,Δ,rfl,h,hq⟩
section
variable{P:Program}{o:Oper}{ρ:Bj}{Γ:List Ad}{x y:Operand}{C:Cx}{K:Act→World→Prop}
theorem Rd.rem{k:IntKind}{m n:Int}{t t':TypeId}(ho:o.op= .binOp .rem t x y t')(hx:ev ρ x=some (.int k m))(hy:ev ρ y=some (.int k n))(h0:0≤m)(h1:0<n):Rd P o ρ Γ (.int k (m%n)):=dw ho hx hy fun w=>by
 have h2:n≠0:=by omega
 simp[eqGuard,binOp,Op.intDiv,h2,Int.tmod_eq_emod_of_nonneg h0]
theorem wG{m n:Int}{t t':TypeId}(ho:o.op= .binOp .quo t x y t')(hx:ev ρ x=some (.int .i64 m))(hy:ev ρ y=some (.int .i64 n))(h0:0≤m)(h1:0<n)(h3:m≤9223372036854775807):Rd P o ρ Γ (.int .i64 (m/n)):=dw ho hx hy fun w=>by
 have h2:n≠0:=by omega
 have h4:m/n≤m:=Int.ediv_le_self _ h0;have h5:0≤m/n:=Int.ediv_nonneg h0 (by omega);simp[eqGuard,binOp,Op.intDiv,h2,Int.tdiv_eq_ediv_of_nonneg h0,IntWalk.i64_in (m/n) (by omega)]
theorem gG{c:Ad}(h1:c.owns=[])(h2:c.reads=[])(h3:∀w,c.holds w)(k:To C ρ (c::Γ) K):To C ρ Γ K:=fun a w ha hq=>by
 have e1:owns (c::Γ)=owns Γ:=by simp[owns,h1]
 have e2:reads (c::Γ)=reads Γ:=by simp[reads,h2]
 refine k a w ha ⟨⟨fun x hx=>?_,by rw[e1];exact hq.sat.nodup,by rw[e1,e2];exact hq.sat.apart⟩,hq.keeps,by rw[e1];exact hq.own,by rw[e2];exact hq.rd⟩;rcases List.mem_cons.1 hx with rfl|h
 ·exact h3 w
 ·exact hq.sat.each x h
theorem Eb{α:Type}(enc:α→List Value)(e:TypeId)(size:Nat)(k:To C ρ (rows enc e size none 0 []::Γ) K):To C ρ Γ K:=gG (c:=rows enc e size none 0 []) rfl rfl (fun w=>World.ownsRow_nil w 0 e size) k
theorem aHw{Γ':List Ad}(h1:∀w,sat Γ w→oks Γ' w)(h2:owns Γ'=[])(h3:∀g∈reads Γ',g∈owns Γ∨g∈reads Γ){Δ:List Ad}(k:To C ρ (Γ'++Δ) K):To C ρ (Γ++Δ) K:=fun a w ha hq=>by
 refine k a w ha (hq.trans (Db.frame hq.sat ⟨⟨h1 w hq.sat.left,by rw[h2];simp,fun g _=>by rw[h2];simp⟩,Fv.refl _ _,fun g hg=>by rw[h2]at hg;simp at hg,fun g hg _=>h3 g hg⟩))
end
theorem Yg{C:Cx}{ρ:Bj}{Γ:List Ad}{K:Act→World→Prop}(c:Ad)(h1:c.owns=[])(h2:∀g∈c.reads,g∈reads Γ)(h3:∀w,oks Γ w→c.holds w)(k:To C ρ (c::Γ) K):To C ρ Γ K:=fun a w ha hq=>by
 have e1:owns (c::Γ)=owns Γ:=by simp[owns,h1]
 have e2:∀g∈reads (c::Γ),g∈reads Γ:=fun g hg=>by
  have:g∈c.reads∨g∈reads Γ:=by simpa[reads]using hg
  exact this.elim (h2 g) id
 refine k a w ha ⟨⟨fun x hx=>?_,by rw[e1];exact hq.sat.nodup,fun g hg=>by rw[e1];exact hq.sat.apart g (e2 g hg)⟩,hq.keeps,by rw[e1];exact hq.own,fun g hg=>hq.rd g (e2 g hg)⟩;rcases List.mem_cons.1 hx with rfl|h
 ·exact h3 w hq.sat.each
 ·exact hq.sat.each x h
theorem Tp{Γ:List Ad}{c:Ad}(i:Nat)(hi:Γ[i]?=some c){g:Nat}(hg:g∈c.reads):g∈reads Γ:=dm.2 ⟨c,List.mem_of_getElem? hi,hg⟩
theorem Dp{C:Cx}{ρ:Bj}{Γ:List Ad}{K:Act→World→Prop}{α:Type}{enc:α→List Value}{e:TypeId}{size:Nat}{A:Option Addr}{cap:Nat}{l:List α}(k:To C ρ (ros enc A l::Γ) K):To C ρ (rows enc e size A cap l::Γ) K:=
 aHw (Γ:=[rows enc e size A cap l]) (Γ':=[ros enc A l]) (fun w hs c hc=>by
  rw[List.mem_singleton.1 hc];exact Oq (Γ:=[rows enc e size A cap l]) 0 rfl w hs.each) rfl (fun g hg=>by
  refine .inl ?_;have h1:g∈Jc A (l.flatMap enc):=by simpa[reads,ros,ro]using hg
  have h2:g∈Ik A:=by
   cases h:l.flatMap enc with
   |nil=>rw[h]at h1;simp[Jc]at h1
   |cons x xs=>rw[h]at h1;exact h1
  simpa[owns,rows,row]using h2) k
theorem om{p:Prop}(h:p:=by first|omega|(simp;done)|(simp;omega)):p:=h
theorem ai{α:Type}(l:List α)(k:Nat)(h:k<l.length):∃z,l[k]?=some z:=⟨l[k],gge h⟩
abbrev OA:=Option Addr
abbrev vs{α:Type}(A:OA)(l:List α)(q:Nat):Value:= .slice A l.length q
theorem sb{ρ ρ':Bj}(h:Wd ρ ρ':=by repeat first|exact trivial|refine⟨rfl,?_⟩):Wd ρ ρ':=h
theorem Ba{P:Program}{f:FuncId}{args:List Value}{Γ:List Ad}{R:Value→List Ad→Prop}{fn:Func}{c:Code}{n:Nat}(hf:P.funcs[f]?=some fn)(hn:fn.ntmps=n)(h:∀w,To ⟨n,Γ,w,[]⟩ (slotsOf 0 args) Γ (c.wp P (bodyPost P fn (Fin ⟨n,Γ,w,[]⟩ R))))(hb:fn.body=some c:=by rfl)(hl:Nat.ble args.length n=true:=by rfl):Bd P f args Γ R:=Bd.enter hf hb hn hl h
theorem ak{P:Program}{C:Cx}{ρ:Bj}{Γ:List Ad}{R:Value→List Ad→Prop}{fn:Func}{ex:Exit}{t:Nat}{v:Value}(hres:fn.results=#[.tmp t])(h:R v Γ)(hex:ex= .ret∨ex= .normal:=by first|exact .inl rfl|exact .inr rfl)(hv:look ρ t=some v:=by rfl)(hds:C.ds=[]:=by rfl):To C ρ Γ (bodyPost P fn (Fin C R) ex):=XC hex hres hv h hds
def az(l:List Nat):List Ep:=l.map fun n=>⟨n%100,bif n/1000==0 then []else [n/1000-1],n/100%10⟩
class Kc(P:Program)(b:outParam (Nat→Bool)):Prop where h:∀f,b f=true→Mf P f=true
theorem Kc.of{P:Program}{b:Nat→Bool}{n:Nat}(h:(List.range n).all (fun f=> !b f||Mf P f)=true)(hb:∀f,b f=true→Nat.blt f n=true):Kc P b:=⟨fun f hf=>by
  have h1:=List.all_eq_true.1 h f (List.mem_range.2 (Nat.le_of_ble_eq_true (hb f hf)));simpa[hf]using h1⟩
class Mx(P:Program):Prop where h:P.follows .mixedOrders=true
section
variable{P:Program}{C:Cx}{ρ:Bj}{Γ:List Ad}{Q:Exit→Act→World→Prop}{ops:Array Oper}{rest:List Oper}{o:Oper}{v:Value}{d:Nat}{f:FuncId}{vs:List Value}{Γ1 Δ:List Ad}{R:Value→List Ad→Prop}{xs:List Operand}{ts:Array TypeId}{nf:Nat→Bool}
theorem Ent.fc [k:Kc P nf](ho:o.op= .call {callee:= .value (.func f),args:=xs.toArray,argTypes:=ts}:=by rfl)(hv:evs ρ xs=some vs:=by rfl)(hf:nf f=true:=by rfl):Ent P o ρ f vs:=Ent.fn ho hv (k.h f hf)
theorem Jfw{l:List Oper}{id:Nat}{ms:List Ep}(Θ:List Ad)(ns:List Nat) [hm:Mx P](hΘ:∀w,oks Γ w→oks Θ w)(h:Dt P noT l Θ (Q .normal) ms C ρ Γ [])(hn:az ns=ms:=by simp only[az,List.map_cons,List.map_nil,Nat.reduceMod,Nat.reduceDiv,Nat.reduceSub,Nat.reduceBEq,cond_true,cond_false];exact rfl)(hB:Lc l ms=true:=by kernel_rfl):To C ρ Γ ((Code.region id l.toArray true).wp P Q):=Oy Θ ms hm.h hB hΘ h
theorem JgP{x:Operand}{p:Prop} [Decidable p](h1:p→To C ((d, .bool true)::ρ) Γ (wpList P ops Q rest))(h2:¬p→To C ((d, .bool false)::ρ) Γ (wpList P ops Q rest))(hg:grd ops ρ o=some true:=by rfl)(hd:o.dst=some d:=by rfl)(hn:Nat.blt d C.n=true:=by rfl)(ho:o.op= .move x:=by rfl)(hx:ev ρ x=some (.bool (decide p)):=by rfl):To C ρ Γ (wpList P ops Q (o::rest)):=aEp hg hd hn (dn ho hx) h1 h2
theorem JgB{x:Operand}{t:Bool}(h1:t=true→To C ((d, .bool true)::ρ) Γ (wpList P ops Q rest))(h2:t=false→To C ((d, .bool false)::ρ) Γ (wpList P ops Q rest))(hg:grd ops ρ o=some true:=by rfl)(hd:o.dst=some d:=by rfl)(hn:Nat.blt d C.n=true:=by rfl)(ho:o.op= .move x:=by rfl)(hx:ev ρ x=some (.bool t):=by rfl):To C ρ Γ (wpList P ops Q (o::rest)):=aEo hg hd hn (dn ho hx) h1 h2
theorem af [Kc P nf](is:List Nat)(hc:Bd P f vs Γ1 R)(k:∀v Γ',R v Γ'→To C ((d,v)::ρ) (Γ'++Δ) (wpList P ops Q rest))(hg:grd ops ρ o=some true:=by rfl)(hd:o.dst=some d:=by rfl)(hn:Nat.blt d C.n=true:=by rfl)(ho:o.op= .call {callee:= .value (.func f),args:=xs.toArray,argTypes:=ts}:=by rfl)(hv:evs ρ xs=some vs:=by rfl)(hf:nf f=true:=by rfl)(hp:Ui Γ is=some (Γ1,Δ):=by rfl):To C ρ Γ (wpList P ops Q (o::rest)):=Jcl is hg hd hn (Ent.fc ho hv hf) hp hc k
theorem Jqf [Kc P nf](hc:Bd P f vs Γ1 R)(hq:owns Γ1=[])(hs:∀w,oks Γ w→oks Γ1 w)(k:∀v Γ',R v Γ'→reads Γ'=[]∧To C ((d,v)::ρ) (Γ'++Γ) (wpList P ops Q rest))(hg:grd ops ρ o=some true:=by rfl)(hd:o.dst=some d:=by rfl)(hn:Nat.blt d C.n=true:=by rfl)(ho:o.op= .call {callee:= .value (.func f),args:=xs.toArray,argTypes:=ts}:=by rfl)(hv:evs ρ xs=some vs:=by rfl)(hf:nf f=true:=by rfl):To C ρ Γ (wpList P ops Q (o::rest)):=JcQ hg hd hn (Ent.fc ho hv hf) hc hq hs k
theorem Jvf [Kc P nf](hc:Bd P f vs Γ1 (fun v' _=>v'=v))(hq:owns Γ1=[])(hs:∀w,oks Γ w→oks Γ1 w)(k:To C ((d,v)::ρ) Γ (wpList P ops Q rest))(hg:grd ops ρ o=some true:=by rfl)(hd:o.dst=some d:=by rfl)(hn:Nat.blt d C.n=true:=by rfl)(ho:o.op= .call {callee:= .value (.func f),args:=xs.toArray,argTypes:=ts}:=by rfl)(hv:evs ρ xs=some vs:=by rfl)(hf:nf f=true:=by rfl):To C ρ Γ (wpList P ops Q (o::rest)):=JcV hg hd hn (Ent.fc ho hv hf) hc hq hs k
end
abbrev aNq:=@ByteArray.size_append
abbrev aNr:=@List.getElem?_eq_some_iff
abbrev aNs:=@List.mem_cons_of_mem
abbrev aNt:=@Nat.le_of_ble_eq_true
abbrev aNu:=@List.mem_cons_self
abbrev aNv:=@List.length_map
abbrev aNw:=@List.length_set
abbrev aNx:=@List.mem_cons
abbrev aNy:=@if_neg
abbrev aNz:=@List.mem_singleton
abbrev aOa:=@congrArg
abbrev aOb:=@List.map_append
abbrev aOc:=@Bool.and_eq_true
abbrev aOd:=@Nat.le_refl
abbrev aOe:=@List.not_mem_nil
abbrev aOf:=@List.getElem?_map
abbrev aOg:=@Nat.eq_of_beq_eq_true
abbrev aOh:=@List.length_take
abbrev aOi:=@Option.some.injEq
abbrev aOj:=@Option.some.inj
abbrev aOk:=@Nat.zero_le
abbrev aOl:=@List.perm_middle
abbrev aOm:=@List.mem_map
abbrev aOn:=@if_pos
abbrev aOo:=@List.append_nil
abbrev aOp:=@Array.getD_eq_getD_getElem?
abbrev aOq:=@List.take_of_length_le
abbrev aOr:=@Option.map_eq_some_iff
abbrev aOs:=@List.mem_flatMap
abbrev aOt:=@List.append_assoc
abbrev aOu:=@List.getElem?_append_left
abbrev aOv:=@decide_eq_true
abbrev aOw:=@List.map_cons
abbrev aOx:=@absurd
abbrev aOy:=@Result.andThen_ok
abbrev aOz:=@Nat.zero_add
abbrev aPa:=@List.perm_append_comm
abbrev aPb:=@List.sizeOf_lt_of_mem
abbrev aPc:=@List.length_replicate
abbrev aPd:=@List.Perm.swap
abbrev aPe:=@decide_eq_false
abbrev aPf:=@decide_eq_true_eq
abbrev aPg:=@Sem.run_bind
abbrev aPh:=@or_false
abbrev aPi:=@List.mem_append
abbrev aPj:=@List.getElem?_append_right
abbrev aPk:=@List.eq_nil_iff_forall_not_mem
abbrev aPl:=@List.flatMap_cons
abbrev aPm:=@List.flatMap_append
abbrev aPn:=@List.take_append_drop
abbrev aPo:=@cond_true
abbrev aPp:=@Sem.run_pure
abbrev aPq:=@List.map_nil
abbrev aPr:=@List.getElem?_of_mem
abbrev aPs:=@Option.bind_eq_some_iff
abbrev aPt:=@List.all_eq_true
abbrev aPu:=@Bool.or_eq_true
abbrev aPv:=@List.mem_of_mem_take
abbrev aPw:=@List.length_drop
abbrev aPx:=@Nat.le_trans
abbrev aPy:=@List.drop_eq_getElem_cons
abbrev aPz:=@List.drop_eq_nil_of_le
abbrev aQa:=@List.cons.injEq
abbrev aQb:=@List.mem_append_right
abbrev aQc:=@List.getElem?_take
abbrev aQd:=@List.eq_nil_of_length_eq_zero
abbrev aQe:=@List.map_map
abbrev aQf:=@Nat.sub_self
abbrev aQg:=@List.getD_eq_getElem?_getD
abbrev aQh:=@Array.getElem?_eq_some_iff
abbrev aQi:=@Option.isSome_iff_exists
abbrev aQj:=@List.nil_append
abbrev aQk:=@List.mem_append_left
abbrev aQl:=@List.getElem?_drop
abbrev aQm:=@List.mem_filter
abbrev aQn:=@of_decide_eq_true
abbrev aQo:=@Nat.lt_of_lt_of_le
abbrev aQp:=@List.cons_append
abbrev aQq:=@List.getElem?_take_of_lt
abbrev aQr:=@decide_eq_false_iff_not
abbrev aQs:=@List.take_append_of_le_length
abbrev aQt:=@Bool.or_eq_false_iff
abbrev aQu:=@List.map_take
abbrev aQv:=@Nat.add_zero
abbrev aQw:=@List.foldl_cons
end Go.Sep
