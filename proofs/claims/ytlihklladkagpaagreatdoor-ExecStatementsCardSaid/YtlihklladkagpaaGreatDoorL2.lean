/- Own text. -/
import Derived.Test.YtlihklladkagpaaGreatDoorL1
import Derived.Deep.Slices
import Derived.ProofKit
import Derived.OpenShut
import Derived.ChangeOld
import Derived.LoopN
import Derived.Laws.StructEq
import Derived.Lib.Bytealg
import Derived.Laws.Externs
set_option linter.unusedVariables false
set_option linter.unusedSimpArgs false
namespace Go.Sep
theorem dog{α:Type}{l:List α}{k:Nat}{y:α}(hy:l[k]?=some y):l.drop k=y::l.drop (k+1):=by
 obtain⟨h1,h2⟩:=aEc.1 hy
 rw[←h2];exact aGb h1
theorem Cf{α:Type}{l:List α}{k:Nat}{y:α}(hy:l[k]?=some y):l.take (k+1)=l.take k++[y]:=by
 obtain⟨h1,h2⟩:=aEc.1 hy
 rw[←h2];exact List.take_succ_eq_append_getElem h1
theorem Ou{α β:Type}{l:List α}{i:Nat}{y:α}(h:l[i]?=some y)(f:α→β):f y∈l.map f:=aEv.2 ⟨y,mog h,rfl⟩
def Jb(a b:Int):Int:=if a<b then-1 else if b<a then 1 else 0
def Xm{α:Type}(c:α→α→Int):List α→List α→Int
 |[],[]=>0
 |[],_::_=>-1
 |_::_,[]=>1
 |a::l,b::m=>if c a b=0 then Xm c l m else c a b
structure Cmp{α:Type}(c:α→α→Int):Prop where
 anti:∀x y,c y x=-c x y
 trans:∀x y z,c x y≤0→c y z≤0→c x z≤0
section
variable{α β:Type}{c:α→α→Int}
theorem Cmp.refl(h:Cmp c)(x:α):c x x=0:=by have:=h.anti x x;omega
theorem Cmp.ltle(h:Cmp c){x y z:α}(h1:c x y<0)(h2:c y z≤0):c x z<0:=by
 have a1:=h.anti x z;have a2:=h.anti x y
 have:=h.trans y z x h2
 omega
theorem Cmp.lelt(h:Cmp c){x y z:α}(h1:c x y≤0)(h2:c y z<0):c x z<0:=by
 have a1:=h.anti x z;have a2:=h.anti y z
 have:=h.trans z x y
 omega
theorem Cmp.eqtrans(h:Cmp c){x y z:α}(h1:c x y=0)(h2:c y z=0):c x z=0:=by
 have a1:=h.anti x z;have a2:=h.anti x y;have a3:=h.anti y z
 have:=h.trans x y z;have:=h.trans z y x
 omega
theorem Cmp.comap(h:Cmp c)(f:β→α):Cmp (fun x y=>c (f x) (f y)):=⟨fun _ _=>h.anti _ _,fun _ _ _=>h.trans _ _ _⟩
theorem Cmp.zero:Cmp (fun(_ _:α)=>0):=⟨fun _ _=>rfl,fun _ _ _ _ _=>Int.le_refl _⟩
theorem rP:Cmp Jb:=by
 constructor
 ·intro x y;unfold Jb;split<;>split<;>first|omega|(split<;>omega)|rfl
 · intro x y z h1 h2
   have e:∀a b,Jb a b≤0↔a≤b:=fun a b=>by unfold Jb;split<;>first|omega|(split<;>omega)
   rw[e]at*;omega
theorem lW{a b:Int}:Jb a b=0↔a=b:=by unfold Jb;split<;>first|omega|(split<;>omega)
theorem Ze{a b:Int}:Jb a b<0↔a<b:=by unfold Jb;split<;>first|omega|(split<;>omega)
theorem gU(l:List α):Xm c [] l≤0:=by cases l<;>simp[Xm]
theorem aCr(h:Cmp c):Cmp (Xm c):=by
 constructor
 · intro x
   induction x with
   |nil=>intro y;cases y<;>simp[Xm]
   | cons a l ih=>
     intro y
     cases y with
     |nil=>simp[Xm]
     | cons b m=>
       have:=h.anti a b;have:=ih m
       simp only[Xm];split<;>split<;>omega
 · intro x
   induction x with
   |nil=>intro y z _ _;exact gU z
   | cons a l ih=>
     intro y z h1 h2
     cases y with
     |nil=>simp[Xm]at h1
     | cons b m=>
       cases z with
       |nil=>simp[Xm]at h2
       | cons e n=>
         simp only[Xm]at*
         by_cases e1:c a b=0
         · by_cases e2:c b e=0
           ·rw[aEh e1]at h1;rw[aEh e2]at h2;rw[aEh (h.eqtrans e1 e2)];exact ih m n h1 h2
           · rw[aEa e2]at h2
             have:=h.lelt (x:=a) (y:=b) (z:=e) om om
             rw[aEa om];omega
         · rw[aEa e1]at h1
           have h3:c b e≤0:=by
            by_cases e2:c b e=0
            ·omega
            ·rw[aEa e2]at h2;exact h2
           have:=h.ltle (x:=a) (y:=b) (z:=e) om h3
           rw[aEa om];omega
def Tf(c:α→α→Int)(x:α):List α→List α
 |[]=>[x]
 |y::r=>if c x y<0 then y::Tf c x r else x::y::r
def bC(c:α→α→Int)(x:α)(S:List α):List α:=(Tf c x S.reverse).reverse
def Ev(c:α→α→Int)(l:List α):List α:=l.foldl (fun S x=>bC c x S) []
theorem wE(l:List α)(x:α):Ev c (l++[x])=bC c x (Ev c l):=by simp[Ev]
theorem bD(x:α):∀S:List α,(Tf c x S).Perm (x::S)
 |[]=>List.Perm.refl _
 | y::r=>by
   unfold Tf;split
   ·exact((bD x r).cons y).trans (aFc _ _ _)
   ·exact List.Perm.refl _
theorem DT(x:α)(S:List α):(bC c x S).Perm (x::S):=
 ((List.reverse_perm _).trans (bD x _)).trans ((List.reverse_perm S).cons x)
theorem Vi:∀(l S:List α),(l.foldl (fun S x=>bC c x S) S).Perm (l++S)
 |[],_=>List.Perm.refl _
 | x::l,S=>by
   rw[aGe]
   exact(Vi l _).trans (((DT x S).append_left l).trans aEl)
theorem gV(l:List α):(Ev c l).Perm l:=by have:=Vi (c:=c) l [];rwa[aEz]at this
theorem Mt(l:List α):(Ev c l).length=l.length:=(gV l).length_eq
theorem gW(x:α):∀(q p:List α),(∀y∈q,c x y<0)→(∀y,p.head?=some y→¬c x y<0)→Tf c x (q++p)=q++x::p
 | [],p,_,hp=>by
   cases p with
   |nil=>rfl
   |cons y p=>simp only[aGi,Tf];rw[aEa (hp y rfl)]
 | y::q,p,hq,hp=>by
   simp only[aGp,Tf]
   rw[aEh (hq y (aEd ..)),gW x q p (fun z hz=>hq z (aEb _ hz)) hp]
theorem gX{x:α}{p q:List α}(hq:∀y∈q,c x y<0)(hp:∀y,p.getLast?=some y→¬c x y<0):bC c x (p++q)=p++x::q:=by
 unfold bC
 rw[List.reverse_append,gW x q.reverse p.reverse (fun y hy=>hq y (List.mem_reverse.1 hy)) (fun y hy=>hp y (by rw[←hy,List.head?_reverse]))]
 simp
theorem Vj(h:Cmp c)(x:α):∀{S:List α},S.Pairwise (fun a b=>c b a≤0)→(Tf c x S).Pairwise (fun a b=>c b a≤0)
 |[],_=>by simp[Tf]
 | y ::r,hS=>by
   obtain⟨h1,h2⟩:=aFo.1 hS
   unfold Tf;split
   · rename_i hlt
     refine aFo.2 ⟨fun z hz=>?_,Vj h x h2⟩
     rcases aEi.1 ((bD x r).mem_iff.1 hz)with rfl|hz
     ·omega
     ·exact h1 z hz
   · rename_i hge
     have a:=h.anti x y
     refine aFo.2 ⟨fun z hz=>?_,hS⟩
     rcases aEi.1 hz with rfl|hz
     ·omega
     ·exact h.trans _ _ _ (h1 z hz) om
theorem oG(h:Cmp c)(l:List α):(Ev c l).Pairwise (fun a b=>c a b≤0):=by
 suffices ∀(l S:List α),S.Pairwise (fun a b=>c a b≤0)→(l.foldl (fun S x=>bC c x S) S).Pairwise (fun a b=>c a b≤0)from this l [] List.Pairwise.nil
 intro l
 induction l with
 |nil=>exact fun _ h=>h
 | cons x l ih=>
   intro S hS
   rw[aGe]
   refine ih _ ?_
   unfold bC
   exact List.pairwise_reverse.2 (Vj h x (List.pairwise_reverse.2 hS))
theorem rQ(p t:List α)(x y:α):(((p++[y])++x::t).set (p++[y]).length y).set p.length x=p++x::y::t:=by
 simp
theorem Wp(l:List α):Ev c (l.take 1)++l.drop 1=l:=by
 cases l with
 |nil=>rfl
 |cons x l=>simp[Ev,bC,Tf]
theorem Ud{l:List α}{i:Nat}{x:α}{p q:List α}(hx:l[i]?=some x)(hpq:Ev c (l.take i)=p++q)(hq:∀y∈q,c x y<0)(hp:∀y,p.getLast?=some y→¬c x y<0):Ev c (l.take (i+1))=p++x::q:=by
 rw[Cf hx,wE,hpq,gX hq hp]
theorem cO{l:List α}(h:0<l.length):∃p y,l=p++[y]:=by
 rcases List.eq_nil_or_concat l with rfl|⟨p,y,rfl⟩
 ·simp at h
 ·exact⟨p,y,List.concat_eq_append⟩
theorem zD(p t:List α)(x:α):(p++x::t)[p.length]?=some x:=by simp
end
open Go.ChangeShapes Go.WideShapes Go.ChangeAt Go.RowKit Go.Flow Go.Mem Go.Deep
section
variable{H:Type}{ench:TypeId×Value→H}{P:Program}{w:World}{base:Nat}{spare:Nat→Bool}{held:Bool}
theorem oH{α:Type}{enc:α→List Value}{size:Nat}(hs:∀x,(enc x).length=size):∀(l:List α) (k:Nat) (v:Value),(l.flatMap enc)[k]?=some v→∃i j a,k=i*size+j∧l[i]?=some a∧(enc a)[j]?=some v
 |[],k,v,h=>by simp at h
 | x ::l,k,v,h=>by
   rw[aFf]at h
   rcases Nat.lt_or_ge k size with hk|hk
   · rw[aFj (by rw[hs];exact hk)]at h
     exact⟨0,k,x,by omega,rfl,h⟩
   · rw[aFw (by rw[hs];exact hk),hs]at h
     obtain⟨i,j,a,h1,h2,h3⟩:=oH hs l (k-size) v h
     exact⟨i+1,j,a,by rw[Nat.add_mul];omega,h2,h3⟩
theorem open_list{α:Type}{enc:α→List Value}{size:Nat}(hs:∀x,(enc x).length=size)(hpos:0<size)(Q:α→Prop){t e:TypeId}{fuel:Nat}{cs:List Value}{x:DataW H×List MemPlace}(ht:P.underlying t=some (.slice e))(hC:P.cellsOf e=size)
    (hel:∀n cs' x',DataW.trod ench P w base spare held n e cs'=some x'→cs'.length=size→∃a:α,cs'=enc a∧Q a) (h:DataW.trod ench P w base spare held fuel t cs=some x):
    ∃(A:OA) (l:List α) (cap:Nat),cs=[.slice A l.length cap]∧Src w A (l.flatMap enc)∧(∀a∈l,Q a)∧l.length≤cap∧cap≤maxLen:=by
 rcases open_slice ht h with⟨h0,_⟩|⟨a,len,cap,m,n,D,Pl,hcs,_,hl,hm,hmm,_,hi⟩
 ·exact⟨none,[],0,h0, .inl rfl,by simp,aEu _,aEw _⟩
 · have hlm:len≤m:=by rw[hmm];split<;>omega
   have key:∀i,i<len→∃b:α,(∀j v,(enc b)[j]?=some v→w.cell? (a.add (i*size+j))=some v)∧Q b:=fun i hil=>by
    obtain⟨cs',hc,ht'⟩:=hi i om
    rw[hC]at hc
    obtain⟨_,hcl,hat⟩:=World.cells?_some hc
    obtain⟨b,hb,hq⟩:=hel _ _ _ ht' hcl
    refine⟨b,fun j v hv=>?_,hq⟩
    have hj:j<size:=by rw[←hs b];exact(aEc.1 hv).1
    rw[←Go.Deep.add_add,hat j hj,hb,hv]
   rcases Nat.eq_zero_or_pos len with h0|h0
   · subst h0
     exact⟨some a,[],cap,hcs, .inl rfl,by simp,aEw _,hm⟩
   · have key2:∀i,∃b:α,i<len→(∀j v,(enc b)[j]?=some v→w.cell? (a.add (i*size+j))=some v)∧Q b:=fun i=>by
       by_cases hil:i<len
       ·obtain⟨b,hb⟩:=key i hil;exact⟨b,fun _=>hb⟩
       ·obtain⟨b,_⟩:=key 0 h0;exact⟨b,fun h=>(hil h).elim⟩
     let f:Nat→α:=fun i=>Classical.choose (key2 i)
     have hf:∀i,i<len→(∀j v,(enc (f i))[j]?=some v→w.cell? (a.add (i*size+j))=some v)∧Q (f i):=fun i=>Classical.choose_spec (key2 i)
     obtain⟨v0,hv0⟩:∃v,(enc (f 0))[0]?=some v:=⟨_,gge (by rw[hs];exact hpos)⟩
     have hc0:=(hf 0 h0).1 0 v0 hv0
     obtain⟨b,off,spot⟩:=a
     have hspot:spot=none:=by simpa[Addr.add]using World.cell?_spot hc0
     subst hspot
     refine⟨some ⟨b,off,none⟩,(List.range len).map f,cap,by simpa using hcs, .inr ⟨b,off,rfl,fun k v hv=>?_⟩,fun x hx=>?_,by simpa using hl,hm⟩
     · obtain⟨i,j,y,h1,h2,h3⟩:=oH hs _ k v hv
       rw[aEp]at h2
       obtain⟨i',h4,h5⟩:=aFg.1 h2
       have h6:i'=i∧i<len:=by
        have:=aEc.1 h4
        simp at this
        exact⟨this.2.symm,this.1⟩
       obtain⟨rfl,h7⟩:=h6
       rw[←h5]at h3
       have:=(hf i' h7).1 j v h3
       rw[Addr.add_mid]at this
       rw[h1];exact this
     · obtain⟨i,hi',rfl⟩:=aEv.1 hx
       exact(hf i (List.mem_range.1 hi')).2
theorem Eh{e:TypeId}{fs:Array Field}{fuel:Nat}{cs:List Value}{x:DataW H×List MemPlace}(he:P.underlying e=some (.struct fs))(h:DataW.trod ench P w base spare held fuel e cs=some x)(i:Nat)(f:Field)(hf:fs[i]?=some f)(h1:P.cellsOf f.type=1){c:Value}(hc:cs[f.offset]?=some c):
    ∃n y,DataW.trod ench P w base spare held n f.type [c]=some y:=by
 obtain⟨xs,n,_,_,_,hxl,hx⟩:=DataW.trod_struct he h
 have:=hx i f hf
 rw[h1]at this
 have e1:(cs.drop f.offset).take 1=[c]:=aCq hc
 rw[e1]at this
 have hi:i<xs.length:=by rw[hxl];exact(Array.getElem?_eq_some_iff.1 hf).1
 exact⟨n,xs[i],by rw[this,gge hi]⟩
theorem Xn(hl:laidOutB P=true){W W':World}(hb:Below W.heap.size W W'):∀{ts:List TypeId} {vs:List Value} {ds:List (DataW H)} {p:List MemPlace},(∀t∈ts,P.readableRec t=true∧t<P.types.size)→DataW.TrodAll ench P W 0 (fun _=>true) true ts vs ds p→
    DataW.TrodAll ench P W' 0 (fun b=>decide (b<W.heap.size)) true ts vs ds p
 | [],vs,ds,p,_,h=>by
   cases vs with
   | nil => obtain⟨rfl,rfl⟩:ds=[]∧p=[]:=by simpa using trodAll_nil h
            exact trodAll_mk0
   |cons v vs=>exact absurd (trodAll_nil h).1 (by simp)
 | t::ts,vs,ds,p,hr,h=>by
   obtain⟨v0,vs0,d0,ds0,p0,q0,rfl,rfl,rfl,h0,r0⟩:=trodAll_cons h
   obtain⟨h1,h2⟩:=hr t (by simp)
   have lt0:∀x∈p0,x.block<W.heap.size:=by
    obtain⟨m,hm⟩:=h0;exact DataW.trod_lt m _ _ _ hm
   exact trodAll_cons_mk (Below.trod hl h1 h2 h0 hb lt0) (Xn hl hb (fun t ht=>hr t (by simp[ht])) r0)
end
open Go.RowKit Go.Flow Go.Mem
theorem IZ{P:Program}{f:FuncId}{args:List Value}{Γ:List Ai}{w:World}(h:aMa P f args Γ (fun v _=>v= .bool true))(hq:owns Γ=[])(hs:oks Γ w):Calls P f args.toArray w fun e w'=>e= .returned (.bool true)∧Ext w w':=
 (h w (Ig hq hs)).mono fun _ _ ⟨_,_,h1,h2,h3⟩=>⟨by rw[h1,h2],h3.keeps.ext fun _ _ hg=>by rw[hq]at hg;simp at hg⟩
theorem PW{c:Ai}{w:World}(h1:c.holds w):oks [c] w:=fun x hx=>by rw[aEr.1 hx];exact h1
theorem Qp{c:Ai}{Γ:List Ai}{w:World}(h1:c.holds w)(h2:oks Γ w):oks (c::Γ) w:=fun x hx=>by
 rcases aEi.1 hx with rfl|h
 ·exact h1
 ·exact h2 x h
open Go.ChangeShapes Go.WideShapes Go.ChangeAt Go.RowKit Go.Flow Go.Mem Go.Deep
open Go.RowKit Go.Flow Go.Mem
section
variable{P:Program}{o:Oper}{ρ:Cb}{Γ:List Ai}{x y:Operand}
theorem eF{w:World}{t ty e:TypeId}{i:TypeInfo}{z:Value}(ht:P.underlying t=some (.slice e))(hi:P.info? e=some i)(hz:i.zero=some z)(b a:Addr)(n c:Nat)(news:List Value)(hl:news.length=n*i.size)(hnews:∀j v,news[j]?=some v→w.cell? (a.add j)=some v)
    (h0:0<n) (h63:(n:Int)≤9223372036854775807) (h48:n*i.bytes≤281474976710656):(Builtin.append_ #[t,t] ty #[.slice (some b) 0 0, .slice (some a) n c]).run P w=(Builtin.append_ #[t,t] ty #[.slice none 0 0, .slice (some a) n c]).run P w:=by
 rw[run_append_nil (P:=P) (w:=w) t ty e i z ht hi hz a n c news hl hnews h0 h63 h48,
  run_append_grow (P:=P) (w:=w) t ty e i z ht hi hz b 0 0 [] (by simp) (by simp) a n c news hl hnews om (by simpa using h63) (by rw[aFl,nextslicecap_zero h0];exact h48)]
 simp
theorem Ov{α:Type}{enc:α→List Value}{size:Nat}(E:Enc enc size){t e:TypeId}{bytes:Nat}{zs:List Value}{A B:OA}{cb:Nat}{m:List α}(ho:o.op= .call {callee:= .builtin .append,args:=#[x,y],argTypes:=#[t,t]})(ht:Ci P t e size bytes zs)
    (hx:ev ρ x=some (.slice A 0 0)) (hy:ev ρ y=some (.slice B m.length cb)) (hs:∀w,oks Γ w→Src w B (m.flatMap enc)) (h0:0<m.length) (h63:m.length≤9223372036854775807) (hby:m.length*bytes≤140737488355328):
    Mk P o ρ Γ (fun v N=>∃A' cap',v= .slice A' m.length cap'∧N=[rows enc e size A' cap' m]):=fun a w ha hG=>by
 obtain⟨it,zv,h2,h3,h4,h5,h6⟩:=ht.inf
 have hsrc:=hs w hG
 have hnil:w.ownsRow 0 e size (.slice none 0 0) 0 []:=World.ownsRow_nil w 0 e size
 obtain⟨v',w',hrun,h7,h8,h9⟩:=Uw (P:=P) w 0 t o.type e it zv size bytes ht.und h2 h3 h4 h5 (by rw[h6];simpa using ht.len) ht.pos _ 0 [] hnil B m.length cb (m.flatMap enc) (E.flat_len m) hsrc (E.flat_one m) (by simp only[maxLen];omega) (by rw[aFl];exact hby) (aEw _)
 have hrun2:(Builtin.append_ #[t,t] o.type #[.slice A 0 0, .slice B m.length cb]).run P w= .ok v' w':=by
  rw[←hrun]
  cases A with
  |none=>rfl
  | some b=>
    rcases hsrc with h|⟨g,off,rfl,hr⟩
    · have:=E.flat_len m
      rw[h]at this
      have hp:=ht.pos
      have:0<m.length*size:=Nat.mul_pos h0 hp
      simp at*;omega
    ·exact eF ht.und h2 h3 b ⟨g,off,none⟩ m.length cb (m.flatMap enc) (by rw[E.flat_len,h4]) (fun j v hv=>by rw[Addr.add_mid];exact hr j v hv) h0 om (by rw[h5];omega)
 rw[aFl,aGi]at h7
 obtain⟨A',cap',rfl,_⟩:=Qn h7
 have hnew:∀g,g∈Ny A'→g=w.heap.size:=fun g hg=>by
  obtain⟨ad,rfl,rfl⟩:=Rq.1 hg
  rcases h9 with h9|h9
  ·simp[Value.ownBlock]at h9
  ·simp[Value.ownBlock]at h9;exact h9
 refine⟨_,_,w',?_,⟨A',cap',rfl,rfl⟩,⟨⟨fun c hc=>by rw[aEr.1 hc];exact h7,by cases A'<;>simp[owns,rows,row,Ny],by simp[reads,rows,row]⟩,h8.mono fun _ _ h=>by simp[Value.ownBlock]at h,fun g hg hl=>?_,by simp[reads,rows,row]⟩⟩
 · unfold execOp
   simp only[ho,resolve,invoke,builtin,Sem.run_bind,Sem.run_pure,Result.andThen_ok,List.map_toArray,aFn,List.map_nil,ha.eval hx,ha.eval hy,hrun2]
 · have:g∈Ny A':=by simpa[owns,rows,row]using hg
   have:=hnew g this;omega
theorem Rt{t e:TypeId}{size bytes:Nat}{zs:List Value}{A B:OA}{n cap m cb:Nat}(ho:o.op= .call {callee:= .builtin .append,args:=#[x,y],argTypes:=#[t,t]})(ht:Ci P t e size bytes zs)
    (hx:ev ρ x=some (.slice A n cap)) (hy:ev ρ y=some (.slice B m cb)) (hm:m=0) (hc:n≤cap):Rd P o ρ Γ (.slice A n cap):=fun a w ha _=>by
 obtain⟨it,zv,h2,h3,h4,h5,h6⟩:=ht.inf
 subst hm
 have:(Builtin.append_ #[t,t] o.type #[.slice A n cap, .slice B 0 cb]).run P w= .ok (.slice A n cap) w:=by
  cases A<;>cases B<;>simp[Builtin.append_,run_underlying ht.und,sizeOf,typeInfo,h2,Builtin.lenOf,Builtin.firstCells,hc,storeCells,loadCells,loadCellsFrom]
 unfold execOp
 simp only[ho,resolve,invoke,builtin,Sem.run_bind,Sem.run_pure,Result.andThen_ok,List.map_toArray,aFn,List.map_nil,ha.eval hx,ha.eval hy,this]
theorem Hg{α:Type}{enc:α→List Value}{size:Nat}{t e:TypeId}{bytes:Nat}{zs:List Value}(ho:o.op= .buildSlice t 0 #[])(ht:Ci P t e size bytes zs):Mk P o ρ Γ (fun v N=>∃A,v= .slice A ([]:List α).length 0∧N=[rows enc e size A 0 ([]:List α)]):=DR ho ht
end
section
variable{P:Program}{C:Cx}{ρ:Cb}{Γ:List Ai}{Q:Exit→Act→World→Prop}{o:Oper}{x y:Operand}{t t':TypeId}
theorem Vk{R:Value→List Ai→Prop}{fn:Func}{ex:Exit}{t u s:Nat}{v v' v'':Value}(hex:ex= .ret∨ex= .normal)(hres:fn.results=#[.tmp t, .tmp u, .tmp s])(hv:look ρ t=some v)(hv':look ρ u=some v')(hv'':look ρ s=some v'')(h:R (.tuple #[v,v',v'']) Γ)(hds:C.ds=[]:=by rfl):To C ρ Γ (bodyPost P fn (Fin C R) ex):=
 zA hex (fun a w ha _=>by
  unfold results
  rw[hres]
  simp[aFx,ha.sees t v hv,ha.sees u v' hv',ha.sees s v'' hv'']) h hds
theorem cZ{s:ByteArray}{j:Nat}{k:IntKind}(ho:o.op= .index t x y)(ht:P.underlying t=some .string)(hx:ev ρ x=some (.string s))(hy:ev ρ y=some (.int k (j:Int)))(hj:j<s.size):Rd P o ρ Γ (.int .u8 (s.data[j]'hj).toNat):=fun a w ha _=>by
 unfold execOp
 simp[ho,ha.eval hx,ha.eval hy,Instr.index,asIntOf,run_underlying ht,hj]
 rfl
theorem DU{ops:Array Oper}{rest:List Oper}{d:Nat}{s:ByteArray}{j:Nat}{k:IntKind}(hg:grd ops ρ o=some true)(hd:o.dst=some d)(hn:Nat.blt d C.n=true)(ho:o.op= .index t x y)(ht:P.underlying t=some .string)(hx:ev ρ x=some (.string s))(hy:ev ρ y=some (.int k (j:Int)))(hj:j<s.size)
    (h:∀n:Nat,n<256→To C ((d, .int .u8 (n:Int))::ρ) Γ (wpList P ops Q rest)):To C ρ Γ (wpList P ops Q (o::rest)):=
 To.rd hg hd hn (cZ ho ht hx hy hj) (h _ (UInt8.toNat_lt _))
end
theorem Tp{P:Program}{o:Oper}{ρ:Cb}{Γ:List Ai}{x y:Operand}{t t' e:TypeId}{A:OA}{n c:Nat}(ho:o.op= .binOp .eql t x y t')(ht:P.underlying t=some (.slice e))(hx:ev ρ x=some (.slice A n c))(hy:ev ρ y=some (.slice none 0 0)):Rd P o ρ Γ (.bool A.isNone):=Rd.bin ho hx hy fun w=>by
 have key:∀d,(Op.equalIn (d+1) t (.slice A n c) (.slice none 0 0)).run P w= .ok A.isNone w:=fun d=>by
  cases A<;>simp[Op.equalIn,run_underlying ht]
 have h:(Op.equal t (.slice A n c) (.slice none 0 0)).run P w= .ok A.isNone w:=key 9999
 cases A<;>simp[eqGuard,binOp,h]
theorem rR{Γ:List Ai}{w:World}{α:Type}{enc:α→List Value}{size:Nat}(E:Enc enc size)(hp:0<size){A:OA}{l:List α}(h0:0<l.length)(i:Nat)(h:Γ[i]?=some (ros enc A l))(hs:sat Γ w):A.isNone=false:=by
 rcases(show Src w A (l.flatMap enc)from hs.each _ (mog h))with h1|⟨g,off,rfl,_⟩
 · have:=E.flat_len l
   rw[h1]at this
   have h2:0<l.length*size:=Nat.mul_pos h0 hp
   simp at this;omega
 ·rfl
theorem Oe{Γ:List Ai}{w:World}{α:Type}{enc:α→List Value}{size:Nat}(E:Enc enc size)(hp:0<size){e:TypeId}{cap:Nat}{A:OA}{l:List α}(h0:0<l.length)(i:Nat)(h:Γ[i]?=some (rows enc e size A cap l))(hs:sat Γ w):A=some ⟨blk A,ofs A,none⟩:=by
 obtain⟨A',cap',h1,h2,_⟩:=Qn (show w.ownsRow 0 e size (.slice A l.length cap) l.length (l.flatMap enc)from hs.each _ (mog h))
 simp only[Value.slice.injEq]at h1
 rw[←h1.1]at h2
 rcases h2 with h3|⟨g,off,rfl,_⟩
 · have:=E.flat_len l
   rw[h3]at this
   have h2:0<l.length*size:=Nat.mul_pos h0 hp
   simp at this;omega
 ·rfl
theorem Dg{P:Program}{o:Oper}{ρ:Cb}{Γ:List Ai}{x y:Operand}{t e:TypeId}{size bytes:Nat}{zs:List Value}{A:OA}{n cap j:Nat}{k:IntKind}(hA:A=some ⟨blk A,ofs A,none⟩)(ho:o.op= .indexAddr t x y)(hx:ev ρ x=some (.slice A n cap))(hy:ev ρ y=some (.int k j))(ht:Ci P t e size bytes zs)(hj:j<n):Rd P o ρ Γ (.pointer (some ⟨blk A,ofs A+j*size,none⟩)):=fun a w ha _=>by
 obtain⟨it,zv,h2,h3,h4,_⟩:=ht.inf
 unfold execOp
 rw[hA]at hx
 simp[ho,ha.eval hx,ha.eval hy,Instr.indexAt,asIntOf,run_underlying ht.und,hj,sizeOf,typeInfo,h2,h4,Addr.add_mid]
variable{P:Program}{o:Oper}{ρ:Cb}{Γ:List Ai}{x y:Operand}
def lX(P:Program):Nat→List Field→List IntKind→Bool
 |_,[],[]=>true
 |n,f::fs,k::ks=> !(f.name== "_")&&f.offset==n&&(match P.underlying f.type with|some (.int k')=>k'==k|_=>false)&&lX P (n+1) fs ks
 |_,_,_=>false
structure JA(P:Program)(K:TypeId)(ks:List IntKind):Prop where
 fields:∃fs:Array Field,P.underlying K=some (.struct fs)∧lX P 0 fs.toList ks=true
 held:P.stoodInHeld K=false
 guard:P.eqGuardType P.depth K=false
theorem JB{X Y:Array Value}(d:Nat)(w:World):∀(fs:List Field) (n:Nat) (ks:List IntKind) (xs ys:List Int),lX P n fs ks=true→xs.length=ks.length→ys.length=ks.length→
    (∀i k a,ks[i]?=some k→xs[i]?=some a→X[n+i]?=some (.int k a))→(∀i k a,ks[i]?=some k→ys[i]?=some a→Y[n+i]?=some (.int k a))→(Op.eqFields (d+1) X Y fs).run P w= .ok (decide (xs=ys)) w
 | [],n,ks,xs,ys,h,hx,hy,_,_=>by
   cases ks with
   | nil=>
     rw[aFp hx,aFp hy]
     simp[Op.eqFields]
   |cons k ks=>simp[lX]at h
 | f ::fs,n,ks,xs,ys,h,hx,hy,h1,h2=>by
   cases ks with
   |nil=>simp[lX]at h
   | cons k ks=>
     obtain⟨a,xs,rfl⟩:∃a l,xs=a::l:=by cases xs with
      |nil=>simp at hx
      |cons a l=>exact⟨a,l,rfl⟩
     obtain⟨b,ys,rfl⟩:∃a l,ys=a::l:=by cases ys with
      |nil=>simp at hy
      |cons a l=>exact⟨a,l,rfl⟩
     simp only[lX,aFd,Bool.not_eq_true',beq_eq_false_iff_ne,beq_iff_eq]at h
     obtain⟨⟨⟨hn,ho⟩,ht⟩,hr⟩:=h
     have hu:P.underlying f.type=some (.int k):=by
      split at ht
      ·rename_i k' hk;rw[hk,eq_of_beq ht]
      ·cases ht
     have e1:X[n]?=some (.int k a):=by simpa using h1 0 k a rfl rfl
     have e2:Y[n]?=some (.int k b):=by simpa using h2 0 k b rfl rfl
     have ih:=JB d w fs (n+1) ks xs ys hr (by simpa using hx) (by simpa using hy)
      (fun i k' c hk hc=>by have:=h1 (i+1) k' c (by simpa using hk) (by simpa using hc);rwa[show n+1+i=n+(i+1) by omega])
      (fun i k' c hk hc=>by have:=h2 (i+1) k' c (by simpa using hk) (by simpa using hc);rwa[show n+1+i=n+(i+1) by omega])
     have p1:(part f.type X f.offset).run P w= .ok (.int k a) w:=by simp[part,isAgg,run_underlying hu,ho,e1]
     have p2:(part f.type Y f.offset).run P w= .ok (.int k b) w:=by simp[part,isAgg,run_underlying hu,ho,e2]
     simp only[Op.eqFields,hn,ne_eq,not_false_eq_true,if_true,Sem.run_bind,p1,p2,Result.andThen_ok,run_equalIn_int _ d f.type k k _ _ hu,Sem.run_ite]
     by_cases e:a=b
     · subst e
       simp[ih]
     ·simp[e]
theorem ZH(ks:List IntKind)(xs:List Int)(i:Nat)(k:IntKind)(a:Int)(h1:ks[i]?=some k)(h2:xs[i]?=some a):(List.zipWith Value.int ks xs).toArray[0+i]?=some (.int k a):=by
 rw[aFl,List.getElem?_toArray,List.getElem?_zipWith,h1,h2]
theorem JA.eq{K:TypeId}{ks:List IntKind}(T:JA P K ks)(d:Nat){xs ys:List Int}(hx:xs.length=ks.length)(hy:ys.length=ks.length)(w:World):
    (Op.equalIn (d+2) K (.agg (List.zipWith Value.int ks xs).toArray) (.agg (List.zipWith Value.int ks ys).toArray)).run P w= .ok (decide (xs=ys)) w:=by
 obtain⟨fs,hu,hb⟩:=T.fields
 have hf:P.fieldsOf K=fs:=by simp[Program.fieldsOf,hu]
 rw[run_equalIn_struct w (d+1) K _ _ (by rw[hf];exact hu) T.held,hf]
 exact JB d w fs.toList 0 ks xs ys hb hx hy (ZH ks xs) (ZH ks ys)
def tie:List Oper→Nat→Nat→List Oper
 |[],_,_=>[]
 |o::l,0,p=>{o with after:=o.after.push ⟨p, .data⟩}::l
 |o::l,m+1,p=>o::tie l m p
theorem oJ:∀(l:List Oper) (m p:Nat),(tie l m p).length=l.length
 |[],_,_=>rfl
 |_::_,0,_=>rfl
 |_::l,m+1,p=>by simp[tie,oJ l m p]
theorem Zf:∀(l:List Oper) (m p i:Nat),(tie l m p)[i]?=(l[i]?).map fun o=>if i=m then{o with after:=o.after.push ⟨p, .data⟩}else o
 |[],_,_,_=>by simp[tie]
 |o::l,0,p,0=>by simp[tie]
 |o::l,0,p,i+1=>by simp[tie]
 |o::l,m+1,p,0=>by simp[tie]
 |o::l,m+1,p,i+1=>by simp[tie,Zf l m p i]
section
variable{P:Program}{l:List Oper}{Q:Act→World→Prop}
theorem dA(m p:Nat)(t:Array Value):yielded (tie l m p).toArray t=yielded l.toArray t:=by
 funext j
 unfold yielded
 have:((tie l m p).toArray[j]?).bind (·.dst)=(l.toArray[j]?).bind (·.dst):=by
  simp only[List.getElem?_toArray,Zf]
  cases l[j]? with
  |none=>rfl
  |some o=>simp only[Option.map_some,Option.bind_some];split<;>rfl
 rw[this]
theorem Zg{m p i:Nat}{a:Act}{w:World}{K:Act→World→Prop}(h:OpI P (tie l m p).toArray i K a w):∃o,l[i]?=some o∧He P l.toArray o a w fun v w'=>K (a.put o.dst v) w':=by
 obtain⟨o,h1,h2⟩:=h
 simp only[List.getElem?_toArray,Zf,aFg]at h1
 obtain⟨o',h3,h4⟩:=h1
 refine⟨o',h3,?_⟩
 have e1:o.dst=o'.dst:=by rw[←h4];split<;>rfl
 have e2:execOp a.eval o=execOp a.eval o':=by rw[←h4];split<;>rfl
 have e3:o.guard=o'.guard:=by rw[←h4];split<;>rfl
 unfold He at*
 have e4:Region.wanted o' (yielded l.toArray a.tmps)=Region.wanted o (yielded (tie l m p).toArray a.tmps):=by rw[dA];unfold Region.wanted;rw[e3]
 rw[e4,←e2,←e1];exact h2
theorem Rh{ops:List Oper}{listed:Array Bool}{i:Nat}:i∈Region.ready .any ops.toArray listed↔listed.getD i true=false∧∃o,ops[i]?=some o∧∀e∈o.after,Region.binds .any e=true→listed.getD e.on false=true:=by
 rw[mem_ready];simp
theorem Gd{m p i:Nat}{listed:Array Bool}:i∈Region.ready .any (tie l m p).toArray listed↔i∈Region.ready .any l.toArray listed∧(i=m→listed.getD p false=true):=by
 rw[Rh,Rh]
 simp only[Zf,aFg]
 constructor
 · rintro⟨h1,o,⟨o',h2,rfl⟩,h3⟩
   by_cases e:i=m
   · rw[aEh e]at h3
     exact⟨⟨h1,o',h2,fun e he hb=>h3 e (Array.mem_push.2 (.inl he)) hb⟩,fun _=>h3 ⟨p, .data⟩ (Array.mem_push.2 (.inr rfl)) rfl⟩
   · rw[aEa e]at h3
     exact⟨⟨h1,o',h2,h3⟩,fun h=>absurd h e⟩
 · rintro⟨⟨h1,o,h2,h3⟩,h4⟩
   refine⟨h1,_,⟨o,h2,rfl⟩,?_⟩
   by_cases e:i=m
   · rw[aEh e]
     intro d hd hb
     rcases Array.mem_push.1 hd with hd|rfl
     ·exact h3 d hd hb
     ·exact h4 e
   ·rw[aEa e];exact h3
theorem gY{listed:Array Bool}{i p:Nat}(h:listed.getD p false=true):(listed.setIfInBounds i true).getD p false=true:=by
 rw[aFx]at*
 rw[Array.getElem?_setIfInBounds]
 by_cases e:i=p
 · rw[aEh e];split
   ·rfl
   ·rename_i hn;rw[←e,Array.getElem?_eq_none om]at h;cases h
 ·rw[aEa e];exact h
theorem gZ{m p:Nat}:∀(fuel:Nat) (listed:Array Bool) (a:Act) (w:World),listed.getD p false=true→Rm P (tie l m p).toArray Q fuel listed a w→Rm P l.toArray Q fuel listed a w
 | 0,listed,a,w,hp,h=>by
   refine⟨aFv.2 fun i hi=>?_,h.2⟩
   have h1:=Gd (m:=m) (p:=p).2 ⟨hi,fun _=>hp⟩
   rw[h.1]at h1;cases h1
 | fuel+1,listed,a,w,hp,h=>by
   refine⟨fun hr=>h.1 (aFv.2 fun i hi=>?_),fun i hi=>?_⟩
   · have h1:=(Gd.1 hi).1
     rw[hr]at h1;cases h1
   · obtain⟨o,h1,h2⟩:=Zg (h.2 i (Gd.2 ⟨hi,fun _=>hp⟩))
     exact⟨o,by simpa using h1,h2.mono fun v w' hv=>gZ fuel _ _ _ (gY hp) hv⟩
theorem Ue{listed:Array Bool}{i:Nat}(h:listed.getD i true=false):(listed.setIfInBounds i true).getD i false=true:=by
 rw[aFx]at*
 rw[Array.getElem?_setIfInBounds,aEh rfl]
 split
 ·rfl
 ·rename_i hn;rw[Array.getElem?_eq_none om]at h;cases h
end
section
variable{P:Program}{l:List Oper}{C:Cx}{ρ:Cb}{Γ:List Ai}
end
section
variable{P:Program}{o:Oper}{ρ:Cb}{Γ:List Ai}{x y:Operand}{C:Cx}{K:Act→World→Prop}{t t':TypeId}{m n:Int}
abbrev W64(n:Int):Int:=IntKind.i64.wrap n
theorem zF(ho:o.op= .binOp .add t x y t')(hx:ev ρ x=some (.int .i64 m))(hy:ev ρ y=some (.int .i64 n)):Rd P o ρ Γ (.int .i64 (W64 (m+n))):=Rd.bin ho hx hy fun w=>by simp[eqGuard,binOp,Op.intArith]
theorem zG(ho:o.op= .binOp .sub t x y t')(hx:ev ρ x=some (.int .i64 m))(hy:ev ρ y=some (.int .i64 n)):Rd P o ρ Γ (.int .i64 (W64 (m-n))):=Rd.bin ho hx hy fun w=>by simp[eqGuard,binOp,Op.intArith]
theorem zI(ho:o.op= .binOp .mul t x y t')(hx:ev ρ x=some (.int .i64 m))(hy:ev ρ y=some (.int .i64 n)):Rd P o ρ Γ (.int .i64 (W64 (m*n))):=Rd.bin ho hx hy fun w=>by simp[eqGuard,binOp,Op.intArith]
theorem zJ(ho:o.op= .binOp .quo t x y t')(hx:ev ρ x=some (.int .i64 m))(hy:ev ρ y=some (.int .i64 n))(h:n≠0):Rd P o ρ Γ (.int .i64 (W64 (m.tdiv n))):=Rd.bin ho hx hy fun w=>by simp[eqGuard,binOp,Op.intDiv,h]
theorem oK(ho:o.op= .binOp .rem t x y t')(hx:ev ρ x=some (.int .i64 m))(hy:ev ρ y=some (.int .i64 n))(h:n≠0):Rd P o ρ Γ (.int .i64 (m.tmod n)):=Rd.bin ho hx hy fun w=>by simp[eqGuard,binOp,Op.intDiv,h]
theorem eO(ho:o.op= .unOp .neg t x)(hx:ev ρ x=some (.int .i64 m)):Rd P o ρ Γ (.int .i64 (W64 (-m))):=fun a w ha _=>by
 unfold execOp;simp[ho,ha.eval hx,Op.unary,Op.intArith]
theorem DV{f:Nat}{fs:Array Field}{fd:Field}{vs:List Value}{v:Value}{d:TypeDesc}(ho:o.op= .field t x f)(ht:P.underlying t=some (.struct fs))(hf:fs[f]?=some fd)(hd:P.underlying fd.type=some d)(hr:d.isRow=false)(hx:ev ρ x=some (.agg vs.toArray))(hv:vs[fd.offset]?=some v):Rd P o ρ Γ v:=fun a w ha _=>by
 unfold execOp
 have h1:(isAgg fd.type).run P w= .ok false w:=by
  cases d<;>simp_all [isAgg,run_underlying hd,TypeDesc.isRow]
 simp[ho,ha.eval hx,Instr.field,run_underlying ht,hf,asAgg,part,h1,hv]
theorem zK{k:IntKind}{z:Operand}{m n l:Int}{t u s:TypeId}(ho:o.op= .call {callee:= .builtin .max,args:=#[x,y,z],argTypes:=#[t,u,s]})(hx:ev ρ x=some (.int k m))(hy:ev ρ y=some (.int k n))(hz:ev ρ z=some (.int k l)):Rd P o ρ Γ (.int k (max (max m n) l)):=fun a w ha _=>by
 unfold execOp
 have e1:(if m<n then n else m)=Max.max m n:=om
 have e2:(if Max.max m n<l then l else Max.max m n)=Max.max (Max.max m n) l:=om
 simp[ho,resolve,invoke,builtin,ha.eval hx,ha.eval hy,ha.eval hz,Builtin.max_,Builtin.max2,e1,e2]
theorem Rd.indexByte{f:FuncId}{ts:Array TypeId}{fn:Func}{s:ByteArray}{c:Int}(ho:o.op= .call {callee:= .value (.func f),args:=#[x,y],argTypes:=ts})(hf:P.funcs[f]?=some fn)(h1:(fn.name== "runtime.NumGoroutine")=false)(h2:fn.body.isNone=true)(h3:Extern.findNext fn=none)(h4:Extern.find fn=some Extern.BytealgIndexByte.indexByte)
    (hx:ev ρ x=some (.string s)) (hy:ev ρ y=some (.int .u8 c)):Rd P o ρ Γ (.int .i64 (Lib.indexByte s.data.toList c.toNat.toUInt8)):=fun a w ha _=>by
 unfold execOp
 simp[ho,resolve,show a.eval (.func f)= .func (.func f) #[] #[]from rfl,ha.eval hx,ha.eval hy,Deferred.ofValue,invoke,run_callFunc_extern hf h1 h2 h3 h4,Lib.run_indexByteString,Result.andThen]
end
section
variable{α:Type}{enc:α→List Value}
def De(enc:α→List Value)(l:List (OA×List α)):Ai where
 owns:=[]
 reads:=l.flatMap fun p=>(ros enc p.1 p.2).reads
 holds w:=∀p∈l,(ros enc p.1 p.2).holds w
 loc w w' h hw p hp:=(ros enc p.1 p.2).loc w w' (fun g hg=>h g (.inr (aEy.2 ⟨p,hp,by simpa[ros,ro]using hg⟩))) (hw p hp)
 lt w hw g hg:=by
  simp only[aEs,false_or]at hg
  obtain⟨p,hp,hg⟩:=aEy.1 hg
  exact(ros enc p.1 p.2).lt w (hw p hp) g (.inr hg)
theorem dB{Γ:List Ai}{l:List (OA×List α)}(i:Nat)(h:Γ[i]?=some (De enc l)){A:OA}{xs:List α}(hp:(A,xs)∈l):∀w,oks Γ w→(ros enc A xs).holds w:=fun _ hw=>hw _ (mog h) _ hp
variable{C:Cx}{ρ:Cb}{Γ:List Ai}{K:Act→World→Prop}
theorem rT{Γ:List Ai}{c:Ai}(i:Nat)(h:Γ[i]?=some c){g:Nat}(hg:g∈c.reads):g∈reads Γ:=mem_reads.2 ⟨c,mog h,hg⟩
theorem rV{l:List (OA×List α)}{A:OA}{xs:List α}(i:Nat)(h:Γ[i]?=some (De enc l))(hp:(A,xs)∈l)(k:To C ρ (ros enc A xs::Γ) K):To C ρ Γ K:=
 Sl (ros enc A xs) rfl (fun _ hg=>rT i h (aEy.2 ⟨(A,xs),hp,hg⟩)) (fun w hw=>hw _ (mog h) _ hp) k
theorem La{l:List (OA×List α)}(l':List (OA×List α))(i:Nat)(h:Γ[i]?=some (De enc l))(hs:∀p∈l',p∈l∨ros enc p.1 p.2∈Γ)(k:To C ρ (De enc l'::Γ) K):To C ρ Γ K:=
 Sl (De enc l') rfl (fun g hg=>by
  obtain⟨p,hp,hg⟩:=aEy.1 hg
  rcases hs p hp with h1|h1
  ·exact rT i h (aEy.2 ⟨p,h1,hg⟩)
  ·exact mem_reads.2 ⟨_,h1,hg⟩) (fun w hw p hp=>by
  rcases hs p hp with h1|h1
  ·exact hw _ (mog h) _ h1
  ·exact hw _ h1) k
theorem dC(k:To C ρ (De enc []::Γ) K):To C ρ Γ K:=Mg (c:=De enc []) rfl rfl (fun w p hp=>by simp at hp) k
theorem eP{e:TypeId}{size:Nat}{A:OA}{cap:Nat}{l:List α}(E:Enc enc size)(n:Nat)(hn:n≤l.length)(k:To C ρ (rows enc e size A cap (l.take n)::Γ) K):To C ρ (rows enc e size A cap l::Γ) K:=by
 refine PQ _ (fun w hs=>?_) k
 have hrow:w.ownsRow 0 e size (.slice A l.length cap) l.length (l.flatMap enc):=hs.each _ (aEd ..)
 have hnew:(rows enc e size A cap (l.take n)).holds w:=by
  show w.ownsRow 0 e size (.slice A (l.take n).length cap) (l.take n).length ((l.take n).flatMap enc)
  have hfl:(l.take n).flatMap enc=(l.flatMap enc).take (n*size):=by
   have hlen:((l.take n).flatMap enc).length=n*size:=by rw[E.flat_len,aEe,Nat.min_eq_left hn]
   conv=>rhs;rw[←aFs n l,aFe,←hlen,List.take_left']
  rw[hfl,aEe,Nat.min_eq_left hn]
  rcases hrow.2 with⟨hv,h0⟩|⟨g,cap',cur,hv,_⟩
  · have hv':=hv
    simp only[Value.slice.injEq]at hv'
    have hl0:l.length=0:=hv'.2.1
    obtain rfl:=aFp hl0
    have:n=0:=by simpa using hn
    subst this
    simpa using hrow
  · simp only[Value.slice.injEq]at hv
    obtain⟨rfl,_,_⟩:=hv
    exact rG hrow n hn
 exact⟨⟨fun c hc=>by
  rcases aEi.1 hc with rfl|hc
  ·exact hnew
  ·exact hs.each c (aEb _ hc),hs.nodup,hs.apart⟩,Ey.refl _ _,fun _ h _=>h,fun _ h _=> .inr h⟩
end
section
variable{P:Program}{o:Oper}{ρ:Cb}{Γ:List Ai}{x y:Operand}{C:Cx}{ops:Array Oper}{Q:Exit→Act→World→Prop}{rest:List Oper}{v:Value}{d:Nat}
variable{α:Type}{enc:α→List Value}{size:Nat}
theorem lY(E:Enc enc size):∀(X:List α) (i:Nat) (y:α),i<X.length→over (X.flatMap enc) (i*size) (enc y)=(X.set i y).flatMap enc
 |[],i,y,h=>by simp at h
 | x::X,0,y,_=>by
   unfold over
   rw[Nat.zero_mul,List.take_zero,aFl,E.len,aFf,List.drop_append,List.drop_of_length_le (by rw[E.len];exact aEu _),E.len]
   simp
 | x::X,i+1,y,h=>by
   have ih:=lY E X i y (by simpa using h)
   unfold over at ih⊢
   have e1:(i+1)*size=size+i*size:=by rw[Nat.add_mul];omega
   rw[E.len]at ih⊢
   rw[List.set_cons_succ,aFf,aFf,e1,←ih]
   rw[List.take_append,List.drop_append,aEm (by rw[E.len];omega),List.drop_of_length_le (by rw[E.len];omega),E.len,show size+i*size-size=i*size by omega,show size+i*size+size-size=i*size+size by omega]
   simp
theorem Ee(E:Enc enc size)(hpos:0<size){e:TypeId}{A:OA}{cap i:Nat}{X:List α}{y:α}(hi:i<X.length):(rows enc e size A cap X).takes (blk A) (ofs A+i*size) (enc y) (rows enc e size A cap (X.set i y)):=by
 have h:=bB (e:=e) (size:=size) (A:=A) (n:=X.length) (cap:=cap) (off:=i*size) (xs:=X.flatMap enc) (us:=enc y) (by
  rw[E.len]
  have:(i+1)*size≤X.length*size:=Nat.mul_le_mul_right _ hi
  rw[Nat.add_mul]at this;omega) (fun h=>by have:=E.len y;rw[h]at this;simp at this;omega) (lY E X i y hi)
 have e1:rows enc e size A cap (X.set i y)=row e size A X.length cap ((X.set i y).flatMap enc):=by simp[rows]
 rw[e1];exact h
def Hr(A:OA)(cap lo size:Nat):OA:=if cap=lo then A else A.map (·.add (lo*size))
theorem Mh{t e:TypeId}{bytes n cap lo:Nat}{zs:List Value}{A:OA}{k:IntKind}(ho:o.op= .slice t x (some y) none none)(ht:Ci P t e size bytes zs)(hx:ev ρ x=some (.slice A n cap))(hy:ev ρ y=some (.int k (lo:Int)))(hl:lo≤n):Rd P o ρ Γ (.slice (Hr A cap lo size) (n-lo) (cap-lo)):=fun a w ha _=>by
 obtain⟨i,z,h1,h2,h3,_⟩:=ht.inf
 unfold execOp
 simp[ho,ha.eval hx,ha.eval hy,Instr.sliceAt,run_underlying ht.und,Instr.slice,Instr.sliceBounds,Instr.sliceBound,asIntOf,hl,sizeOf,typeInfo,h1,h3,Hr]
theorem Eo{t e:TypeId}{bytes n cap hi:Nat}{zs:List Value}{A:OA}{k:IntKind}(ho:o.op= .slice t x none (some y) none)(ht:Ci P t e size bytes zs)(hx:ev ρ x=some (.slice A n cap))(hy:ev ρ y=some (.int k (hi:Int)))(hl:hi≤cap):Rd P o ρ Γ (.slice A hi cap):=fun a w ha _=>by
 obtain⟨i,z,h1,h2,h3,_⟩:=ht.inf
 unfold execOp
 simp[ho,ha.eval hx,ha.eval hy,Instr.sliceAt,run_underlying ht.und,Instr.slice,Instr.sliceBounds,Instr.sliceBound,asIntOf,hl,sizeOf,typeInfo,h1]
 intro _
 cases A<;>simp[Addr.add]
theorem Rd.nilCheck{ad:Addr}(ho:o.op= .nilCheck x)(hx:ev ρ x=some (.pointer (some ad))):Rd P o ρ Γ (.pointer (some ad)):=fun a w ha _=>by
 unfold execOp;simp[ho,ha.eval hx]
theorem Rd.makeFunc{f:FuncId}{xs ys:List Operand}{us vs:List Value}(ho:o.op= .makeFunc (.func f) xs.toArray ys.toArray)(hx:evs ρ xs=some us)(hy:evs ρ ys=some vs):Rd P o ρ Γ (.func (.func f) us.toArray vs.toArray):=fun a w ha _=>by
 unfold execOp;simp[ho,ha.evals hx,ha.evals hy,Instr.makeFunc]
theorem DW{t e:TypeId}(ht:P.underlying t=some (.pointer e))(p:OA)(w:World):(Op.equal t (.pointer p) (.pointer none)).run P w= .ok p.isNone w:=by
 have key:∀d,(Op.equalIn (d+1) t (.pointer p) (.pointer none)).run P w= .ok p.isNone w:=fun d=>by
  cases p<;>simp[Op.equalIn,run_underlying ht]
 exact key 9999
theorem bF{t t' e:TypeId}{p:OA}(ho:o.op= .binOp .eql t x y t')(ht:P.underlying t=some (.pointer e))(hx:ev ρ x=some (.pointer p))(hy:ev ρ y=some (.pointer none)):Rd P o ρ Γ (.bool p.isNone):=Rd.bin ho hx hy fun w=>by
 have h:=DW (P:=P) ht p w
 cases p<;>simp[eqGuard,binOp,h]
theorem PX{b:Nat}{cs:List Value}{t:TypeId}(i:Nat)(h:Γ[i]?=some (box b cs t)):∀w,oks Γ w→(ro (some ⟨b,0,none⟩) cs).holds w:=fun _ hw=> .inr ⟨b,0,rfl,Ip (hw _ (mog h))⟩
end
theorem Zh{C:Cx}{ρ:Cb}{Γ:List Ai}{K:Act→World→Prop}{b:Nat}{cs:List Value}{t:TypeId}(k:To C ρ (ro (some ⟨b,0,none⟩) cs::Γ) K):To C ρ (box b cs t::Γ) K:=
 ZG (Γ:=[box b cs t]) (Γ':=[ro (some ⟨b,0,none⟩) cs]) (fun w hs c hc=>by
  rw[aEr.1 hc]
  exact PX (Γ:=[box b cs t]) 0 rfl w hs.each) rfl (fun g hg=>by
  refine .inl ?_
  cases cs with
  |nil=>simp[reads,ro,Lu]at hg
  |cons x xs=>simpa[reads,owns,ro,Lu,Ny,box]using hg) k
section
variable{C:Cx}{ρ:Cb}{K:Act→World→Prop}
theorem Dj.same{Γ1 Γ2:List Ai}{w:World}(hs:Sep.sat Γ1 w)(h:oks Γ2 w)(h1:owns Γ2=owns Γ1)(h2:∀g∈reads Γ2,g∈reads Γ1):Dj Γ1 Γ2 w w:=
 ⟨⟨h,by rw[h1];exact hs.nodup,fun g hg=>by rw[h1];exact hs.apart g (h2 g hg)⟩,Ey.refl _ _,fun g hg _=>by rw[h1]at hg;exact hg,fun g hg _=> .inr (h2 g hg)⟩
end
def Sn(P:Program)(t:TypeId)(n size:Nat):Prop:=∃e i,P.underlying t=some (.array n e)∧P.info? e=some i∧i.size=size
theorem Sn.of{P:Program}{t e:TypeId}{n size:Nat}(h:P.underlying t=some (.array n e))(h1:(P.info? e).map (·.size)=some size):Sn P t n size:=by
 obtain⟨i,h2,h3⟩:=aFg.1 h1
 exact⟨e,i,h,h2,h3⟩
theorem Ir{P:Program}{o:Oper}{ρ:Cb}{Γ:List Ai}{x y:Operand}{t:TypeId}{n size b off j:Nat}{k:IntKind}(ho:o.op= .indexAddr t x y)(ht:Sn P t n size)(hx:ev ρ x=some (.pointer (some ⟨b,off,none⟩)))(hy:ev ρ y=some (.int k (j:Int)))(hj:j<n):Rd P o ρ Γ (.pointer (some ⟨b,off+j*size,none⟩)):=fun a w ha _=>by
 obtain⟨e,i,h1,h2,h3⟩:=ht
 unfold execOp
 simp[ho,ha.eval hx,ha.eval hy,Instr.indexAt,asIntOf,run_underlying h1,Instr.sureAddr,hj,sizeOf,typeInfo,h2,h3,Addr.add_mid]
section
variable{P:Program}{o:Oper}{ρ:Cb}{Γ:List Ai}{x y:Operand}
theorem Rd.min{k:IntKind}{m n:Int}{t u:TypeId}(ho:o.op= .call {callee:= .builtin .min,args:=#[x,y],argTypes:=#[t,u]})(hx:ev ρ x=some (.int k m))(hy:ev ρ y=some (.int k n)):Rd P o ρ Γ (.int k (min m n)):=fun a w ha _=>by
 unfold execOp
 have e1:(if n<m then n else m)=Min.min m n:=om
 simp[ho,resolve,invoke,builtin,ha.eval hx,ha.eval hy,Builtin.min_,Builtin.min2,e1]
theorem wF{α:Type}{l:List α}{n:Nat}{t u:TypeId}(ho:o.op= .call {callee:= .builtin .min,args:=#[x,y],argTypes:=#[t,u]})(hx:ev ρ x=some (.int .i64 (l.length:Nat)))(hy:ev ρ y=some (.int .i64 (n:Int))):Rd P o ρ Γ (.int .i64 ((l.take n).length:Nat)):=by
 have:=Rd.min (P:=P) (Γ:=Γ) ho hx hy
 rwa[show Min.min ((l.length:Nat):Int) (n:Int)=((l.take n).length:Nat) by rw[aEe];omega]at this
theorem PY{t t':TypeId}{b c:Bool}(ho:o.op= .binOp .eql t x y t')(ht:P.underlying t=some .bool)(hx:ev ρ x=some (.bool b))(hy:ev ρ y=some (.bool c)):Rd P o ρ Γ (.bool (b==c)):=Rd.bin ho hx hy fun w=>by
 have key:∀d,(Op.equalIn (d+1) t (.bool b) (.bool c)).run P w= .ok (b==c) w:=fun d=>by simp[Op.equalIn,run_underlying ht]
 have h:(Op.equal t (.bool b) (.bool c)).run P w= .ok (b==c) w:=key 9999
 simp[eqGuard,binOp,h]
theorem PZ{t t':TypeId}{b c:Bool}(ho:o.op= .binOp .neq t x y t')(ht:P.underlying t=some .bool)(hx:ev ρ x=some (.bool b))(hy:ev ρ y=some (.bool c)):Rd P o ρ Γ (.bool (!(b==c))):=Rd.bin ho hx hy fun w=>by
 have key:∀d,(Op.equalIn (d+1) t (.bool b) (.bool c)).run P w= .ok (b==c) w:=fun d=>by simp[Op.equalIn,run_underlying ht]
 have h:(Op.equal t (.bool b) (.bool c)).run P w= .ok (b==c) w:=key 9999
 simp[eqGuard,binOp,h]
theorem To.take{C:Cx}{K:Act→World→Prop}{α:Type}{enc:α→List Value}{A:OA}{l:List α}(k i:Nat)(hi:Γ[i]?=some (ros enc A l))(h:To C ρ (ros enc A (l.take k)::Γ) K):To C ρ Γ K:=by
 have e1:l.flatMap enc=(l.take k).flatMap enc++(l.drop k).flatMap enc:=by rw[←aFe,aFs]
 refine Sl (ros enc A (l.take k)) rfl (fun g hg=>Tn i hi ?_) (fun w hw=>?_) h
 · have h1:g∈Lu A ((l.take k).flatMap enc):=hg
   show g∈Lu A (l.flatMap enc)
   cases h2:(l.take k).flatMap enc with
   |nil=>rw[h2]at h1;simp[Lu]at h1
   |cons u us=>rw[e1,h2];rw[h2]at h1;exact h1
 · have h1:Src w A (l.flatMap enc):=hw _ (mog hi)
   show Src w A ((l.take k).flatMap enc)
   rcases h1 with h1|⟨g,off,rfl,h1⟩
   ·rw[h1]at e1;exact .inl (List.append_eq_nil_iff.1 e1.symm).1
   · refine .inr ⟨g,off,rfl,fun j v hv=>h1 j v ?_⟩
     rw[e1,aFj (aEc.1 hv).1];exact hv
end
theorem bG{P:Program}{C:Cx}{ρ:Cb}{Γ:List Ai}{Q:Exit→Act→World→Prop}{c:Code}(h:To C ρ Γ (c.wp P (Exit.then (fun _ _=>False) Q))):To C ρ Γ ((Code.loop c).wp P Q):=fun a w ha hp=>wp_loop_once (h a w ha hp)
theorem Rd.max{P:Program}{o:Oper}{ρ:Cb}{Γ:List Ai}{x y:Operand}{k:IntKind}{m n:Int}{t u:TypeId}(ho:o.op= .call {callee:= .builtin .max,args:=#[x,y],argTypes:=#[t,u]})(hx:ev ρ x=some (.int k m))(hy:ev ρ y=some (.int k n)):Rd P o ρ Γ (.int k (max m n)):=fun a w ha _=>by
 unfold execOp
 have e1:(if m<n then n else m)=Max.max m n:=om
 simp[ho,resolve,invoke,builtin,ha.eval hx,ha.eval hy,Builtin.max_,Builtin.max2,e1]
theorem Lp{P:Program}{C:Cx}{ρ:Cb}{Γ Δ E:List Ai}{R:Value→List Ai→Prop}{fn:Func}{ex:Exit}{t b n i u:Nat}{ty ty':TypeId}{cs:List Value}{v:Value}(is:List Nat)(hpl:Te Γ is=some (Δ,E))(hex:ex= .ret∨ex= .normal)(hres:fn.results=#[.cell t ty, .tmp u])(hv:look ρ t=some (pv b))
    (hi:Γ[i]?=some (box b cs ty')) (ht:Eb P ty n) (hl:cs.length=n) (hu:look ρ u=some v) (h:R (.tuple #[.agg cs.toArray,v]) Δ) (hds:C.ds=[]:=by rfl):To C ρ Γ (bodyPost P fn (Fin C R) ex):=fun a w ha hp=>by
 have hr:(results fn a.tmps).run P w= .ok (.tuple #[.agg cs.toArray,v]) w:=by
  obtain⟨d,h1,h2,h3⟩:=ht
  have hw:=hp.sat.each _ (mog hi)
  have:=run_loadVar_mid (P:=P) w b 0 ty cs d (Ip hw) h1 h2 (by rw[hl];exact h3)
  have he:a.tmps[t]?.getD undef=pv b:=by rw[ha.sees t _ hv];rfl
  have he2:a.tmps[u]?.getD undef=v:=by rw[ha.sees u _ hu];rfl
  simp[results,hres,he,he2,asAddr,this]
 have hq:Dj C.Γ0 Δ C.w0 w:=(hp.perm (Hz hpl)).drop
 rcases hex with rfl|rfl
 ·exact⟨ha.defers.trans hds,_,hr,_,Δ,rfl,h,hq⟩
 ·exact⟨ha.defers.trans hds,_,hr,_,Δ,rfl,h,hq⟩
theorem Gt{P:Program}{o:Oper}{ρ:Cb}{Γ:List Ai}{x y:Operand}{α:Type}{enc:α→List Value}{size:Nat}{t e ie:TypeId}{bytes:Nat}{zs:List Value}{A:OA}{cap j i:Nat}{l:List α}{k:IntKind}{el:α}{m:Int}(ho:o.op= .indexAddr t x y)(hx:ev ρ x=some (.slice A l.length cap))(hy:ev ρ y=some (.int k m))(hm:m=(j:Int))(ht:Ci P t e size bytes zs)
    (hi:Γ[i]?=some (rows enc ie size A cap l)) (hj:l[j]?=some el):Rd P o ρ Γ (.pointer (some ⟨blk A,ofs A+j*size,none⟩)):=by
 subst hm;exact Ga ho hx hy ht hi hj
theorem Ow{P:Program}{o:Oper}{ρ:Cb}{Γ:List Ai}{x y:Operand}{α:Type}{enc:α→List Value}{size:Nat}(E:Enc enc size){t e:TypeId}{bytes:Nat}{zs:List Value}{A:OA}{cap j i:Nat}{l:List α}{k:IntKind}{el:α}{m:Int}(ho:o.op= .indexAddr t x y)(hx:ev ρ x=some (.slice A l.length cap))(hy:ev ρ y=some (.int k m))(hm:m=(j:Int))(ht:Ci P t e size bytes zs)
    (hi:Γ[i]?=some (ros enc A l)) (hj:l[j]?=some el):Rd P o ρ Γ (.pointer (some ⟨blk A,ofs A+j*size,none⟩)):=by
 subst hm;exact Yb E ho hx hy ht hi hj
section
variable{P:Program}{o:Oper}{ρ:Cb}{Γ Γ':List Ai}{C:Cx}{ops:Array Oper}{Q:Exit→Act→World→Prop}{rest:List Oper}{v:Value}{d:Nat}{x:Operand}
theorem Jr(h:Rd P o ρ Γ v)(k:To C ((d,v)::ρ) Γ (wpList P ops Q rest))(hg:grd ops ρ o=some true:=by rfl)(hd:o.dst=some d:=by rfl)(hn:Nat.blt d C.n=true:=by rfl):To C ρ Γ (wpList P ops Q (o::rest)):=To.rd hg hd hn h k
theorem Jm(k:To C ((d,v)::ρ) Γ (wpList P ops Q rest))(hg:grd ops ρ o=some true:=by rfl)(hd:o.dst=some d:=by rfl)(hn:Nat.blt d C.n=true:=by rfl)(ho:o.op= .move x:=by rfl)(hx:ev ρ x=some v:=by rfl):To C ρ Γ (wpList P ops Q (o::rest)):=To.rd hg hd hn (Rd.move ho hx) k
theorem Ja(k:To C ((d,v)::ρ) Γ (wpList P ops Q rest))(hg:grd ops ρ o=some true:=by rfl)(hd:o.dst=some d:=by rfl)(hn:Nat.blt d C.n=true:=by rfl)(ho:o.op= .assign x:=by rfl)(hx:ev ρ x=some v:=by rfl):To C ρ Γ (wpList P ops Q (o::rest)):=To.rd hg hd hn (Rd.assign ho hx) k
theorem To.k(k:To C ((d,undef)::ρ) Γ (wpList P ops Q rest))(hg:grd ops ρ o=some false:=by rfl)(hd:o.dst=some d:=by rfl)(hn:Nat.blt d C.n=true:=by rfl):To C ρ Γ (wpList P ops Q (o::rest)):=Jsk hg hd hn k
theorem To.u(h:Up P o ρ Γ Γ')(k:To C ρ Γ' (wpList P ops Q rest))(hg:grd ops ρ o=some true:=by rfl)(hd:o.dst=none:=by rfl):To C ρ Γ (wpList P ops Q (o::rest)):=Jup hg hd h k
theorem Jlo{ty b off t:Nat}{cs:List Value}(i:Nat)(ht:Cn P ty)(k:To C ((d,v)::ρ) Γ (wpList P ops Q rest))(hg:grd ops ρ o=some true:=by rfl)(hd:o.dst=some d:=by rfl)(hn:Nat.blt d C.n=true:=by rfl)(ho:o.op= .load ty x:=by rfl)(hx:ev ρ x=some (.pointer (some ⟨b,off,none⟩)):=by rfl)(hi:Γ[i]?=some (box b cs t):=by rfl)(hu:cs[off]?=some v:=by rfl):To C ρ Γ (wpList P ops Q (o::rest)):=To.rd hg hd hn (Ck ho hx ht hi (bg1 hu)) k
theorem To.f{s f j b off:Nat}(hf:Em P s f j)(k:To C ((d, .pointer (some ⟨b,off+j,none⟩))::ρ) Γ (wpList P ops Q rest))(hg:grd ops ρ o=some true:=by rfl)(hd:o.dst=some d:=by rfl)(hn:Nat.blt d C.n=true:=by rfl)(ho:o.op= .fieldAddr s x f:=by rfl)(hx:ev ρ x=some (.pointer (some ⟨b,off,none⟩)):=by rfl):To C ρ Γ (wpList P ops Q (o::rest)):=To.rd hg hd hn (Rd.field ho hx hf) k
theorem JpF{y z:Operand}(k:To C ((d,v)::ρ) Γ (wpList P ops Q rest))(hg:grd ops ρ o=some true:=by rfl)(hd:o.dst=some d:=by rfl)(hn:Nat.blt d C.n=true:=by rfl)(ho:o.op= .pick x y z:=by rfl)(hx:ev ρ x=some (.bool false):=by rfl)(hz:ev ρ z=some v:=by rfl):To C ρ Γ (wpList P ops Q (o::rest)):=To.rd hg hd hn (gN ho hx hz) k
theorem aIl{y z:Operand}(k:To C ((d,v)::ρ) Γ (wpList P ops Q rest))(hg:grd ops ρ o=some true:=by rfl)(hd:o.dst=some d:=by rfl)(hn:Nat.blt d C.n=true:=by rfl)(ho:o.op= .pick x y z:=by rfl)(hx:ev ρ x=some (.bool true):=by rfl)(hy:ev ρ y=some v:=by rfl):To C ρ Γ (wpList P ops Q (o::rest)):=To.rd hg hd hn (rH ho hx hy) k
theorem To.eq{y:Operand}{t t':TypeId}{k':IntKind}{m n:Int}(k:To C ((d, .bool (decide (m=n)))::ρ) Γ (wpList P ops Q rest))(hg:grd ops ρ o=some true:=by rfl)(hd:o.dst=some d:=by rfl)(hn:Nat.blt d C.n=true:=by rfl)(ho:o.op= .binOp .eql t x y t':=by rfl)(hx:ev ρ x=some (.int k' m):=by rfl)(hy:ev ρ y=some (.int k' n):=by rfl):To C ρ Γ (wpList P ops Q (o::rest)):=To.rd hg hd hn (Rd.eql ho hx hy) k
theorem To.lt{y:Operand}{t t':TypeId}{k':IntKind}{m n:Int}(k:To C ((d, .bool (decide (m<n)))::ρ) Γ (wpList P ops Q rest))(hg:grd ops ρ o=some true:=by rfl)(hd:o.dst=some d:=by rfl)(hn:Nat.blt d C.n=true:=by rfl)(ho:o.op= .binOp .lss t x y t':=by rfl)(hx:ev ρ x=some (.int k' m):=by rfl)(hy:ev ρ y=some (.int k' n):=by rfl):To C ρ Γ (wpList P ops Q (o::rest)):=To.rd hg hd hn (Rd.lss ho hx hy) k
theorem To.le{y:Operand}{t t':TypeId}{k':IntKind}{m n:Int}(k:To C ((d, .bool (decide (m≤n)))::ρ) Γ (wpList P ops Q rest))(hg:grd ops ρ o=some true:=by rfl)(hd:o.dst=some d:=by rfl)(hn:Nat.blt d C.n=true:=by rfl)(ho:o.op= .binOp .leq t x y t':=by rfl)(hx:ev ρ x=some (.int k' m):=by rfl)(hy:ev ρ y=some (.int k' n):=by rfl):To C ρ Γ (wpList P ops Q (o::rest)):=To.rd hg hd hn (Rd.leq ho hx hy) k
theorem Jnc{ad:Addr}(k:To C ((d, .pointer (some ad))::ρ) Γ (wpList P ops Q rest))(hg:grd ops ρ o=some true:=by rfl)(hd:o.dst=some d:=by rfl)(hn:Nat.blt d C.n=true:=by rfl)(ho:o.op= .nilCheck x:=by rfl)(hx:ev ρ x=some (.pointer (some ad)):=by rfl):To C ρ Γ (wpList P ops Q (o::rest)):=To.rd hg hd hn (Rd.nilCheck ho hx) k
theorem Jnt{t:TypeId}{b:Bool}(k:To C ((d, .bool (!b))::ρ) Γ (wpList P ops Q rest))(hg:grd ops ρ o=some true:=by rfl)(hd:o.dst=some d:=by rfl)(hn:Nat.blt d C.n=true:=by rfl)(ho:o.op= .unOp .not t x:=by rfl)(hx:ev ρ x=some (.bool b):=by rfl):To C ρ Γ (wpList P ops Q (o::rest)):=To.rd hg hd hn (Rd.not ho hx) k
end
section
variable{P:Program}{T:Tel}{l:List Oper}{Θ Γ Γ':List Ai}{Q:Act→World→Prop}{ms:List Fe}{C:Cx}{ρ:Cb}{N:Uc}{i d:Nat}{deps:List Nat}{o:Oper}{v:Value}
theorem Fw.f(ho:l[i]?=some o)(h:Rd P o ρ Θ v)(k:Dw P T l Θ Q ms C ((d,v)::ρ) Γ N)(hg:grd l.toArray ρ o=some true:=by rfl)(hd:o.dst=some d:=by rfl)(hn:Nat.blt d C.n=true:=by rfl):Dw P T l Θ Q (⟨i,deps,0⟩::ms) C ρ Γ N:=Sk ho hg hd hn h k
theorem Fw.r(ho:l[i]?=some o)(h:Rd P o ρ (avail N deps++Γ) v)(k:Dw P T l Θ Q ms C ((d,v)::ρ) Γ N)(hg:grd l.toArray ρ o=some true:=by rfl)(hd:o.dst=some d:=by rfl)(hn:Nat.blt d C.n=true:=by rfl):Dw P T l Θ Q (⟨i,deps,1⟩::ms) C ρ Γ N:=Fw.rd ho hg hd hn h k
variable{x:Operand}
theorem Fw.lo{ty b off t:Nat}{cs:List Value}(j:Nat)(ht:Cn P ty)(k:Dw P T l Θ Q ms C ((d,v)::ρ) Γ N)(hl:l[i]?=some o:=by rfl)(hg:grd l.toArray ρ o=some true:=by rfl)(hd:o.dst=some d:=by rfl)(hn:Nat.blt d C.n=true:=by rfl)(ho:o.op= .load ty x:=by rfl)(hx:ev ρ x=some (.pointer (some ⟨b,off,none⟩)):=by rfl)(hi:(avail N deps++Γ)[j]?=some (box b cs t):=by rfl)(hu:cs[off]?=some v:=by rfl):Dw P T l Θ Q (⟨i,deps,1⟩::ms) C ρ Γ N:=Fw.rd hl hg hd hn (Ck ho hx ht hi (bg1 hu)) k
theorem Ep{s f j b off:Nat}(hf:Em P s f j)(k:Dw P T l Θ Q ms C ((d, .pointer (some ⟨b,off+j,none⟩))::ρ) Γ N)(hl:l[i]?=some o:=by rfl)(hg:grd l.toArray ρ o=some true:=by rfl)(hd:o.dst=some d:=by rfl)(hn:Nat.blt d C.n=true:=by rfl)(ho:o.op= .fieldAddr s x f:=by rfl)(hx:ev ρ x=some (.pointer (some ⟨b,off,none⟩)):=by rfl):Dw P T l Θ Q (⟨i,deps,0⟩::ms) C ρ Γ N:=Sk hl hg hd hn (Rd.field ho hx hf) k
theorem Ib(k:Dw P T l Θ Q ms C ((d,v)::ρ) Γ N)(hl:l[i]?=some o:=by rfl)(hg:grd l.toArray ρ o=some true:=by rfl)(hd:o.dst=some d:=by rfl)(hn:Nat.blt d C.n=true:=by rfl)(ho:o.op= .move x:=by rfl)(hx:ev ρ x=some v:=by rfl):Dw P T l Θ Q (⟨i,deps,0⟩::ms) C ρ Γ N:=Sk hl hg hd hn (Rd.move ho hx) k
theorem Fw.nc{ad:Addr}(k:Dw P T l Θ Q ms C ((d, .pointer (some ad))::ρ) Γ N)(hl:l[i]?=some o:=by rfl)(hg:grd l.toArray ρ o=some true:=by rfl)(hd:o.dst=some d:=by rfl)(hn:Nat.blt d C.n=true:=by rfl)(ho:o.op= .nilCheck x:=by rfl)(hx:ev ρ x=some (.pointer (some ad)):=by rfl):Dw P T l Θ Q (⟨i,deps,0⟩::ms) C ρ Γ N:=Sk hl hg hd hn (Rd.nilCheck ho hx) k
end
theorem Ru{C:Cx}{P:Program}{ρ:Cb}{Γ:List Ai}{Q:Exit→Act→World→Prop}{T:Type}{c:Code}{K:Act→World→Prop}(F:T→Cb×List Ai)(p:T→Prop)(h:To C ρ Γ (c.wp P (Exit.then (fun a w=>∃t,p t∧Has C.n C.ds (F t).1 a∧Dj C.Γ0 (F t).2 C.w0 w) Q)))(k:∀t,p t→To C (F t).1 (F t).2 K):To C ρ Γ (c.wp P (Exit.then K Q)):=fun a w ha hp=>
 Code.wp_mono (fun e a w hq=>by
  cases e with
  |normal=>obtain⟨t,h1,h2,h3⟩:=hq;exact k t h1 a w h2 h3
  |exit id=>exact hq
  |goto l=>exact hq
  |ret=>exact hq
  |panic ch=>exact hq
  |outgrown=>exact hq) (h a w ha hp)
section plain
variable{κ β:Type} [DecidableEq κ]
def bH:List (κ×β)→κ→β→List (κ×β)
 |[],x,v=>[(x,v)]
 |(k,u)::r,x,v=>if x=k then(x,v)::r else(k,u)::bH r x v
def Rv:List (κ×β)→κ→Option (Nat×β)
 |[],_=>none
 |(k,v)::r,x=>if x=k then some (0,v)else(Rv r x).map fun p=>(p.1+1,p.2)
end plain
structure Xo(P:Program)(K:TypeId){κ:Type} [DecidableEq κ](ek:κ→Value):Prop where
 same:∀a b w,(Op.equal K (ek a) (ek b)).run P w= .ok (decide (a=b)) w
 now:∀d,P.underlying K=some d→(∀a b,Instr.sameNow d (ek a) (ek b)=none)∨∀a b,Instr.sameNow d (ek a) (ek b)=some (decide (a=b))
 und:∃d,P.underlying K=some d
 check:∀e a w,(Instr.checkKey e 10000 K (ek a)).run P w= .ok () w
 bits:∀a,Instr.sameBits 10000 (ek a) (ek a)=true
def Kb{κ β:Type}(ek:κ→Value)(evl:β→Value)(m:List (κ×β)):List (Value×Value):=m.map fun p=>(ek p.1,evl p.2)
def entries(es:List MapEntry):List (Value×Value):=es.map fun e=>(e.key,e.val)
theorem oL{κ β:Type}{ek:κ→Value}{evl:β→Value}{d:TypeDesc}(x:κ)(hn:∀a b,Instr.sameNow d (ek a) (ek b)=none):∀(es:List MapEntry) (m:List (κ×β)) (i:Nat),entries es=Kb ek evl m→es≠[]→Instr.findNow d (ek x) es i=none
 |[],_,_,_,h=>(h rfl).elim
 |e::es,[],i,h,_=>by simp[entries,Kb]at h
 | e::es,(k,v)::m,i,h,_=>by
   simp only[entries,Kb,aFn,List.cons.injEq,Prod.mk.injEq]at h
   unfold Instr.findNow
   rw[h.1.1,hn x k]
def Zi{κ β:Type}(ek:κ→Value)(evl:β→Value)(b:Nat)(m:List (κ×β)):Ai where
 owns:=[b]
 reads:=[]
 holds w:=∃es clock,w.heap[b]?=some (.map es clock)∧entries es.toList=Kb ek evl m
 loc w w' h hw:=by rw[h b (.inl (by simp))];exact hw
 lt w hw g hg:=by
  obtain⟨es,clock,h,_⟩:=hw
  simp only[aEr,aEs,or_false]at hg
  subst hg
  exact lt_of_block h
section
variable{P:Program}{K:TypeId}{κ β:Type} [DecidableEq κ]{ek:κ→Value}{evl:β→Value}
theorem Vl(hK:Xo P K ek)(x:κ)(w:World):∀(es:List MapEntry) (m:List (κ×β)) (i:Nat),entries es=Kb ek evl m→(Instr.findAsking K (ek x) es i).run P w= .ok ((Rv m x).map fun p=>(p.1+i,evl p.2)) w
 |[],[],i,_=>by simp[Instr.findAsking,Rv]
 |[],_::_,i,h=>by simp[entries,Kb]at h
 |_::_,[],i,h=>by simp[entries,Kb]at h
 | e ::es,(k,v)::m,i,h=>by
   simp only[entries,Kb,aFn,List.cons.injEq,Prod.mk.injEq]at h
   obtain⟨⟨h1,h2⟩,h3⟩:=h
   have ih:=Vl hK x w es m (i+1) h3
   unfold Instr.findAsking
   rw[Sem.run_bind,h1,hK.same x k w]
   by_cases hx:x=k
   ·simp[Rv,hx,h2]
   · simp only[Result.andThen_ok,aEo hx,Bool.false_eq_true,if_false,ih,Rv,aEa hx,Option.map_map]
     congr 2
     funext p
     simp only[Function.comp_def]
     congr 1;omega
theorem Zj{d:TypeDesc}(x:κ)(hn:∀a b,Instr.sameNow d (ek a) (ek b)=some (decide (a=b))):∀(es:List MapEntry) (m:List (κ×β)) (i:Nat),entries es=Kb ek evl m→Instr.findNow d (ek x) es i=some ((Rv m x).map fun p=>(p.1+i,evl p.2))
 |[],[],_,_=>by simp[Instr.findNow,Rv]
 |[],_::_,_,h=>by simp[entries,Kb]at h
 |_::_,[],_,h=>by simp[entries,Kb]at h
 | e ::es,(k,v)::m,i,h=>by
   simp only[entries,Kb,aFn,List.cons.injEq,Prod.mk.injEq]at h
   obtain⟨⟨h1,h2⟩,h3⟩:=h
   have ih:=Zj x hn es m (i+1) h3
   unfold Instr.findNow
   rw[h1,hn x k]
   by_cases hx:x=k
   ·simp[Rv,hx,h2]
   · simp only[aEo hx,ih,Rv,aEa hx,Option.map_map]
     congr 2
     funext p
     simp only[Function.comp_def]
     congr 1;omega
theorem run_findKey(hK:Xo P K ek)(x:κ)(w:World)(es:List MapEntry)(m:List (κ×β))(h:entries es=Kb ek evl m):(Instr.findKey K (ek x) es).run P w= .ok ((Rv m x).map fun p=>(p.1,evl p.2)) w:=by
 obtain⟨d,hd⟩:=hK.und
 unfold Instr.findKey
 rw[Sem.run_bind,run_underlying hd]
 simp only[Result.andThen_ok]
 rcases hK.now d hd with hn|hn
 · cases es with
   | nil=>
     cases m with
     |nil=>simp[Instr.findNow,Rv]
     |cons p m=>simp[entries,Kb]at h
   | cons e es=>
     rw[oL x hn (e::es) m 0 h (by simp)]
     have:=Vl hK x w (e::es) m 0 h
     simpa using this
 · rw[Zj x hn es m 0 h]
   simp
variable{o:Oper}{ρ:Cb}{Γ:List Ai}{x y z:Operand}{t E:TypeId}{b i:Nat}{m:List (κ×β)}{k:κ}
theorem lK{κ β:Type}(ek:κ→Value)(evl:β→Value)(ho:o.op= .makeMap t none):Mk P o ρ Γ (fun v N=>∃r,v= .map (some r)∧N=[Zi ek evl r []]):=fun a w _ _=>by
 refine⟨_,_,w.alloc (.map #[] 0),?_,⟨w.heap.size,rfl,rfl⟩,Dj.new ⟨#[],0,heap_alloc_new _ _,rfl⟩ rfl rfl⟩
 unfold execOp
 simp[ho,Instr.makeMap]
theorem Zk(x:κ)(v:β):∀(es:List MapEntry) (m:List (κ×β)),entries es=Kb ek evl m→(∀c,Rv m x=none→entries (es++[{key:=ek x,val:=evl v,born:=c}])=Kb ek evl (bH m x v))∧∀j u,Rv m x=some (j,u)→entries (es.modify j fun e=>{e with key:=ek x,val:=evl v})=Kb ek evl (bH m x v)
 |[],[],_=>⟨fun _ _=>rfl,fun _ _ h=>by simp[Rv]at h⟩
 |[],_::_,h=>by simp[entries,Kb]at h
 |_::_,[],h=>by simp[entries,Kb]at h
 | e ::es,(k,u)::m,h=>by
   simp only[entries,Kb,aFn,List.cons.injEq,Prod.mk.injEq]at h
   obtain⟨⟨h1,h2⟩,h3⟩:=h
   obtain⟨ih1,ih2⟩:=Zk x v es m h3
   by_cases hx:x=k
   · refine⟨fun c hn=>by simp[Rv,hx]at hn,fun j u' hj=>?_⟩
     simp only[Rv,aEh hx,Option.some.injEq,Prod.mk.injEq]at hj
     obtain⟨rfl,_⟩:=hj
     simp only[bH,aEh hx,List.modify_zero_cons,entries,Kb,aFn]
     exact congrArg _ h3
   · refine⟨fun c hn=>?_,fun j u' hj=>?_⟩
     · simp only[Rv,aEa hx,Option.map_eq_none_iff]at hn
       have:=ih1 c hn
       simp only[entries,Kb,bH,aEa hx,aGp,aFn,h1,h2]at this⊢
       rw[this]
     · simp only[Rv,aEa hx]at hj
       obtain⟨⟨j',u''⟩,hj',he⟩:=aFg.1 hj
       simp only[Prod.mk.injEq]at he
       obtain⟨rfl,rfl⟩:=he
       have:=ih2 j' u'' hj'
       simp only[entries,Kb,bH,aEa hx,List.modify_succ_cons,aFn,h1,h2]at this⊢
       rw[this]
theorem rW(x:κ):∀(es:List MapEntry) (m:List (κ×β)) (j:Nat) (u:β),entries es=Kb ek evl m→Rv m x=some (j,u)→(es[j]?).map (·.key)=some (ek x)
 |[],[],_,_,_,h=>by simp[Rv]at h
 |[],_::_,_,_,h,_=>by simp[entries,Kb]at h
 |_::_,[],_,_,h,_=>by simp[entries,Kb]at h
 | e ::es,(k,v)::m,j,u,h,hj=>by
   simp only[entries,Kb,aFn,List.cons.injEq,Prod.mk.injEq]at h
   obtain⟨⟨h1,h2⟩,h3⟩:=h
   by_cases hx:x=k
   · simp only[Rv,aEh hx,Option.some.injEq,Prod.mk.injEq]at hj
     obtain⟨rfl,_⟩:=hj
     simp[h1,hx]
   · simp only[Rv,aEa hx]at hj
     obtain⟨⟨j',u''⟩,hj',he⟩:=aFg.1 hj
     simp only[Prod.mk.injEq]at he
     obtain⟨rfl,rfl⟩:=he
     simpa using rW x es m j' u'' h3 hj'
theorem Up.mapUpdate(hK:Xo P K ek){v:β}(ho:o.op= .mapUpdate t x y z)(ht:P.underlying t=some (.map K E))(hx:ev ρ x=some (.map (some b)))(hy:ev ρ y=some (ek k))(hz:ev ρ z=some (evl v))(hi:Γ[i]?=some (Zi ek evl b m)):Up P o ρ Γ (Γ.set i (Zi ek evl b (bH m k v))):=fun a w ha hs=>by
 obtain⟨es,clock,h1,h2⟩:=hs.each _ (mog hi)
 have hf:=run_findKey (evl:=evl) hK k w es.toList m h2
 obtain⟨g1,g2⟩:=Zk (ek:=ek) (evl:=evl) k v es.toList m h2
 have hlt:=lt_of_block h1
 have key:∃es' clock',(Instr.mapUpdate t (.map (some b)) (ek k) (evl v)).run P w= .ok () {w with heap:=w.heap.setIfInBounds b (.map es' clock')}∧entries es'.toList=Kb ek evl (bH m k v):=by
  cases hj:Rv m k with
  | none=>
    refine⟨es.push {key:=ek k,val:=evl v,born:=clock},clock+1,?_,by rw[Array.toList_push];exact g1 clock hj⟩
    simp[Instr.mapUpdate,run_underlying ht,getObj,setObj,Sem.run,h1,hK.check,hf,hj]
  | some p=>
    obtain⟨j,u⟩:=p
    have hk:=rW (ek:=ek) (evl:=evl) k es.toList m j u h2 hj
    have hk':((es[j]?).map (·.key)).getD (ek k)=ek k:=by
     rw[Array.getElem?_toList]at hk;rw[hk];rfl
    refine⟨es.modify j fun e=>{e with key:=ek k,val:=evl v},clock,?_,by rw[Array.toList_modify];exact g2 j u hj⟩
    simp[Instr.mapUpdate,run_underlying ht,getObj,setObj,Sem.run,h1,hK.check,hf,hj,hk',Instr.keyThatStays,hK.bits]
 obtain⟨es',clock',hrun,h3⟩:=key
 have hpost:Dj [Zi ek evl b m] [Zi ek evl b (bH m k v)] w {w with heap:=w.heap.setIfInBounds b (.map es' clock')}:=by
  refine⟨⟨fun c hc=>?_,by simp[owns,Zi],by simp[reads,Zi]⟩,?_,?_,by simp[reads,Zi]⟩
  · rw[aEr.1 hc]
    exact⟨es',clock',by simp[hlt],h3⟩
  · refine⟨rfl,rfl,rfl,by simp,fun g _ hg=>?_,aEu _⟩
    have:b≠g:=fun e=>hg (by simp[owns,Zi,e])
    simp[this]
  · intro g hg _
    simpa[owns,Zi]using hg
 refine⟨_,?_,Dj.set hi hs hpost⟩
 unfold execOp
 simp only[ho,ha.eval hx,ha.eval hy,ha.eval hz,Sem.run_bind,hrun,Result.andThen_ok,Sem.run_pure]
end
variable{P:Program}{o:Oper}{ρ:Cb}{Γ:List Ai}{x y:Operand}
theorem Xo.int{K:TypeId}{k:IntKind}(h:P.underlying K=some (.int k)):Xo P K (fun n:Int=> .int k n) where
 same a b w:=by
  show(Op.equalIn (9999+1) K (.int k a) (.int k b)).run P w=_
  rw[run_equalIn_int w 9999 K k k a b h];rfl
 now d hd:=by
  rw[h]at hd
  obtain rfl:=aEn hd
  exact .inr fun a b=>by simp only[Instr.sameNow,if_true];rfl
 und:=⟨_,h⟩
 check e a w:=by
  show(Instr.checkKey e (9999+1) K (.int k a)).run P w=_
  unfold Instr.checkKey
  simp[run_underlying h]
 bits a:=by show Instr.sameBits 10000 (.int k a) (.int k a)=true;simp[Instr.sameBits]
def mk3(m:Int×Int×Int):Value:= .agg #[.int .i64 m.1, .int .i64 m.2.1, .int .i64 m.2.2]
theorem Mv{e:TypeId}(he:P.underlying e=some (.int .i64)){xs:Array Value}{off:Nat}{v:Value}(hx:xs[off]?=some v)(w:World):(part e xs off).run P w= .ok v w:=by
 simp[part,isAgg,run_underlying he,hx]
structure Three(P:Program)(K:TypeId):Prop where
 fields:∃e f g h,P.underlying K=some (.struct #[f,g,h])∧P.underlying e=some (.int .i64)∧(f.name≠ "_" ∧f.type=e∧f.offset=0)∧(g.name≠ "_" ∧g.type=e∧g.offset=1)∧(h.name≠ "_" ∧h.type=e∧h.offset=2)
 held:P.stoodInHeld K=false
 guard:P.eqGuardType P.depth K=false
theorem Three.eq{K:TypeId}(T:Three P K)(d:Nat)(a b:Int×Int×Int)(w:World):(Op.equalIn (d+2) K (mk3 a) (mk3 b)).run P w= .ok (decide (a=b)) w:=by
 obtain⟨e,f,g,h,hu,he,⟨f1,f2,f3⟩,⟨g1,g2,g3⟩,⟨h1,h2,h3⟩⟩:=T.fields
 obtain⟨a1,a2,a3⟩:=a
 obtain⟨b1,b2,b3⟩:=b
 have hf:P.fieldsOf K=#[f,g,h]:=by simp[Program.fieldsOf,hu]
 unfold mk3
 rw[run_equalIn_struct w (d+1) K _ _ (by rw[hf];exact hu) T.held,hf]
 simp only[Op.eqFields,f1,g1,h1,f2,g2,h2,f3,g3,h3,ne_eq,not_false_eq_true,if_true,Sem.run_bind]
 simp only[Mv he (xs:=#[Value.int .i64 a1, .int .i64 a2, .int .i64 a3]) (off:=0) (v:= .int .i64 a1) rfl,Mv he (xs:=#[Value.int .i64 a1, .int .i64 a2, .int .i64 a3]) (off:=1) (v:= .int .i64 a2) rfl,Mv he (xs:=#[Value.int .i64 a1, .int .i64 a2, .int .i64 a3]) (off:=2) (v:= .int .i64 a3) rfl,
  Mv he (xs:=#[Value.int .i64 b1, .int .i64 b2, .int .i64 b3]) (off:=0) (v:= .int .i64 b1) rfl,Mv he (xs:=#[Value.int .i64 b1, .int .i64 b2, .int .i64 b3]) (off:=1) (v:= .int .i64 b2) rfl,Mv he (xs:=#[Value.int .i64 b1, .int .i64 b2, .int .i64 b3]) (off:=2) (v:= .int .i64 b3) rfl,
  Result.andThen_ok,run_equalIn_int _ d e .i64 .i64 _ _ he,Sem.run_ite,Sem.run_bind,Sem.run_pure]
 by_cases e1:a1=b1<;>by_cases e2:a2=b2<;>by_cases e3:a3=b3<;>simp[e1,e2,e3]
theorem UO{K:TypeId}(T:Three P K):Xo P K mk3 where
 same a b w:=T.eq 9998 a b w
 now d hd:=by
  obtain⟨e,f,g,h,hu,_⟩:=T.fields
  rw[hu]at hd
  obtain rfl:=aEn hd
  exact .inl fun a b=>rfl
 und:=by
  obtain⟨e,f,g,h,hu,_⟩:=T.fields
  exact⟨_,hu⟩
 check em a w:=by
  obtain⟨e,f,g,h,hu,he,⟨f1,f2,f3⟩,⟨g1,g2,g3⟩,⟨h1,h2,h3⟩⟩:=T.fields
  have key:∀n:Int,(Instr.checkKey em (9998+1) e (.int .i64 n)).run P w= .ok () w:=fun n=>by
   unfold Instr.checkKey
   simp[run_underlying he]
  show(Instr.checkKey em (9999+1) K (mk3 a)).run P w=_
  unfold mk3 Instr.checkKey
  simp only[Sem.run_bind,run_underlying hu,Result.andThen_ok]
  rw[←Array.forIn_toList]
  simp[f1,g1,h1,f2,g2,h2,f3,g3,h3,Mv he (xs:=#[Value.int .i64 a.1, .int .i64 a.2.1, .int .i64 a.2.2]) (off:=0) (v:= .int .i64 a.1) rfl,Mv he (xs:=#[Value.int .i64 a.1, .int .i64 a.2.1, .int .i64 a.2.2]) (off:=1) (v:= .int .i64 a.2.1) rfl,Mv he (xs:=#[Value.int .i64 a.1, .int .i64 a.2.1, .int .i64 a.2.2]) (off:=2) (v:= .int .i64 a.2.2) rfl,key]
 bits a:=by unfold mk3;simp[Instr.sameBits]
theorem Cr{v v':Value}(e:v=v')(h:Rd P o ρ Γ v):Rd P o ρ Γ v':=e▸h
section
variable{P:Program}{o:Oper}{ρ:Cb}{Γ:List Ai}{x y:Operand}{a b:Nat}{t t':TypeId}
theorem Ke{k:IntKind}(ho:o.op= .binOp .rem t x y t')(hx:ev ρ x=some (.int k (a:Int)))(hy:ev ρ y=some (.int k (b:Int)))(hb:0<b):Rd P o ρ Γ (.int k ((a%b:Nat):Int)):=by
 have:=Rd.rem (P:=P) (Γ:=Γ) ho hx hy om om
 rwa[←Int.natCast_emod]at this
theorem Ns(ho:o.op= .binOp .add t x y t')(hx:ev ρ x=some (.int .i64 (a:Int)))(hy:ev ρ y=some (.int .i64 (b:Int)))(h:a+b<9223372036854775808):Rd P o ρ Γ (nv (a+b)):=by
 have:=Hl (P:=P) (Γ:=Γ) ho hx hy om
 rwa[←Int.natCast_add]at this
theorem JC{n:Nat}(h:n<18446744073709551616):IntKind.u64.wrap (n:Int)=n:=by simp[IntKind.wrap,IntKind.bits,IntKind.signed];omega
theorem dD{α:Type}{enc:α→List Value}{z:α}{e:TypeId}{bytes n:Nat}{kl kc:IntKind}(hz:(enc z).length=1)(ho:o.op= .makeSlice t x y)(ht:Ci P t e 1 bytes (enc z))(hx:ev ρ x=some (.int kl (n:Int)))(hy:ev ρ y=some (.int kc (n:Int)))(hb:bytes*n≤281474976710656)(hc:n≤maxLen):
    Mk P o ρ Γ (fun v N=>∃b,v= .slice (some ⟨b,0,none⟩) (List.replicate n z).length n∧N=[rows enc e 1 (some ⟨b,0,none⟩) n (List.replicate n z)]):=by
 have h:=rO (P:=P) (Γ:=Γ) ho ht hx hy hb hc
 intro a w ha hs
 obtain⟨v,N,w',h1,⟨b,h2,h3⟩,h4⟩:=h a w ha hs
 refine⟨v,N,w',h1,⟨b,by rw[h2,aFu],?_⟩,h4⟩
 rw[h3,gP _ n hz]
 unfold rows
 rw[aFu]
 rw[List.flatMap_def,List.map_replicate]
end
def all(cs:List Ai):Ai where
 owns:=owns cs
 reads:=reads cs
 holds w:=sat cs w
 loc w w' h hw:=⟨fun c hc=>c.loc w w' (fun g hg=>h g (hg.imp (fun x=>Vh.2 ⟨c,hc,x⟩) (fun x=>mem_reads.2 ⟨c,hc,x⟩))) (hw.each c hc),hw.nodup,hw.apart⟩
 lt _ hw _ hg:=hg.elim (fun h=>hw.lt_own h) (fun h=>hw.lt_read h)
theorem Tq(cs Γ:List Ai):owns (all cs::Γ)=owns (cs++Γ):=by rw[Dt];rfl
theorem Wq(cs Γ:List Ai):reads (all cs::Γ)=reads (cs++Γ):=by rw[Ew];rfl
theorem Sr{cs Γ:List Ai}{w:World}:sat (all cs::Γ) w↔sat (cs++Γ) w:=by
 constructor
 · intro h
   refine⟨fun c hc=>?_,by rw[←Tq];exact h.nodup,by rw[←Tq,←Wq];exact h.apart⟩
   rcases aFi.1 hc with h1|h1
   ·exact(h.each (all cs) (aEd ..)).each c h1
   ·exact h.each c (aEb _ h1)
 · intro h
   refine⟨fun c hc=>?_,by rw[Tq];exact h.nodup,by rw[Tq,Wq];exact h.apart⟩
   rcases aEi.1 hc with rfl|h1
   ·exact h.left
   ·exact h.each c (aGf _ h1)
section
variable{C:Cx}{ρ:Cb}{Γ:List Ai}{K:Act→World→Prop}{cs:List Ai}{c:Ai}
theorem wG(k:To C ρ (cs++Γ) K):To C ρ (all cs::Γ) K:=fun a w ha hq=>
 k a w ha ⟨Sr.1 hq.sat,hq.keeps,fun g hg=>hq.own g (by rw[Tq];exact hg),fun g hg=>hq.rd g (by rw[Wq];exact hg)⟩
theorem wH(k:To C ρ (all cs::Γ) K):To C ρ (cs++Γ) K:=fun a w ha hq=>
 k a w ha ⟨Sr.2 hq.sat,hq.keeps,fun g hg=>hq.own g (by rw[←Tq];exact hg),fun g hg=>hq.rd g (by rw[←Wq];exact hg)⟩
theorem Ko(k:To C ρ (all []::Γ) K):To C ρ Γ K:=Mg rfl rfl (fun w=>sat.nil w) k
end
theorem zL{Γ cs:List Ai}(i:Nat)(h:Γ[i]?=some (all cs)){c:Ai}(hc:c∈cs):∀w,oks Γ w→c.holds w:=fun _ hw=>sat.each (hw _ (mog h)) c hc
end Go.Sep
