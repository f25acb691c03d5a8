/- Own text. -/
import Derived.Test.YtlihklladkagpaaGreatDoorXb
set_option linter.unusedVariables false
set_option linter.unusedSimpArgs false
set_option maxHeartbeats 2000000
set_option maxRecDepth 100000
namespace Go.Proofs.YtlihklladkagpaaGreatDoor
open Go.Proofs.Tryz
open Go.RowKit Go.Flow Go.Mem Go.Sep
theorem aAw:QA prog 92:=by
 obtain⟨i,hi⟩:∃i,prog.info? 2=some i:=Option.isSome_iff_exists.1 (by kernel_rfl)
 exact⟨⟨2,i,underlying92,underlying2,hi,by kernel_rfl⟩,by kernel_rfl⟩
theorem wU{α:Type}{l m:List α}{i:Nat}(h1:l.length=m.length)(h2:l.length≤i)(h:l.take i=m.take i):l=m:=by
 rwa[aEm h2,aEm om]at h
theorem aAx{α:Type}{l m:List α}{i:Nat}{x y:α}(hx:l[i]?=some x)(hy:m[i]?=some y)(h:x≠y):l≠m:=fun e=>h (by rw[e,hy]at hx;exact(aEn hx).symm)
theorem dG(A B:OA)(ca cb:Nat)(l m:List Int)(hl:l.length≤1000000000000):
    Dz 38 [vs A l ca,vs B m cb] [ros aLz A l,ros aLz B m] (fun v _=>v= .bool (decide (l=m))):=by
 refine Am func38 ntmps38 fun w0=>?_
 refine Jz 15 ?_
 refine Jcp rfl ?_ ?_<;>intro c10
 refine Jz 7 ?_
 refine Je1 results38 ?_
 exact congrArg Value.bool (aEo (fun e=>c10 (by rw[e]))).symm
 refine Jz 11 ?_
 refine Ce [0,0] rfl (Ie (fun mz ρ Γ=>∃(i:Nat),ρ=[(0,vs A l ca),(1,vs B m cb),(11,vs A l ca),(12,nv l.length),(13,nv i)]∧Γ=[ros aLz A l,ros aLz B m]∧mz=l.length-i∧(i≤l.length)∧(l.take i=m.take i)) (l.length-0) ⟨⟨0,rfl,rfl,rfl,om,rfl⟩,sb⟩ ?_)
 rintro mz _ _ ⟨i,rfl,rfl,rfl,hi,hI⟩
 refine Jz 6 ?_
 refine Jcp rfl ?_ ?_<;>intro c14
 obtain⟨x,hx⟩:=exg l i om
 obtain⟨y,hy⟩:=exg m i om
 refine Jz 11 ?_
 refine Jfw [ros aLz A l,ros aLz B m] [0,1,4,5,102,103,106,107,8] (ocs (oca 0 rfl) (ocs (oca 1 rfl) (ocn _))) ?_
 refine Jz 11 ?_
 refine Jcp rfl ?_ ?_<;>intro c24
 refine Jz 11 ?_
 refine Je1 results38 ?_
 exact congrArg Value.bool (aEo (aAx hx hy c24)).symm
 refine Jz 8 ?_
 refine Ce [0,0] rfl (Hu ⟨⟨i+1,rfl,rfl,rfl,om,(by rw[Cf hx,Cf hy,hI,show x=y from Decidable.of_not_not c24])⟩,sb⟩)
 refine Jz 11 ?_
 refine Je1 results38 ?_
 exact congrArg Value.bool (aEk (wU om om hI)).symm
structure Sx where
 Av:OA
 qv:Nat
 vars:List Int
 At:OA
 qt:Nat
 tabs:List Tb
 dk:Tb
def Sx.cells(s:Sx):List Value:=[vs s.Av s.vars s.qv,vs s.At s.tabs s.qt,vs s.dk.A s.dk.l s.dk.q]
def aAy(s:Sx):Prop:=s.vars.length≤1000000000000∧s.tabs.length≤1000000000000∧(∀x∈s.tabs,x.l.length≤1000000000000)∧s.dk.l.length≤1000000000000
def Sx.val(s:Sx):List Int×List (List (Int×Int))×List (Int×Int):=(s.vars,s.tabs.map Tb.l,s.dk.l)
theorem iQ(A:OA)(q n:Nat)(l:List (Int×Int))(hq:l.length≤q):
    Dz 29 [vs A l q,nv n] [] (fun v _=>v= .slice A (l.take n).length q):=by
 refine Am func29 ntmps29 fun w0=>?_
 refine Jz 6 ?_
 have hln:(l.take n).length≤q:=by rw[aEe];omega
 refine Jz 5 ?_
 refine Jr (wF (l:=l) (n:=n) rfl rfl rfl) ?_
 refine Jr (Eo (hi:=((l.take n).length)) rfl s29 rfl rfl om) ?_
 refine Jz 4 ?_
 refine Je1 results29 ?_
 rfl
def pin(k v:Int):Bool→List (Int×Int)→List (Int×Int)
 |d,[]=>if d=true then []else [(k,v)]
 |d,y::r=>if d=false∧k<y.1 then(k,v)::y::pin k v true r else y::pin k v d r
theorem wV{k v:Int}{d:Bool}{O:List (Int×Int)}{j:Nat}{y:Int×Int}(hy:O[j]?=some y):pin k v d (O.drop j)=if d=false∧k<y.1 then(k,v)::y::pin k v true (O.drop (j+1))else y::pin k v d (O.drop (j+1)):=by rw[dog hy];rfl
def Oi(t:List (Int×Int))(k v:Int):List (Int×Int):=pin k v false (Im t k)
def Sg(l:List (Int×Int)):List (Int×Int):=l.foldl (fun t e=>Oi t e.1 e.2) []
theorem iR(k v:Int):∀O:List (Int×Int),pin k v true O=O
 |[]=>rfl
 |y::r=>by rw[pin,aEa (fun e=>by cases e.1),iR k v r]
theorem zY(k v:Int):∀O:List (Int×Int),(pin k v false O).length=O.length+1
 |[]=>rfl
 | y::r=>by
   rw[pin];split
   ·simp[iR]
   ·simp[zY k v r]
theorem Zw(t:List (Int×Int))(k:Int):(Im t k).length≤t.length:=List.length_filter_le _ _
theorem KF(t:List (Int×Int))(k v:Int):(Oi t k v).length≤t.length+1:=by rw[Oi,zY];have:=Zw t k;omega
theorem zZ(l:List (Int×Int)):(Sg l).length≤l.length:=by
 suffices ∀(l t:List (Int×Int)),(l.foldl (fun t e=>Oi t e.1 e.2) t).length≤l.length+t.length from this l []
 intro l
 induction l with
 |nil=>intro t;simp
 |cons x l ih=>intro t;have h1:=ih (Oi t x.1 x.2);have h2:=KF t x.1 x.2;rw[aGe,lc1];omega
theorem KG{l:List (Int×Int)}{i:Nat}{x:Int×Int}(hx:l[i]?=some x):Sg (l.take (i+1))=Oi (Sg (l.take i)) x.1 x.2:=by rw[Cf hx];simp[Sg]
theorem mG{l:List (Int×Int)}{i:Nat}{x:Int×Int}{k:Int}(hx:l[i]?=some x):Im (l.take (i+1)) k=Im (l.take i) k++(if x.1≠k then [x]else []):=by
 rw[Cf hx,Im,List.filter_append]
 unfold Im
 by_cases h:x.1=k<;>simp[h]
theorem pG(A:OA)(ca:Nat)(l:List (Int×Int))(k:Int)(hl:l.length≤1000):
    Dz 69 [vs A l ca,iv k] [ros Be A l] (fun r Γ'=>∃B q,r= .slice B (Im l k).length q∧Γ'=[rows Be 92 2 B q (Im l k)]):=by
 refine Am func69 ntmps69 fun w0=>?_
 refine Jz 6 ?_
 refine Cz (Be) 92 2 (Jz 13 ?_)
 refine Ce [1,0] rfl (Ie (fun mz ρ Γ=>∃(Ao:OA) (qo:Nat) (O:List (Int×Int)) (i:Nat),ρ=[(1,iv k),(5,vs Ao O qo),(8,vs A l ca),(9,nv l.length),(10,nv i)]∧Γ=[ros Be A l,rows Be 92 2 Ao qo O]∧mz=l.length-i∧(i≤l.length)∧(O=Im (l.take i) k)) (l.length-0) ⟨⟨none,0,([]:List (Int×Int)),0,rfl,rfl,rfl,om,rfl⟩,sb⟩ ?_)
 rintro mz _ _ ⟨Ao,qo,O,i,rfl,rfl,rfl,hi,hO⟩
 have hOl:O.length≤l.length:=by rw[hO];exact aGd (Zw _ _) (by rw[aEe];omega)
 refine Jz 6 ?_
 refine Jcp rfl ?_ ?_<;>intro c11
 obtain⟨x,hx⟩:=exg l i om
 refine Jz 8 ?_
 refine Jal fun b7=>?_
 refine Jz 5 ?_
 refine Jr (Ir (j:=0) rfl (Sn.of (size:=1) underlying92 (by kernel_rfl)) rfl rfl (by decide)) ?_
 refine Jz 5 ?_
 refine Jcp rfl ?_ ?_<;>intro c17
 refine Jz 3 ?_
 refine Eg [iv x.1,iv x.2] fun b20=>?_
 refine Jge rfl rfl rfl (Bg Eu (i:=3) (j:=0) (el:=x) rfl s58 rfl rfl rfl rfl rfl om om) ?_
 rintro _ _ ⟨A21,q21,rfl,rfl⟩
 refine Jz 9 ?_
 refine Ce [2,2] rfl (Hu ⟨⟨A21,q21,(O++[x]),i+1,rfl,rfl,rfl,om,(by rw[mG hx,←hO,aEh c17])⟩,sb⟩)
 refine Jz 8 ?_
 refine Ce [1,1] rfl (Hu ⟨⟨Ao,qo,O,i+1,rfl,rfl,rfl,om,(by rw[mG hx,←hO,aEa c17];simp)⟩,sb⟩)
 refine Jz 12 ?_
 refine Ce [1] rfl (Je1 results69 ?_)
 rw[show l.take i=l from aEm om]at hO
 exact⟨_,_,by rw[hO],by rw[hO]⟩
theorem pI(A:OA)(ca:Nat)(l:List (Int×Int))(k v:Int)(hl:l.length≤1000):
    Dz 58 [vs A l ca,iv k,iv v] [ros Be A l] (fun r Γ'=>∃B q,r= .slice B (Oi l k v).length q∧Γ'=[rows Be 92 2 B q (Oi l k v)]):=by
 refine Am func58 ntmps58 fun w0=>?_
 refine Jz 6 ?_
 refine Cz (Be) 92 2 (Jz 14 ?_)
 refine Jqf (pG A ca l k hl) rfl (ocs (oca 1 rfl) (ocn _)) ?_
 rintro _ _ ⟨Bd,qd,rfl,rfl⟩
 refine⟨rfl,?_⟩
 refine Jz 5 ?_
 refine To.nm ?_
 obtain⟨D,hD⟩:∃z0,z0=(Im l k):=⟨_,rfl⟩
 rw[←hD]
 have hDl:D.length≤l.length:=by rw[hD];exact Zw _ _
 refine Ce [0,0] rfl (Ie (fun mz ρ Γ=>∃(nx:List (Int×Int)) (An:OA) (qn:Nat) (d:Bool) (j:Nat),ρ=[(1,iv k),(2,iv v),(7,vs An nx qn),(8, .bool d),(13,vs Bd D qd),(14,nv D.length),(15,nv j)]∧Γ=[rows Be 92 2 Bd qd D,rows Be 92 2 An qn nx]∧mz=D.length-j∧(j≤D.length)∧((d=false→nx.length≤j)∧nx.length≤j+1)∧(pin k v false D=nx++pin k v d (D.drop j))) (D.length-0) ⟨⟨([]:List (Int×Int)),none,0,false,0,rfl,rfl,rfl,om,⟨fun _=>aEu _,aEw _⟩,rfl⟩,sb⟩ ?_)
 rintro mz _ _ ⟨nx,An,qn,d,j,rfl,rfl,rfl,hj,hn,hI⟩
 refine Jz 6 ?_
 refine Jcp rfl ?_ ?_<;>intro c16
 obtain⟨x,hx⟩:=exg D j om
 refine Jz 8 ?_
 refine Jal fun b10=>?_
 refine Jz 8 ?_
 refine JgB ?_ ?_<;>intro g21
 refine Jr (Ir (j:=0) rfl (Sn.of (size:=1) underlying92 (by kernel_rfl)) rfl rfl (by decide)) ?_
 refine Jz 6 ?_
 refine Jcp rfl ?_ ?_<;>intro c26
 refine Jz 5 ?_
 refine Jr (.bd [iv k,iv v]) ?_
 refine Eg [iv k,iv v] fun b31=>?_
 refine Jge rfl rfl rfl (Bg Eu (i:=3) (j:=0) (el:=(k,v)) rfl s58 rfl rfl rfl rfl rfl om om) ?_
 rintro _ _ ⟨A32,q32,rfl,rfl⟩
 refine Jz 10 ?_
 refine Eg [iv x.1,iv x.2] fun b35=>?_
 refine Jge rfl rfl rfl (Bg Eu (i:=4) (j:=0) (el:=x) rfl s58 rfl rfl rfl rfl rfl om om) ?_
 rintro _ _ ⟨A36,q36,rfl,rfl⟩
 refine Jz 9 ?_
 refine Ce [3,3] rfl (Hu ⟨⟨(nx++[(k,v)]++[x]),A36,q36,true,j+1,rfl,rfl,rfl,om,⟨fun e=>(by cases e),by simp only[lap,lc1,ln0];simp at g21;have:=hn.1 g21;omega⟩,(by rw[hI,wV hx,aEh ⟨by simpa using g21,c26⟩];simp)⟩,sb⟩)
 refine Jz 5 ?_
 refine Eg [iv x.1,iv x.2] fun b35_2=>?_
 refine Jge rfl rfl rfl (Bg Eu (i:=3) (j:=0) (el:=x) rfl s58 rfl rfl rfl rfl rfl om om) ?_
 rintro _ _ ⟨A36_2,q36_2,rfl,rfl⟩
 refine Jz 9 ?_
 refine Ce [2,2] rfl (Hu ⟨⟨(nx++[x]),A36_2,q36_2,d,j+1,rfl,rfl,rfl,om,⟨fun e=>(by have:=hn.1 e;simp only[lap,lc1,ln0];omega),by simp only[lap,lc1,ln0];omega⟩,(by rw[hI,wV hx,aEa (fun e=>c26 e.2)];simp)⟩,sb⟩)
 refine Jz 13 ?_
 refine Eg [iv x.1,iv x.2] fun b35_3=>?_
 refine Jge rfl rfl rfl (Bg Eu (i:=3) (j:=0) (el:=x) rfl s58 rfl rfl rfl rfl rfl om om) ?_
 rintro _ _ ⟨A36_3,q36_3,rfl,rfl⟩
 refine Jz 9 ?_
 refine Ce [2,2] rfl (Hu ⟨⟨(nx++[x]),A36_3,q36_3,d,j+1,rfl,rfl,rfl,om,⟨fun e=>(by have:=hn.1 e;simp only[lap,lc1,ln0];omega),by simp only[lap,lc1,ln0];omega⟩,(by rw[hI,wV hx,aEa (fun e=>by simp[e.1]at g21)];simp)⟩,sb⟩)
 refine Jz 12 ?_
 refine Ed rfl ?_ ?_<;>intro c39
 refine Jz 4 ?_
 refine Jr (.bd [iv k,iv v]) ?_
 refine Eg [iv k,iv v] fun b44=>?_
 refine Jge rfl rfl rfl (Bg Eu (i:=2) (j:=0) (el:=(k,v)) rfl s58 rfl rfl rfl rfl rfl om om) ?_
 rintro _ _ ⟨A45,q45,rfl,rfl⟩
 refine Jz 10 ?_
 have hfin:Oi l k v=nx++[(k,v)]:=by rw[Oi,←hD,hI,aFh om];rcases d with _|_<;>first|(exact absurd c39 (by decide))|simp[pin]
 refine Ce [2] rfl (Je1 results58 ?_)
 exact⟨_,_,by rw[hfin],by rw[hfin]⟩
 refine Jz 9 ?_
 have hfin:Oi l k v=nx:=by rw[Oi,←hD,hI,aFh om];rcases d with _|_<;>first|(exact absurd c39 (by decide))|simp[pin]
 refine Ce [1] rfl (Je1 results58 ?_)
 exact⟨_,_,by rw[hfin],by rw[hfin]⟩
theorem KH(A:OA)(ca:Nat)(l:List (Int×Int))(hl:l.length≤1000):
    Dz 30 [vs A l ca] [ros Be A l] (fun r Γ'=>∃B q,r= .slice B (Sg l).length q∧Γ'=[rows Be 92 2 B q (Sg l)]):=by
 refine Am func30 ntmps30 fun w0=>?_
 refine Jz 6 ?_
 refine Cz (Be) 92 2 (Jz 13 ?_)
 refine Ce [1,0] rfl (Ie (fun mz ρ Γ=>∃(Ao:OA) (qo:Nat) (O:List (Int×Int)) (i:Nat),ρ=[(3,vs Ao O qo),(6,vs A l ca),(7,nv l.length),(8,nv i)]∧Γ=[ros Be A l,rows Be 92 2 Ao qo O]∧mz=l.length-i∧(i≤l.length)∧(O=Sg (l.take i))) (l.length-0) ⟨⟨none,0,([]:List (Int×Int)),0,rfl,rfl,rfl,om,rfl⟩,sb⟩ ?_)
 rintro mz _ _ ⟨Ao,qo,O,i,rfl,rfl,rfl,hi,hO⟩
 have hOl:O.length≤l.length:=by rw[hO];exact aGd (zZ _) (by rw[aEe];omega)
 refine Jz 6 ?_
 refine Jcp rfl ?_ ?_<;>intro c9
 obtain⟨x,hx⟩:=exg l i om
 refine Jz 8 ?_
 refine Jal fun b5=>?_
 refine Jz 5 ?_
 refine Jr (Ir (j:=0) rfl (Sn.of (size:=1) underlying92 (by kernel_rfl)) rfl rfl (by decide)) ?_
 refine Jz 1 ?_
 refine Jr (Ir (j:=1) rfl (Sn.of (size:=1) underlying92 (by kernel_rfl)) rfl rfl (by decide)) ?_
 refine Jz 1 ?_
 refine Jqf (pI Ao qo O x.1 x.2 om) rfl (ocs (Ht 2 rfl) (ocn _)) ?_
 rintro _ _ ⟨B,q,rfl,rfl⟩
 refine⟨rfl,?_⟩
 refine Jz 9 ?_
 refine Ce [2,0] rfl (Hu ⟨⟨B,q,(Oi O x.1 x.2),i+1,rfl,rfl,rfl,om,(by rw[KG hx,←hO])⟩,sb⟩)
 refine Jz 12 ?_
 refine Ce [1] rfl (Je1 results30 ?_)
 rw[show l.take i=l from aEm om]at hO
 exact⟨_,_,by rw[hO],by rw[hO]⟩
open Go.Sep
def Nn(x y:Int×Int):Int:=Jb x.1 y.1
theorem KI:Cmp Nn:=rP.comap Prod.fst
theorem sJ{x y:Int×Int}:Nn x y<0↔x.1<y.1:=Ze
theorem AA{x y:Int×Int}:Nn x y≤0↔x.1≤y.1:=by unfold Nn Jb;split<;>first|omega|(split<;>omega)
def Gv:List (Int×Int)→List (Int×Int)
 |[]=>[]
 |[x]=>[x]
 |x::y::r=>if y.1≠x.1 then x::Gv (y::r)else Gv (y::r)
def ofT(l:List (Int×Int)):List (Int×Int):=l.foldl (fun t e=>Jp t e.1 e.2) []
theorem Wu(a b:Int×Int)(r:List (Int×Int)):Gv (a::b::r)=if b.1≠a.1 then a::Gv (b::r)else Gv (b::r):=by
 conv=>lhs;unfold Gv
theorem iT:∀(r:List (Int×Int)) (y:Int×Int),∃z s,Gv (y::r)=z::s∧z.1=y.1
 |[],y=>⟨y,[],rfl,rfl⟩
 | b ::r,y=>by
   unfold Gv
   by_cases h:b.1≠y.1
   ·rw[aEh h];exact⟨_,_,rfl,rfl⟩
   · rw[aEa h]
     obtain⟨z,s,h1,h2⟩:=iT r b
     exact⟨z,s,h1,by rw[h2];exact Classical.not_not.1 h⟩
theorem Sw{x:Int×Int}{q:List (Int×Int)}(hq:∀y∈q,x.1<y.1):Gv (x::q)=x::Gv q:=by
 cases q with
 |nil=>rfl
 | cons y r=>
   have:=hq y (aEd ..)
   conv=>lhs;unfold Gv
   rw[aEh om]
theorem mH{x:Int×Int}{q:List (Int×Int)}(hq:∀y∈q,x.1<y.1):Jp (Gv q) x.1 x.2=x::Gv q:=by
 cases q with
 |nil=>rfl
 | cons y r=>
   obtain⟨z,s,h1,h2⟩:=iT r y
   have:=hq y (aEd ..)
   rw[h1,Jp,aEa om,aEa om]
theorem mI{x:Int×Int}{q:List (Int×Int)}(hq:∀y∈q,x.1<y.1):∀p:List (Int×Int),p.Pairwise (fun a b=>a.1≤b.1)→(∀y∈p,y.1≤x.1)→Gv (p++x::q)=Jp (Gv (p++q)) x.1 x.2
 |[],_,_=>by rw[aGi,aGi,Sw hq,mH hq]
 | [a],_,hp=>by
   have ha:=hp a (aEd ..)
   have hqa:∀y∈q,a.1<y.1:=fun y hy=>by have:=hq y hy;omega
   show Gv (a::x::q)=Jp (Gv (a::q)) x.1 x.2
   rw[Sw hqa]
   conv=>lhs;unfold Gv
   by_cases h:x.1=a.1
   ·rw[aEa om,Sw hq,Jp,aEa om,aEh h.symm]
   ·rw[aEh h,Sw hq,Jp,aEh om,mH hq]
 | a ::b::p,hs,hp=>by
   obtain⟨h1,h2⟩:=aFo.1 hs
   have hab:=h1 b (aEd ..)
   have hbx:=hp b (aEb _ (aEd ..))
   have ih:=mI hq (b::p) h2 (fun y hy=>hp y (aEb _ hy))
   show Gv (a::b::(p++x::q))=Jp (Gv (a::b::(p++q))) x.1 x.2
   have ih:Gv (b::(p++x::q))=Jp (Gv (b::(p++q))) x.1 x.2:=ih
   by_cases h:b.1=a.1
   · have e1:Gv (a::b::(p++x::q))=Gv (b::(p++x::q)):=by rw[Wu,aEa om]
     have e2:Gv (a::b::(p++q))=Gv (b::(p++q)):=by rw[Wu,aEa om]
     rw[e1,e2,ih]
   · have e1:Gv (a::b::(p++x::q))=a::Gv (b::(p++x::q)):=by rw[Wu,aEh h]
     have e2:Gv (a::b::(p++q))=a::Gv (b::(p++q)):=by rw[Wu,aEh h]
     rw[e1,e2,ih,Jp,aEh om]
theorem sK(x:Int×Int):∀S:List (Int×Int),S.Pairwise (fun a b=>a.1≤b.1)→∃p q,S=p++q∧(∀y∈p,y.1≤x.1)∧(∀y∈q,x.1<y.1)
 |[],_=>⟨[],[],rfl,by simp,by simp⟩
 | a ::S,hs=>by
   obtain⟨h1,h2⟩:=aFo.1 hs
   by_cases h:a.1≤x.1
   · obtain⟨p,q,e,hp,hq⟩:=sK x S h2
     exact⟨a::p,q,by rw[e];rfl,fun y hy=>(aEi.1 hy).elim (fun e=>by rw[e];exact h) (hp y),hq⟩
   · refine⟨[],a::S,rfl,by simp,fun y hy=>?_⟩
     rcases aEi.1 hy with rfl|hy
     ·omega
     ·have:=h1 y hy;omega
theorem wW{x:Int×Int}{S:List (Int×Int)}(hs:S.Pairwise (fun a b=>a.1≤b.1)):Gv (bC Nn x S)=Jp (Gv S) x.1 x.2:=by
 obtain⟨p,q,rfl,hp,hq⟩:=sK x S hs
 rw[gX (fun y hy=>sJ.2 (hq y hy)) (fun y hy=>fun h=>by have:=hp y (List.mem_of_getLast? hy);have:=sJ.1 h;omega)]
 exact mI hq p (List.pairwise_append.1 hs).1 hp
theorem sM{x:Int×Int}{S:List (Int×Int)}(hs:S.Pairwise (fun a b=>a.1≤b.1)):(bC Nn x S).Pairwise (fun a b=>a.1≤b.1):=by
 have h1:S.reverse.Pairwise (fun a b=>Nn b a≤0):=List.pairwise_reverse.2 (hs.imp fun h=>AA.2 h)
 have h2:=Vj KI x h1
 unfold bC
 exact(List.pairwise_reverse.2 h2).imp fun h=>AA.1 h
theorem KJ(l:List (Int×Int)):Gv (Ev Nn l)=ofT l:=by
 suffices ∀(l S:List (Int×Int)),S.Pairwise (fun a b=>a.1≤b.1)→Gv (l.foldl (fun S x=>bC Nn x S) S)=l.foldl (fun t e=>Jp t e.1 e.2) (Gv S)from this l [] List.Pairwise.nil
 intro l
 induction l with
 |nil=>intro S _;rfl
 |cons x l ih=>intro S hS;rw[aGe,aGe,ih _ (sM hS),wW hS]
abbrev Asc(t:List (Int×Int)):Prop:=t.Pairwise (fun a b=>a.1<b.1)
theorem put_mem{t:List (Int×Int)}{k v:Int}:∀y∈Jp t k v,y.1=k∨y∈t:=by
 induction t with
 |nil=>intro y hy;simp[Jp]at hy;exact .inl (by rw[hy])
 | cons e r ih=>
   intro y hy
   rw[Jp]at hy
   by_cases h1:e.1<k
   · rw[aEh h1]at hy
     rcases aEi.1 hy with rfl|hy
     ·exact .inr (aEd ..)
     ·exact(ih y hy).imp id (aEb _)
   · rw[aEa h1]at hy
     by_cases h2:e.1=k
     · rw[aEh h2]at hy
       rcases aEi.1 hy with rfl|hy
       ·exact .inl rfl
       ·exact .inr (aEb _ hy)
     · rw[aEa h2]at hy
       rcases aEi.1 hy with rfl|hy
       ·exact .inl rfl
       ·exact .inr hy
theorem AB{t:List (Int×Int)}{k v:Int}(h:Asc t):Asc (Jp t k v):=by
 induction t with
 |nil=>simp[Jp]
 | cons e r ih=>
   obtain⟨h1,h2⟩:=aFo.1 h
   rw[Jp]
   by_cases c1:e.1<k
   · rw[aEh c1]
     refine aFo.2 ⟨fun y hy=>?_,ih h2⟩
     rcases put_mem y hy with h3|h3
     ·omega
     ·exact h1 y h3
   · rw[aEa c1]
     by_cases c2:e.1=k
     · rw[aEh c2]
       exact aFo.2 ⟨fun y hy=>by have:=h1 y hy;show k<y.1;omega,h2⟩
     · rw[aEa c2]
       refine aFo.2 ⟨fun y hy=>?_,h⟩
       rcases aEi.1 hy with rfl|hy
       ·show k<y.1;omega
       ·have:=h1 y hy;show k<y.1;omega
theorem Wv{t:List (Int×Int)}{k:Int}(h:∀y∈t,k<y.1):Im t k=t:=List.filter_eq_self.2 fun y hy=>aEk (by have:=h y hy;omega)
theorem mJ{t:List (Int×Int)}{k v:Int}(h:∀y∈t,k<y.1):pin k v false t=(k,v)::t:=by
 cases t with
 |nil=>rfl
 |cons y r=>rw[pin,aEh ⟨rfl,h y (aEd ..)⟩,iR]
theorem AJ{t:List (Int×Int)}{k v:Int}(h:Asc t):Oi t k v=Jp t k v:=by
 induction t with
 |nil=>rfl
 | cons e r ih=>
   obtain⟨h1,h2⟩:=aFo.1 h
   rw[Jp]
   unfold Oi
   by_cases c1:e.1<k
   · rw[aEh c1,←ih h2]
     unfold Oi
     have:Im (e::r) k=e::Im r k:=List.filter_cons_of_pos (aEk om)
     rw[this,pin,aEa (fun h=>by omega)]
   · rw [aEa c1]
     by_cases c2:e.1=k
     · rw[aEh c2]
       have h3:∀y∈r,k<y.1:=fun y hy=>by have:=h1 y hy;omega
       have:Im (e::r) k=Im r k:=List.filter_cons_of_neg (by simp[c2])
       rw[this,Wv h3,mJ h3]
     · rw[aEa c2]
       have h3:∀y∈e::r,k<y.1:=fun y hy=>by
        rcases aEi.1 hy with rfl|hy
        ·omega
        ·have:=h1 y hy;omega
       rw[Wv h3,mJ h3]
theorem iU(l:List (Int×Int)):Sg l=ofT l∧Asc (ofT l):=by
 suffices ∀(l t:List (Int×Int)),Asc t→l.foldl (fun t e=>Oi t e.1 e.2) t=l.foldl (fun t e=>Jp t e.1 e.2) t∧Asc (l.foldl (fun t e=>Jp t e.1 e.2) t)from this l [] List.Pairwise.nil
 intro l
 induction l with
 |nil=>intro t h;exact⟨rfl,h⟩
 |cons x l ih=>intro t h;rw[aGe,aGe,AJ h];exact ih _ (AB h)
theorem sP{S:List (Int×Int)}{i:Nat}{x y:Int×Int}(hx:S[i]?=some x)(hy:S[i+1]?=some y):Gv (S.drop i)=if y.1≠x.1 then x::Gv (S.drop (i+1))else Gv (S.drop (i+1)):=by
 rw[dog hx,dog hy];rfl
theorem wX{S:List (Int×Int)}{i:Nat}{x:Int×Int}(hx:S[i]?=some x)(hn:i+1=S.length):Gv (S.drop i)=[x]:=by
 rw[dog hx,aFh om];rfl
open Go.RowKit Go.Flow Go.Mem Go.Sep
theorem UX(a:Int):
    Dz 81 [iv a] [] (fun v _=>v= .bool false):=by
 refine Am func81 ntmps81 fun w0=>?_
 refine Jz 14 ?_
 refine Je1 results81 ?_
 simp
theorem UY(a b:Int):
    Dz 47 [iv a,iv b] [] (fun v _=>v=iv (Jb a b)):=by
 refine Am func47 ntmps47 fun w0=>?_
 refine Jz 8 ?_
 refine Jvf (UX a) rfl (ocn _) ?_
 refine Jz 6 ?_
 refine Jvf (UX b) rfl (ocn _) ?_
 refine Jz 29 ?_
 refine Jcp rfl ?_ ?_<;>intro c16
 refine Jz 7 ?_
 refine Je1 results47 ?_
 unfold Jb;rw[aEh c16]
 refine Jz 10 ?_
 refine Jcp rfl ?_ ?_<;>intro c19
 refine Jz 7 ?_
 refine Je1 results47 ?_
 unfold Jb;rw[aEa c16,aEh c19]
 refine Jz 8 ?_
 refine Je1 results47 ?_
 unfold Jb;rw[aEa c16,aEa c19]
theorem WY(x y:Int×Int):
    Dz 46 [.agg (Be x).toArray, .agg (Be y).toArray] [] (fun v _=>v=iv (Nn x y)):=by
 refine Am func46 ntmps46 fun w0=>?_
 refine Js (To.g (Jbo fun b2=>?_))
 refine Jbo fun b3=>?_
 refine Jz 9 ?_
 refine Jvf (UY x.1 y.1) rfl (ocn _) ?_
 refine Jz 4 ?_
 refine Je1 results46 ?_
 rfl
theorem QS(A:OA)(cap:Nat)(l:List (Int×Int))(hl:l.length≤16):
    Dz 127 [vs A l cap,iv 0,nv l.length, .func (.func 46) #[] #[]] [rows Be 142 2 A cap l] (fun v Γ'=>v= .tuple #[]∧Γ'=[rows Be 142 2 A cap (Ev Nn l)]):=by
 refine Am func127 ntmps127 fun w0=>?_
 refine Jz 3 ?_
 refine Jr (Hl rfl rfl rfl om) ?_
 refine Jz 4 ?_
 refine Ce [0] rfl (Jas [rows Be 142 2 A cap (Ev Nn (l.take 1)++l.drop 1)] (by rw[Wp]<;>rfl) (Ie (fun mz ρ Γ=>∃(i:Nat),ρ=[(0,vs A (Ev Nn (l.take i)++l.drop i) cap),(1,iv 0),(2,nv l.length),(3, .func (.func 46) #[] #[]),(8,nv i)]∧Γ=[rows Be 142 2 A cap (Ev Nn (l.take i)++l.drop i)]∧mz=l.length-i∧(1≤i∧(i≤l.length∨l.length=0))) (l.length-1) ⟨⟨1,rfl,rfl,rfl,om⟩,⟨(congrArg (fun n:Nat=>some (Value.slice A n cap)) (congrArg List.length (Wp l).symm)),rfl,rfl,rfl,rfl,trivial⟩⟩ ?_))
 rintro mz _ _ ⟨i,rfl,rfl,rfl,hi⟩
 refine Jz 8 ?_
 refine Jcp rfl ?_ ?_<;>intro c14
 refine Jz 11 ?_
 obtain⟨x,hx⟩:=exg l i om
 have hlen:(Ev Nn (l.take i)).length=i:=by rw[Mt,aEe];omega
 have hd0:=dog hx
 refine Ce [0] rfl (Jas [rows Be 142 2 A cap ((Ev Nn (l.take i))++x::([]++l.drop (i+1)))] (by rw[hd0];rfl) (Ie (fun mz ρ Γ=>∃(p:List (Int×Int)) (q:List (Int×Int)),ρ=[(0,vs A (p++x::(q++l.drop (i+1))) cap),(1,iv 0),(2,nv l.length),(3, .func (.func 46) #[] #[]),(8,nv i),(9,nv p.length)]∧Γ=[rows Be 142 2 A cap (p++x::(q++l.drop (i+1)))]∧mz=p.length∧(Ev Nn (l.take i)=p++q)∧(∀z∈q,Nn x z<0)) ((Ev Nn (l.take i)).length) ⟨⟨(Ev Nn (l.take i)),[],rfl,rfl,rfl,((aEz _).symm),(fun z hz=>absurd hz aEs)⟩,⟨(congrArg (fun n:Nat=>some (Value.slice A n cap)) (congrArg (fun d=>(Ev Nn (l.take i)++d).length) hd0)),rfl,rfl,rfl,rfl,(congrArg (fun n:Nat=>some (iv (n:Int))) hlen.symm),trivial⟩⟩ ?_))
 rintro mz _ _ ⟨p,q,rfl,rfl,rfl,hpq,hq⟩
 have hln:(p++x::(q++l.drop (i+1))).length=l.length:=by
  have h1:=congrArg List.length hpq
  rw[Mt,aEe,lap]at h1
  simp only[lap,lc1,aFk];omega
 have hpi:p.length<l.length:=by rw[←hln];simp only[lap,lc1];omega
 refine Js (Js ?_)
 have hgx:(p++x::(q++l.drop (i+1)))[p.length]?=some x:=zD _ _ _
 refine Jfw [] [0,1,2,3,4,5,6,9,10,11,107,108,112,113,314,15,16] (ocn _) ?_
 refine Jz 3 ?_
 refine gT rfl rfl rfl rfl (Rd.move rfl rfl) (fun g21=>?_) (fun g21=>?_)
 have hpp:0<p.length:=om
 obtain⟨p',y,hp⟩:=cO hpp
 have hgy:(p++x::(q++l.drop (i+1)))[p.length-1]?=some y:=by rw[hp];simp
 refine Jz 5 ?_
 refine Fw.f rfl (Cr (v':=nv (p.length-1)) (congrArg iv om) (Gi rfl rfl rfl om)) ?_
 refine Jz 4 ?_
 refine gQ rfl rfl rfl rfl (Ent.func (first:=[]) (captured:=[]) rfl rfl rfl (kc.h 46 rfl)) (WY x y) rfl (ocn _) ?_
 refine Jz 4 ?_
 refine Jcp rfl ?_ ?_<;>intro c34
 have hxy:=c34
 refine Jz 4 ?_
 have hl2:((p++x::(q++l.drop (i+1))).set p.length y).length=l.length:=by rw[aEj];exact hln
 refine Lt (p:=A=some ⟨blk A,ofs A,none⟩) (fun w hw=>Oe Eu (by decide) (l:=(p++x::(q++l.drop (i+1)))) (by rw[hln];omega) 0 rfl hw) (fun hA=>?_)
 refine Jfw [] [0,1,2,3,4,5,6,7,8,10,11,12,109,113,14,515,16,517] (ocn _) ?_
 refine Jz 4 ?_
 refine Fw.f rfl (Cr (v':=nv (p.length-1)) (congrArg iv om) (Gi rfl rfl rfl om)) ?_
 refine Jz 2 ?_
 refine Fw.f rfl (Cr (v':=nv (p.length-1)) (congrArg iv om) (Gi rfl rfl rfl om)) ?_
 refine Fw.f rfl (Dg (j:=(p.length-1)) hA rfl rfl rfl s52 (by rw[hln];omega)) ?_
 refine Jz 2 ?_
 refine Fw.f rfl (Dg (j:=p.length) hA rfl rfl rfl s52 (by rw[hln];omega)) ?_
 refine Jz 2 ?_
 refine Fw.f rfl (Dg (j:=p.length) hA rfl rfl rfl s52 (by rw[hln];omega)) ?_
 refine Fw.up rfl rfl rfl (Bl (i:=0) (us:=Be y) rfl rfl rfl JQ (Eu.len _) rfl rfl (Ee Eu (by decide) om)) (ocn _) ?_
 refine Fw.f rfl (Dg (j:=(p.length-1)) hA rfl rfl rfl s52 (by rw[hln];omega)) ?_
 refine Fw.up rfl rfl rfl (Bl (i:=0) (us:=Be x) rfl rfl rfl JQ (Eu.len _) rfl rfl (Ee Eu (by decide) om)) (ocn _) ?_
 refine Jz 5 ?_
 refine Jr (Cr (v':=nv (p.length-1)) (congrArg iv om) (Gi rfl rfl rfl om)) ?_
 refine Jz 3 ?_
 have hsw:=rQ p' (q++l.drop (i+1)) x y
 have hpl:p.length-1=p'.length:=by rw[hp];simp
 refine Ot [(0,vs A (p'++x::((y::q)++l.drop (i+1))) cap),(1,iv 0),(2,nv l.length),(3, .func (.func 46) #[] #[]),(8,nv i),(9,nv p'.length)] ⟨(congrArg (fun n:Nat=>some (Value.slice A n cap)) (by rw[hp];simp)),rfl,rfl,rfl,rfl,(congrArg (fun n:Nat=>some (iv (n:Int))) hpl),trivial⟩ (Ce [0] rfl (Jas [rows Be 142 2 A cap (p'++x::((y::q)++l.drop (i+1)))] (by rw[hpl,hp];rw[hsw];rfl) ?_))
 refine Jag (p'.length) (by rw[hp];simp) ⟨p',(y::q),rfl,rfl,rfl,(by rw[hpq,hp];simp),(fun z hz=>by
  rcases aEi.1 hz with rfl|hz
  ·exact hxy
  ·exact hq z hz)⟩
 have hstop:p.length=0∨∀z,p.getLast?=some z→¬Nn x z<0:= .inr (fun z hz=>by rw[hp]at hz;simp at hz;subst hz;exact c34)
 refine Jz 12 ?_
 have hlast:∀z,p.getLast?=some z→¬Nn x z<0:=fun z hz=>by
  rcases hstop with h0|h0
  ·rw[aFp h0]at hz;simp at hz
  ·exact h0 z hz
 have hnext:(p++x::(q++l.drop (i+1)))=Ev Nn (l.take (i+1))++l.drop (i+1):=by rw[Ud hx hpq hq hlast];simp
 refine Ce [0] rfl (Jas [rows Be 142 2 A cap (Ev Nn (l.take (i+1))++l.drop (i+1))] (by rw[hnext]<;>rfl) (Hu ⟨⟨i+1,rfl,rfl,rfl,om⟩,⟨(congrArg (fun n:Nat=>some (Value.slice A n cap)) (congrArg List.length hnext)),rfl,rfl,rfl,rfl,trivial⟩⟩))
 have hstop:p.length=0∨∀z,p.getLast?=some z→¬Nn x z<0:= .inl om
 refine Jz 28 ?_
 have hlast:∀z,p.getLast?=some z→¬Nn x z<0:=fun z hz=>by
  rcases hstop with h0|h0
  ·rw[aFp h0]at hz;simp at hz
  ·exact h0 z hz
 have hnext:(p++x::(q++l.drop (i+1)))=Ev Nn (l.take (i+1))++l.drop (i+1):=by rw[Ud hx hpq hq hlast];simp
 refine Ce [0] rfl (Jas [rows Be 142 2 A cap (Ev Nn (l.take (i+1))++l.drop (i+1))] (by rw[hnext]<;>rfl) (Hu ⟨⟨i+1,rfl,rfl,rfl,om⟩,⟨(congrArg (fun n:Nat=>some (Value.slice A n cap)) (congrArg List.length hnext)),rfl,rfl,rfl,rfl,trivial⟩⟩))
 refine Jz 4 ?_
 refine Co (.inr rfl) results127 ?_
 exact⟨rfl,by rw[show l.take i=l from aEm om,aFh om,aEz]⟩
theorem QT(A:OA)(cap:Nat)(l:List (Int×Int))(hl:l.length≤16):
    Dz 80 [vs A l cap,nv l.length, .func (.func 46) #[] #[]] [rows Be 142 2 A cap l] (fun v Γ'=>v= .tuple #[]∧Γ'=[rows Be 142 2 A cap (Ev Nn l)]):=by
 refine Am func80 ntmps80 fun w0=>?_
 refine Jz 14 ?_
 refine bG (Jz 8 ?_)
 refine Jcp rfl ?_ ?_<;>intro c13
 exfalso;omega
 refine Jz 11 ?_
 refine Jcf [0] (QS A cap l hl) ?_
 rintro _ _ ⟨rfl,rfl⟩
 refine Jz 3 ?_
 refine bG (Jz 8 ?_)
 refine Jcp rfl ?_ ?_<;>intro c30
 exfalso;omega
 refine Jz 4 ?_
 refine Co (.inr rfl) results80 ?_
 exact⟨rfl,rfl⟩
theorem WZ(A:OA)(cap:Nat)(l:List (Int×Int))(hl:l.length≤16):
    Dz 45 [vs A l cap, .func (.func 46) #[] #[]] [rows Be 142 2 A cap l] (fun v Γ'=>v= .tuple #[]∧Γ'=[rows Be 142 2 A cap (Ev Nn l)]):=by
 refine Am func45 ntmps45 fun w0=>?_
 refine Jz 5 ?_
 refine Jcf [0] (QT A cap l hl) ?_
 rintro _ _ ⟨rfl,rfl⟩
 refine Jn (Co (.inr rfl) results45 ?_)
 exact⟨rfl,rfl⟩
theorem EL{l:List (Int×Int)}{i:Nat}{x:Int×Int}(hx:l[i]?=some x):(l.take i++List.replicate (l.length-i) ((0:Int),(0:Int))).set i x=l.take (i+1)++List.replicate (l.length-(i+1)) (0,0):=by
 have hi:i<l.length:=(aEc.1 hx).1
 have h1:(l.take i).length=i:=by rw[aEe];omega
 rw[List.set_append_right _ _ om,h1,aGj,show l.length-i=(l.length-(i+1))+1 from by omega,List.replicate_succ,List.set_cons_zero,Cf hx]
 simp
theorem AL{α:Type}{D S:List α}{i:Nat}(h:D.drop i=S.drop i)(k:Nat):D[i+k]?=S[i+k]?:=by
 have:=congrArg (fun l=>l[k]?) h
 simpa using this
theorem mK{α:Type}{D out:List α}{x:α}(h:D.take out.length=out)(hk:out.length<D.length):(D.set out.length x).take (out++[x]).length=out++[x]:=by
 have h2:(D.set out.length x)[out.length]?=some x:=List.getElem?_set_self hk
 rw[lap,lc1,ln0,aFl,Cf h2,List.take_set_of_le (aEu _),h]
theorem mM{α:Type}{D S:List α}{i k:Nat}{x:α}(h:D.drop i=S.drop i)(hk:k≤i):(D.set k x).drop (i+1)=S.drop (i+1):=by
 rw[List.drop_set_of_lt om,←List.drop_drop,h,List.drop_drop]
theorem EM{α:Type}{D S:List α}{i:Nat}(h:D.drop i=S.drop i):D.drop (i+1)=S.drop (i+1):=by
 rw[←List.drop_drop,h,List.drop_drop]
theorem KL(A:OA)(ca:Nat)(l:List (Int×Int))(hl:l.length≤16):
    Dz 22 [vs A l ca] [ros Be A l] (fun v Γ'=>∃B q,v= .agg #[.slice B (ofT l).length q]∧Γ'=[rows Be 142 2 B q (ofT l)]):=by
 refine Am func22 ntmps22 fun w0=>?_
 refine Js (To.g (Jal fun b2=>?_))
 refine Jz 6 ?_
 refine Jmk rfl rfl rfl (Zl (enc:=Be) (z:=((0:Int),(0:Int))) (n:=l.length) rfl (by decide) rfl s52 rfl rfl om (by simp only[maxLen];omega)) ?_
 rintro _ _ ⟨b11,rfl,rfl⟩
 refine Jz 12 ?_
 refine Ce [1,0,0] rfl (Ie (fun mz ρ Γ=>∃(Ad:OA) (D:List (Int×Int)) (i:Nat),ρ=[(2,pv b2),(3,vs Ad D l.length),(12,vs A l ca),(13,nv l.length),(14,nv i)]∧Γ=[box b2 [nz] 54,rows Be 142 2 Ad l.length D,ros Be A l]∧mz=l.length-i∧(i≤l.length)∧(D=l.take i++List.replicate (l.length-i) (0,0))) (l.length-0) ⟨⟨(some ⟨b11,0,none⟩),(List.replicate l.length ((0:Int),(0:Int))),0,rfl,rfl,rfl,om,(by simp)⟩,sb⟩ ?_)
 rintro mz _ _ ⟨Ad,D,i,rfl,rfl,rfl,hi,hD⟩
 have hDl:D.length=l.length:=by rw[hD,lap,aEe,aFu];omega
 refine Jz 6 ?_
 refine Jcp rfl ?_ ?_<;>intro c15
 obtain⟨x,hx⟩:=exg l i om
 refine Jz 9 ?_
 refine Jal fun b5=>?_
 refine Jz 4 ?_
 obtain⟨y0,hy0⟩:=exg D i om
 refine Jz 3 ?_
 refine Jr (Ir (j:=0) rfl (Sn.of (size:=1) underlying92 (by kernel_rfl)) rfl rfl (by decide)) ?_
 refine Jz 1 ?_
 refine Jr (Ir (j:=1) rfl (Sn.of (size:=1) underlying92 (by kernel_rfl)) rfl rfl (by decide)) ?_
 refine Jz 1 ?_
 refine Jr (.bd [iv x.1,iv x.2]) ?_
 refine Jz 1 ?_
 refine To.u (Bl (i:=2) (us:=Be x) rfl rfl rfl JQ (Eu.len _) rfl rfl (Ee Eu (by decide) om)) ?_
 refine Jz 8 ?_
 refine Ce [1,1,1] rfl (Hu ⟨⟨Ad,(D.set i x),i+1,rfl,rfl,rfl,om,(by rw[hD,EL hx])⟩,⟨rfl,(congrArg (fun n:Nat=>some (Value.slice Ad n l.length)) aEj.symm),rfl,rfl,rfl,trivial⟩⟩)
 refine Jz 6 ?_
 obtain rfl:D=l:=by rw[hD,show i=l.length from by omega];simp
 refine Ot [(2,pv b2),(3,vs Ad D D.length)] sb (Jz 2 ?_)
 refine Jcf [1] (WZ Ad D.length D hl) ?_
 rintro _ _ ⟨rfl,rfl⟩
 refine Jz 3 ?_
 refine Ce [0,0] rfl ?_
 obtain⟨S,hS⟩:∃S,S=Ev Nn D:=⟨_,rfl⟩
 have hSl:S.length=D.length:=by rw[hS,Mt]
 (try unfold vs);rw[←hS,←hSl]
 refine Jz 2 ?_
 refine Jr (Eo (hi:=0) rfl s52 rfl rfl om) ?_
 refine Jz 12 ?_
 refine Ce [0,0] rfl (Ie (fun mz ρ Γ=>∃(D2:List (Int×Int)) (o:List (Int×Int)) (i:Nat),ρ=[(2,pv b2),(3,vs Ad D2 S.length),(6,vs Ad o S.length),(32,vs Ad D2 S.length),(33,nv S.length),(34,nv i)]∧Γ=[rows Be 142 2 Ad S.length D2,box b2 [nz] 54]∧mz=S.length-i∧(i≤S.length)∧(D2.length=S.length)∧(o.length≤i)∧(D2.take o.length=o)∧(D2.drop i=S.drop i)∧(Gv S=o++Gv (S.drop i))) (S.length-0) ⟨⟨S,([]:List (Int×Int)),0,rfl,rfl,rfl,om,rfl,(aEu _),rfl,rfl,rfl⟩,sb⟩ ?_)
 rintro mz _ _ ⟨D2,o,i,rfl,rfl,rfl,hi,hl2,ho,hk,hd,hI⟩
 refine Jz 6 ?_
 refine Jcp rfl ?_ ?_<;>intro c35
 obtain⟨x,hx⟩:=exg D2 i om
 refine Jz 9 ?_
 refine Jal fun b8=>?_
 refine Jz 5 ?_
 have hxS:S[i]?=some x:=by have:=AL hd 0;rw[aGm]at this;rw[←this];exact hx
 refine Jfw [] [0,1,2,3,4,5,6,7,8,12,109,10,111,113,14,15] (ocn _) ?_
 refine Jz 5 ?_
 refine gT rfl rfl rfl rfl (Rd.move rfl rfl) (fun g44=>?_) (fun g44=>?_)
 refine Jz 16 ?_
 refine Eg [iv x.1,iv x.2] fun b57=>?_
 refine Jge rfl rfl rfl (dE Eu (by decide) (i:=2) (j:=0) (k:=o.length) (el:=x) rfl s52 rfl rfl rfl rfl rfl om) ?_
 rintro _ _ ⟨rfl,rfl⟩
 refine Jz 9 ?_
 refine Ce [2,2] rfl (Hu ⟨⟨(D2.set o.length x),(o++[x]),i+1,rfl,rfl,rfl,om,(by rw[aEj];exact hl2),(by rw[lap,lc1,ln0];omega),(mK hk om),(mM hd ho),(by rw[hI,wX hxS om,aFh (by omega:S.length≤i+1)];simp[Gv])⟩,⟨rfl,(congrArg (fun n:Nat=>some (Value.slice Ad n S.length)) aEj.symm),(congrArg (fun n:Nat=>some (Value.slice Ad n S.length)) (by simp)),(congrArg (fun n:Nat=>some (Value.slice Ad n S.length)) aEj.symm),rfl,rfl,trivial⟩⟩)
 obtain⟨y,hy⟩:∃z0,D2[i+1]?=some z0:=⟨D2[i+1]'om,gge _⟩
 have hyS:S[i+1]?=some y:=by rw[←AL hd 1];exact hy
 refine Jz 12 ?_
 refine Jcp rfl ?_ ?_<;>intro c54
 refine Jz 3 ?_
 refine Eg [iv x.1,iv x.2] fun b57_2=>?_
 refine Jge rfl rfl rfl (dE Eu (by decide) (i:=2) (j:=0) (k:=o.length) (el:=x) rfl s52 rfl rfl rfl rfl rfl om) ?_
 rintro _ _ ⟨rfl,rfl⟩
 refine Jz 9 ?_
 refine Ce [2,2] rfl (Hu ⟨⟨(D2.set o.length x),(o++[x]),i+1,rfl,rfl,rfl,om,(by rw[aEj];exact hl2),(by rw[lap,lc1,ln0];omega),(mK hk om),(mM hd ho),(by rw[hI,sP hxS hyS,aEh c54];simp)⟩,⟨rfl,(congrArg (fun n:Nat=>some (Value.slice Ad n S.length)) aEj.symm),(congrArg (fun n:Nat=>some (Value.slice Ad n S.length)) (by simp)),(congrArg (fun n:Nat=>some (Value.slice Ad n S.length)) aEj.symm),rfl,rfl,trivial⟩⟩)
 refine Jz 8 ?_
 refine Ce [1,1] rfl (Hu ⟨⟨D2,o,i+1,rfl,rfl,rfl,om,hl2,om,hk,(EM hd),(by rw[hI,sP hxS hyS,aEa c54])⟩,sb⟩)
 refine Jz 8 ?_
 refine Jr (.bd [vs Ad o S.length]) ?_
 refine Jz 4 ?_
 have hfin:o=ofT D:=by
  have:=hI
  rw[aFh (by omega:S.length≤i)]at this
  rw[←KJ,←hS,this];first|done|simp[Gv]
 refine Ce [0,0] rfl (eP Eu o.length om ?_)
 rw[hk]
 refine Gf [0] results22 ?_
 exact⟨Ad,S.length,by rw[←hfin];first|done|rfl,by rw[←hfin]⟩
end Go.Proofs.YtlihklladkagpaaGreatDoor
