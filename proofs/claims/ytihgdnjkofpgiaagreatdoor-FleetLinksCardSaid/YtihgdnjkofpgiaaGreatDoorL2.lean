/- Own text. -/
import Derived.Test.YtihgdnjkofpgiaaGreatDoorL1
import Derived.Deep.Slices
import Derived.ProofKit
import Derived.OpenShut
import Derived.ChangeOld
import Derived.LoopN
import Derived.Laws.StructEq
import Derived.Lib.Bytealg
import Derived.Laws.Externs
set_option linter.unusedVariables false
set_option linter.unusedSimpArgs false
namespace Go.Sep
theorem dog{α:Type}{l:List α}{k:Nat}{y:α}(hy:l[k]?=some y):l.drop k=y::l.drop (k+1):=by
 obtain⟨h1,h2⟩:=aNr.1 hy;rw[←h2];exact aPy h1
theorem Cj{α:Type}{l:List α}{k:Nat}{y:α}(hy:l[k]?=some y):l.take (k+1)=l.take k++[y]:=by
 obtain⟨h1,h2⟩:=aNr.1 hy;rw[←h2];exact List.take_succ_eq_append_getElem h1
theorem Qo{α β:Type}{l:List α}{i:Nat}{y:α}(h:l[i]?=some y)(f:α→β):f y∈l.map f:=aOm.2 ⟨y,sN h,rfl⟩
structure Cmp{α:Type}(c:α→α→Int):Prop where
 anti:∀x y,c y x=-c x y
 trans:∀x y z,c x y≤0→c y z≤0→c x z≤0
section
variable{α β:Type}{c:α→α→Int}
def kI(c:α→α→Int)(x:α):List α→List α
 |[]=>[x]
 |y::r=>if c x y<0 then y::kI c x r else x::y::r
end
open Go.ChangeShapes Go.WideShapes Go.ChangeAt Go.RowKit Go.Flow Go.Mem Go.Deep
section
variable{H:Type}{ench:TypeId×Value→H}{P:Program}{w:World}{base:Nat}{spare:Nat→Bool}{held:Bool}
theorem sS{α:Type}{enc:α→List Value}{size:Nat}(hs:∀x,(enc x).length=size):∀(l:List α) (k:Nat) (v:Value),(l.flatMap enc)[k]?=some v→∃i j a,k=i*size+j∧l[i]?=some a∧(enc a)[j]?=some v
 |[],k,v,h=>by simp at h
 | x ::l,k,v,h=>by
   rw[aPl]at h;rcases Nat.lt_or_ge k size with hk|hk
   · rw[aOu (by rw[hs];exact hk)]at h
     exact⟨0,k,x,by omega,rfl,h⟩
   · rw[aPj (by rw[hs];exact hk),hs]at h
     obtain⟨i,j,a,h1,h2,h3⟩:=sS hs l (k-size) v h;exact⟨i+1,j,a,by rw[Nat.add_mul];omega,h2,h3⟩
theorem open_list{α:Type}{enc:α→List Value}{size:Nat}(hs:∀x,(enc x).length=size)(hpos:0<size)(Q:α→Prop){t e:TypeId}{fuel:Nat}{cs:List Value}{x:DataW H×List MemPlace}(ht:P.underlying t=some (.slice e))(hC:P.cellsOf e=size)
    (hel:∀n cs' x',DataW.trod ench P w base spare held n e cs'=some x'→cs'.length=size→∃a:α,cs'=enc a∧Q a) (h:DataW.trod ench P w base spare held fuel t cs=some x):
    ∃(A:OA) (l:List α) (cap:Nat),cs=[.slice A l.length cap]∧Src w A (l.flatMap enc)∧(∀a∈l,Q a)∧l.length≤cap∧cap≤maxLen:=by
 rcases open_slice ht h with⟨h0,_⟩|⟨a,len,cap,m,n,D,Pl,hcs,_,hl,hm,hmm,_,hi⟩
 ·exact⟨none,[],0,h0, .inl rfl,by simp,aOd _,aOk _⟩
 · have hlm:len≤m:=by rw[hmm];split<;>omega
   have key:∀i,i<len→∃b:α,(∀j v,(enc b)[j]?=some v→w.cell? (a.add (i*size+j))=some v)∧Q b:=fun i hil=>by
    obtain⟨cs',hc,ht'⟩:=hi i om;rw[hC]at hc;obtain⟨_,hcl,hat⟩:=World.cells?_some hc;obtain⟨b,hb,hq⟩:=hel _ _ _ ht' hcl;refine⟨b,fun j v hv=>?_,hq⟩;have hj:j<size:=by rw[←hs b];exact(aNr.1 hv).1
    rw[←Go.Deep.add_add,hat j hj,hb,hv]
   rcases Nat.eq_zero_or_pos len with h0|h0
   · subst h0
     exact⟨some a,[],cap,hcs, .inl rfl,by simp,aOk _,hm⟩
   · have key2:∀i,∃b:α,i<len→(∀j v,(enc b)[j]?=some v→w.cell? (a.add (i*size+j))=some v)∧Q b:=fun i=>by
       by_cases hil:i<len
       ·obtain⟨b,hb⟩:=key i hil;exact⟨b,fun _=>hb⟩
       ·obtain⟨b,_⟩:=key 0 h0;exact⟨b,fun h=>(hil h).elim⟩
     let f:Nat→α:=fun i=>Classical.choose (key2 i);have hf:∀i,i<len→(∀j v,(enc (f i))[j]?=some v→w.cell? (a.add (i*size+j))=some v)∧Q (f i):=fun i=>Classical.choose_spec (key2 i);obtain⟨v0,hv0⟩:∃v,(enc (f 0))[0]?=some v:=⟨_,gge (by rw[hs];exact hpos)⟩
     have hc0:=(hf 0 h0).1 0 v0 hv0;obtain⟨b,off,spot⟩:=a;have hspot:spot=none:=by simpa[Addr.add]using World.cell?_spot hc0
     subst hspot;refine⟨some ⟨b,off,none⟩,(List.range len).map f,cap,by simpa using hcs, .inr ⟨b,off,rfl,fun k v hv=>?_⟩,fun x hx=>?_,by simpa using hl,hm⟩
     · obtain⟨i,j,y,h1,h2,h3⟩:=sS hs _ k v hv
       rw[aOf]at h2;obtain⟨i',h4,h5⟩:=aOr.1 h2;have h6:i'=i∧i<len:=by
        have:=aNr.1 h4;simp at this;exact⟨this.2.symm,this.1⟩
       obtain⟨rfl,h7⟩:=h6;rw[←h5]at h3;have:=(hf i' h7).1 j v h3;rw[Addr.add_mid]at this;rw[h1];exact this
     · obtain⟨i,hi',rfl⟩:=aOm.1 hx
       exact(hf i (List.mem_range.1 hi')).2
theorem Kh{e:TypeId}{fs:Array Field}{fuel:Nat}{cs:List Value}{x:DataW H×List MemPlace}(he:P.underlying e=some (.struct fs))(h:DataW.trod ench P w base spare held fuel e cs=some x)(i:Nat)(f:Field)(hf:fs[i]?=some f)(h1:P.cellsOf f.type=1){c:Value}(hc:cs[f.offset]?=some c):
    ∃n y,DataW.trod ench P w base spare held n f.type [c]=some y:=by
 obtain⟨xs,n,_,_,_,hxl,hx⟩:=DataW.trod_struct he h;have:=hx i f hf;rw[h1]at this;have e1:(cs.drop f.offset).take 1=[c]:=aHt hc;rw[e1]at this;have hi:i<xs.length:=by rw[hxl];exact(aQh.1 hf).1
 exact⟨n,xs[i],by rw[this,gge hi]⟩
theorem Zd(hl:laidOutB P=true){W W':World}(hb:Below W.heap.size W W'):∀{ts:List TypeId} {vs:List Value} {ds:List (DataW H)} {p:List MemPlace},(∀t∈ts,P.readableRec t=true∧t<P.types.size)→DataW.TrodAll ench P W 0 (fun _=>true) true ts vs ds p→
    DataW.TrodAll ench P W' 0 (fun b=>decide (b<W.heap.size)) true ts vs ds p
 | [],vs,ds,p,_,h=>by
   cases vs with
   | nil => obtain⟨rfl,rfl⟩:ds=[]∧p=[]:=by simpa using trodAll_nil h
            exact trodAll_mk0
   |cons v vs=>exact aOx (trodAll_nil h).1 (by simp)
 | t::ts,vs,ds,p,hr,h=>by
   obtain⟨v0,vs0,d0,ds0,p0,q0,rfl,rfl,rfl,h0,r0⟩:=trodAll_cons h;obtain⟨h1,h2⟩:=hr t (by simp);have lt0:∀x∈p0,x.block<W.heap.size:=by
    obtain⟨m,hm⟩:=h0;exact DataW.trod_lt m _ _ _ hm
   exact trodAll_cons_mk (Below.trod hl h1 h2 h0 hb lt0) (Zd hl hb (fun t ht=>hr t (by simp[ht])) r0)
end
open Go.RowKit Go.Flow Go.Mem
theorem QL{P:Program}{f:FuncId}{args:List Value}{Γ:List Ad}{w:World}(h:Bd P f args Γ (fun v _=>v= .bool true))(hq:owns Γ=[])(hs:oks Γ w):Calls P f args.toArray w fun e w'=>e= .returned (.bool true)∧Ext w w':=
 (h w (Gh hq hs)).mono fun _ _ ⟨_,_,h1,h2,h3⟩=>⟨by rw[h1,h2],h3.keeps.ext fun _ _ hg=>by rw[hq]at hg;simp at hg⟩
theorem XD{c:Ad}{w:World}(h1:c.holds w):oks [c] w:=fun x hx=>by rw[aNz.1 hx];exact h1
theorem Ws{c:Ad}{Γ:List Ad}{w:World}(h1:c.holds w)(h2:oks Γ w):oks (c::Γ) w:=fun x hx=>by
 rcases aNx.1 hx with rfl|h
 ·exact h1
 ·exact h2 x h
open Go.ChangeShapes Go.WideShapes Go.ChangeAt Go.RowKit Go.Flow Go.Mem Go.Deep
open Go.RowKit Go.Flow Go.Mem
section
variable{P:Program}{o:Oper}{ρ:Bj}{Γ:List Ad}{x y:Operand}
theorem Vq{w:World}{t ty e:TypeId}{i:TypeInfo}{z:Value}(ht:P.underlying t=some (.slice e))(hi:P.info? e=some i)(hz:i.zero=some z)(b a:Addr)(n c:Nat)(news:List Value)(hl:news.length=n*i.size)(hnews:∀j v,news[j]?=some v→w.cell? (a.add j)=some v)
    (h0:0<n) (h63:(n:Int)≤9223372036854775807) (h48:n*i.bytes≤281474976710656):(Builtin.append_ #[t,t] ty #[.slice (some b) 0 0, .slice (some a) n c]).run P w=(Builtin.append_ #[t,t] ty #[.slice none 0 0, .slice (some a) n c]).run P w:=by
 rw[run_append_nil (P:=P) (w:=w) t ty e i z ht hi hz a n c news hl hnews h0 h63 h48,
  run_append_grow (P:=P) (w:=w) t ty e i z ht hi hz b 0 0 [] (by simp) (by simp) a n c news hl hnews om (by simpa using h63) (by rw[aOz,nextslicecap_zero h0];exact h48)]
 simp
theorem aT{α:Type}{enc:α→List Value}{size:Nat}(E:Enc enc size){t e:TypeId}{bytes:Nat}{zs:List Value}{A B:OA}{cb:Nat}{m:List α}(ho:o.op= .call {callee:= .builtin .append,args:=#[x,y],argTypes:=#[t,t]})(ht:Ce P t e size bytes zs)
    (hx:ev ρ x=some (.slice A 0 0)) (hy:ev ρ y=some (.slice B m.length cb)) (hs:∀w,oks Γ w→Src w B (m.flatMap enc)) (h0:0<m.length) (h63:m.length≤9223372036854775807) (hby:m.length*bytes≤140737488355328):
    Mk P o ρ Γ (fun v N=>∃A' cap',v= .slice A' m.length cap'∧N=[rows enc e size A' cap' m]):=fun a w ha hG=>by
 obtain⟨it,zv,h2,h3,h4,h5,h6⟩:=ht.inf;have hsrc:=hs w hG;have hnil:w.ownsRow 0 e size (.slice none 0 0) 0 []:=World.ownsRow_nil w 0 e size;obtain⟨v',w',hrun,h7,h8,h9⟩:=Qn (P:=P) w 0 t o.type e it zv size bytes ht.und h2 h3 h4 h5 (by rw[h6];simpa using ht.len) ht.pos _ 0 [] hnil B m.length cb (m.flatMap enc) (E.flat_len m) hsrc (E.flat_one m) (by simp only[maxLen];omega) (by rw[aOz];exact hby) (aOk _);have hrun2:(Builtin.append_ #[t,t] o.type #[.slice A 0 0, .slice B m.length cb]).run P w= .ok v' w':=by
  rw[←hrun];cases A with
  |none=>rfl
  | some b=>
    rcases hsrc with h|⟨g,off,rfl,hr⟩
    · have:=E.flat_len m
      rw[h]at this;have hp:=ht.pos;have:0<m.length*size:=Nat.mul_pos h0 hp;simp at*;omega
    ·exact Vq ht.und h2 h3 b ⟨g,off,none⟩ m.length cb (m.flatMap enc) (by rw[E.flat_len,h4]) (fun j v hv=>by rw[Addr.add_mid];exact hr j v hv) h0 om (by rw[h5];omega)
 rw[aOz,aQj]at h7;obtain⟨A',cap',rfl,_⟩:=Im h7;have hnew:∀g,g∈Ik A'→g=w.heap.size:=fun g hg=>by
  obtain⟨ad,rfl,rfl⟩:=Om.1 hg;rcases h9 with h9|h9
  ·simp[Value.ownBlock]at h9
  ·simp[Value.ownBlock]at h9;exact h9
 refine⟨_,_,w',?_,⟨A',cap',rfl,rfl⟩,⟨⟨fun c hc=>by rw[aNz.1 hc];exact h7,by cases A'<;>simp[owns,rows,row,Ik],by simp[reads,rows,row]⟩,h8.mono fun _ _ h=>by simp[Value.ownBlock]at h,fun g hg hl=>?_,by simp[reads,rows,row]⟩⟩
 · unfold execOp
   simp only[ho,resolve,invoke,builtin,aPg,aPp,aOy,List.map_toArray,aOw,aPq,ha.eval hx,ha.eval hy,hrun2]
 · have:g∈Ik A':=by simpa[owns,rows,row]using hg
   have:=hnew g this;omega
theorem Uk{t e:TypeId}{size bytes:Nat}{zs:List Value}{A B:OA}{n cap m cb:Nat}(ho:o.op= .call {callee:= .builtin .append,args:=#[x,y],argTypes:=#[t,t]})(ht:Ce P t e size bytes zs)
    (hx:ev ρ x=some (.slice A n cap)) (hy:ev ρ y=some (.slice B m cb)) (hm:m=0) (hc:n≤cap):Rd P o ρ Γ (.slice A n cap):=fun a w ha _=>by
 obtain⟨it,zv,h2,h3,h4,h5,h6⟩:=ht.inf;subst hm;have:(Builtin.append_ #[t,t] o.type #[.slice A n cap, .slice B 0 cb]).run P w= .ok (.slice A n cap) w:=by
  cases A<;>cases B<;>simp[Builtin.append_,run_underlying ht.und,sizeOf,typeInfo,h2,Builtin.lenOf,Builtin.firstCells,hc,storeCells,loadCells,loadCellsFrom]
 unfold execOp;simp only[ho,resolve,invoke,builtin,aPg,aPp,aOy,List.map_toArray,aOw,aPq,ha.eval hx,ha.eval hy,this]
theorem Zo{α:Type}{enc:α→List Value}{size:Nat}{t e:TypeId}{bytes:Nat}{zs:List Value}(ho:o.op= .buildSlice t 0 #[])(ht:Ce P t e size bytes zs):Mk P o ρ Γ (fun v N=>∃A,v= .slice A ([]:List α).length 0∧N=[rows enc e size A 0 ([]:List α)]):=Tn ho ht
end
section
variable{P:Program}{C:Cx}{ρ:Bj}{Γ:List Ad}{Q:Exit→Act→World→Prop}{o:Oper}{x y:Operand}{t t':TypeId}
theorem To.rounds{c:Code}(n:Nat)(h:To C ρ Γ (Code.rounds P c Q n)):To C ρ Γ ((Code.loop c).wp P Q):=fun a w ha hp=>wp_loop_rounds n (h a w ha hp)
theorem Rk{R:Value→List Ad→Prop}{fn:Func}{ex:Exit}{t u s:Nat}{v v' v'':Value}(hex:ex= .ret∨ex= .normal)(hres:fn.results=#[.tmp t, .tmp u, .tmp s])(hv:look ρ t=some v)(hv':look ρ u=some v')(hv'':look ρ s=some v'')(h:R (.tuple #[v,v',v'']) Γ)(hds:C.ds=[]:=by rfl):To C ρ Γ (bodyPost P fn (Fin C R) ex):=
 wC hex (fun a w ha _=>by
  unfold results;rw[hres];simp[aOp,ha.sees t v hv,ha.sees u v' hv',ha.sees s v'' hv'']) h hds
theorem gH{s:ByteArray}{j:Nat}{k:IntKind}(ho:o.op= .index t x y)(ht:P.underlying t=some .string)(hx:ev ρ x=some (.string s))(hy:ev ρ y=some (.int k (j:Int)))(hj:j<s.size):Rd P o ρ Γ (.int .u8 (s.data[j]'hj).toNat):=fun a w ha _=>by
 unfold execOp;simp[ho,ha.eval hx,ha.eval hy,Instr.index,asIntOf,run_underlying ht,hj];rfl
end
theorem kJ{P:Program}{o:Oper}{ρ:Bj}{Γ:List Ad}{x y:Operand}{t t' e:TypeId}{A:OA}{n c:Nat}(ho:o.op= .binOp .eql t x y t')(ht:P.underlying t=some (.slice e))(hx:ev ρ x=some (.slice A n c))(hy:ev ρ y=some (.slice none 0 0)):Rd P o ρ Γ (.bool A.isNone):=dw ho hx hy fun w=>by
 have key:∀d,(Op.equalIn (d+1) t (.slice A n c) (.slice none 0 0)).run P w= .ok A.isNone w:=fun d=>by
  cases A<;>simp[Op.equalIn,run_underlying ht]
 have h:(Op.equal t (.slice A n c) (.slice none 0 0)).run P w= .ok A.isNone w:=key 9999;cases A<;>simp[eqGuard,binOp,h]
theorem QM{Γ:List Ad}{w:World}{α:Type}{enc:α→List Value}{size:Nat}(E:Enc enc size)(hp:0<size){A:OA}{l:List α}(h0:0<l.length)(i:Nat)(h:Γ[i]?=some (ros enc A l))(hs:sat Γ w):A.isNone=false:=by
 rcases(show Src w A (l.flatMap enc)from hs.each _ (sN h))with h1|⟨g,off,rfl,_⟩
 · have:=E.flat_len l
   rw[h1]at this;have h2:0<l.length*size:=Nat.mul_pos h0 hp;simp at this;omega
 ·rfl
theorem KW{Γ:List Ad}{w:World}{α:Type}{enc:α→List Value}{size:Nat}(E:Enc enc size)(hp:0<size){e:TypeId}{cap:Nat}{A:OA}{l:List α}(h0:0<l.length)(i:Nat)(h:Γ[i]?=some (rows enc e size A cap l))(hs:sat Γ w):A=some ⟨blk A,ofs A,none⟩:=by
 obtain⟨A',cap',h1,h2,_⟩:=Im (show w.ownsRow 0 e size (.slice A l.length cap) l.length (l.flatMap enc)from hs.each _ (sN h));simp only[Value.slice.injEq]at h1;rw[←h1.1]at h2;rcases h2 with h3|⟨g,off,rfl,_⟩
 · have:=E.flat_len l
   rw[h3]at this;have h2:0<l.length*size:=Nat.mul_pos h0 hp;simp at this;omega
 ·rfl
theorem Ey{P:Program}{o:Oper}{ρ:Bj}{Γ:List Ad}{x y:Operand}{t e:TypeId}{size bytes:Nat}{zs:List Value}{A:OA}{n cap j:Nat}{k:IntKind}(hA:A=some ⟨blk A,ofs A,none⟩)(ho:o.op= .indexAddr t x y)(hx:ev ρ x=some (.slice A n cap))(hy:ev ρ y=some (.int k j))(ht:Ce P t e size bytes zs)(hj:j<n):Rd P o ρ Γ (.pointer (some ⟨blk A,ofs A+j*size,none⟩)):=fun a w ha _=>by
 obtain⟨it,zv,h2,h3,h4,_⟩:=ht.inf;unfold execOp;rw[hA]at hx;simp[ho,ha.eval hx,ha.eval hy,Instr.indexAt,asIntOf,run_underlying ht.und,hj,sizeOf,typeInfo,h2,h4,Addr.add_mid]
variable{P:Program}{o:Oper}{ρ:Bj}{Γ:List Ad}{x y:Operand}
def aCz(P:Program):Nat→List Field→List IntKind→Bool
 |_,[],[]=>true
 |n,f::fs,k::ks=> !(f.name== "_")&&f.offset==n&&(match P.underlying f.type with|some (.int k')=>k'==k|_=>false)&&aCz P (n+1) fs ks
 |_,_,_=>false
structure aLy(P:Program)(K:TypeId)(ks:List IntKind):Prop where
 fields:∃fs:Array Field,P.underlying K=some (.struct fs)∧aCz P 0 fs.toList ks=true
 held:P.stoodInHeld K=false
 guard:P.eqGuardType P.depth K=false
def tie:List Oper→Nat→Nat→List Oper
 |[],_,_=>[]
 |o::l,0,p=>{o with after:=o.after.push ⟨p, .data⟩}::l
 |o::l,m+1,p=>o::tie l m p
theorem sU:∀(l:List Oper) (m p:Nat),(tie l m p).length=l.length
 |[],_,_=>rfl
 |_::_,0,_=>rfl
 |_::l,m+1,p=>by simp[tie,sU l m p]
theorem aU:∀(l:List Oper) (m p i:Nat),(tie l m p)[i]?=(l[i]?).map fun o=>if i=m then{o with after:=o.after.push ⟨p, .data⟩}else o
 |[],_,_,_=>by simp[tie]
 |o::l,0,p,0=>by simp[tie]
 |o::l,0,p,i+1=>by simp[tie]
 |o::l,m+1,p,0=>by simp[tie]
 |o::l,m+1,p,i+1=>by simp[tie,aU l m p i]
section
variable{P:Program}{l:List Oper}{Q:Act→World→Prop}
theorem gI(m p:Nat)(t:Array Value):yielded (tie l m p).toArray t=yielded l.toArray t:=by
 funext j;unfold yielded;have:((tie l m p).toArray[j]?).bind (·.dst)=(l.toArray[j]?).bind (·.dst):=by
  simp only[List.getElem?_toArray,aU];cases l[j]? with
  |none=>rfl
  |some o=>simp only[Option.map_some,Option.bind_some];split<;>rfl
 rw[this]
theorem aV{m p i:Nat}{a:Act}{w:World}{K:Act→World→Prop}(h:OpI P (tie l m p).toArray i K a w):∃o,l[i]?=some o∧Hm P l.toArray o a w fun v w'=>K (a.put o.dst v) w':=by
 obtain⟨o,h1,h2⟩:=h;simp only[List.getElem?_toArray,aU,aOr]at h1;obtain⟨o',h3,h4⟩:=h1;refine⟨o',h3,?_⟩;have e1:o.dst=o'.dst:=by rw[←h4];split<;>rfl
 have e2:execOp a.eval o=execOp a.eval o':=by rw[←h4];split<;>rfl
 have e3:o.guard=o'.guard:=by rw[←h4];split<;>rfl
 unfold Hm at*;have e4:Region.wanted o' (yielded l.toArray a.tmps)=Region.wanted o (yielded (tie l m p).toArray a.tmps):=by rw[gI];unfold Region.wanted;rw[e3]
 rw[e4,←e2,←e1];exact h2
theorem Ho{ops:List Oper}{listed:Array Bool}{i:Nat}:i∈Region.ready .any ops.toArray listed↔listed.getD i true=false∧∃o,ops[i]?=some o∧∀e∈o.after,Region.binds .any e=true→listed.getD e.on false=true:=by
 rw[mem_ready];simp
theorem Fx{m p i:Nat}{listed:Array Bool}:i∈Region.ready .any (tie l m p).toArray listed↔i∈Region.ready .any l.toArray listed∧(i=m→listed.getD p false=true):=by
 rw[Ho,Ho];simp only[aU,aOr];constructor
 · rintro⟨h1,o,⟨o',h2,rfl⟩,h3⟩
   by_cases e:i=m
   · rw[aOn e]at h3
     exact⟨⟨h1,o',h2,fun e he hb=>h3 e (Array.mem_push.2 (.inl he)) hb⟩,fun _=>h3 ⟨p, .data⟩ (Array.mem_push.2 (.inr rfl)) rfl⟩
   · rw[aNy e]at h3
     exact⟨⟨h1,o',h2,h3⟩,fun h=>aOx h e⟩
 · rintro⟨⟨h1,o,h2,h3⟩,h4⟩
   refine⟨h1,_,⟨o,h2,rfl⟩,?_⟩;by_cases e:i=m
   · rw[aOn e]
     intro d hd hb;rcases Array.mem_push.1 hd with hd|rfl
     ·exact h3 d hd hb
     ·exact h4 e
   ·rw[aNy e];exact h3
theorem Zp{listed:Array Bool}{i p:Nat}(h:listed.getD p false=true):(listed.setIfInBounds i true).getD p false=true:=by
 rw[aOp]at*;rw[Array.getElem?_setIfInBounds];by_cases e:i=p
 · rw[aOn e];split
   ·rfl
   ·rename_i hn;rw[←e,Array.getElem?_eq_none om]at h;cases h
 ·rw[aNy e];exact h
theorem kK{m p:Nat}:∀(fuel:Nat) (listed:Array Bool) (a:Act) (w:World),listed.getD p false=true→Ni P (tie l m p).toArray Q fuel listed a w→Ni P l.toArray Q fuel listed a w
 | 0,listed,a,w,hp,h=>by
   refine⟨aPk.2 fun i hi=>?_,h.2⟩;have h1:=Fx (m:=m) (p:=p).2 ⟨hi,fun _=>hp⟩;rw[h.1]at h1;cases h1
 | fuel+1,listed,a,w,hp,h=>by
   refine⟨fun hr=>h.1 (aPk.2 fun i hi=>?_),fun i hi=>?_⟩
   · have h1:=(Fx.1 hi).1
     rw[hr]at h1;cases h1
   · obtain⟨o,h1,h2⟩:=aV (h.2 i (Fx.2 ⟨hi,fun _=>hp⟩))
     exact⟨o,by simpa using h1,h2.mono fun v w' hv=>kK fuel _ _ _ (Zp hp) hv⟩
theorem Ul{listed:Array Bool}{i:Nat}(h:listed.getD i true=false):(listed.setIfInBounds i true).getD i false=true:=by
 rw[aOp]at*;rw[Array.getElem?_setIfInBounds,aOn rfl];split
 ·rfl
 ·rename_i hn;rw[Array.getElem?_eq_none om]at h;cases h
end
section
variable{P:Program}{l:List Oper}{C:Cx}{ρ:Bj}{Γ:List Ad}
end
section
variable{P:Program}{o:Oper}{ρ:Bj}{Γ:List Ad}{x y:Operand}{C:Cx}{K:Act→World→Prop}{t t':TypeId}{m n:Int}
abbrev W64(n:Int):Int:=IntKind.i64.wrap n
theorem XE(ho:o.op= .unOp .neg t x)(hx:ev ρ x=some (.int .i64 m)):Rd P o ρ Γ (.int .i64 (W64 (-m))):=fun a w ha _=>by
 unfold execOp;simp[ho,ha.eval hx,Op.unary,Op.intArith]
theorem Yh{f:Nat}{fs:Array Field}{fd:Field}{vs:List Value}{v:Value}{d:TypeDesc}(ho:o.op= .field t x f)(ht:P.underlying t=some (.struct fs))(hf:fs[f]?=some fd)(hd:P.underlying fd.type=some d)(hr:d.isRow=false)(hx:ev ρ x=some (.agg vs.toArray))(hv:vs[fd.offset]?=some v):Rd P o ρ Γ v:=fun a w ha _=>by
 unfold execOp;have h1:(isAgg fd.type).run P w= .ok false w:=by
  cases d<;>simp_all [isAgg,run_underlying hd,TypeDesc.isRow]
 simp[ho,ha.eval hx,Instr.field,run_underlying ht,hf,asAgg,part,h1,hv]
theorem Um{k:IntKind}{z:Operand}{m n l:Int}{t u s:TypeId}(ho:o.op= .call {callee:= .builtin .max,args:=#[x,y,z],argTypes:=#[t,u,s]})(hx:ev ρ x=some (.int k m))(hy:ev ρ y=some (.int k n))(hz:ev ρ z=some (.int k l)):Rd P o ρ Γ (.int k (max (max m n) l)):=fun a w ha _=>by
 unfold execOp;have e1:(if m<n then n else m)=Max.max m n:=om;have e2:(if Max.max m n<l then l else Max.max m n)=Max.max (Max.max m n) l:=om;simp[ho,resolve,invoke,builtin,ha.eval hx,ha.eval hy,ha.eval hz,Builtin.max_,Builtin.max2,e1,e2]
end
section
variable{α:Type}{enc:α→List Value}
variable{C:Cx}{ρ:Bj}{Γ:List Ad}{K:Act→World→Prop}
end
section
variable{P:Program}{o:Oper}{ρ:Bj}{Γ:List Ad}{x y:Operand}{C:Cx}{ops:Array Oper}{Q:Exit→Act→World→Prop}{rest:List Oper}{v:Value}{d:Nat}
variable{α:Type}{enc:α→List Value}{size:Nat}
theorem pQ(E:Enc enc size):∀(X:List α) (i:Nat) (y:α),i<X.length→over (X.flatMap enc) (i*size) (enc y)=(X.set i y).flatMap enc
 |[],i,y,h=>by simp at h
 | x::X,0,y,_=>by
   unfold over;rw[Nat.zero_mul,List.take_zero,aOz,E.len,aPl,List.drop_append,List.drop_of_length_le (by rw[E.len];exact aOd _),E.len];simp
 | x::X,i+1,y,h=>by
   have ih:=pQ E X i y (by simpa using h);unfold over at ih⊢;have e1:(i+1)*size=size+i*size:=by rw[Nat.add_mul];omega
   rw[E.len]at ih⊢;rw[List.set_cons_succ,aPl,aPl,e1,←ih];rw[List.take_append,List.drop_append,aOq (by rw[E.len];omega),List.drop_of_length_le (by rw[E.len];omega),E.len,show size+i*size-size=i*size by omega,show size+i*size+size-size=i*size+size by omega];simp
theorem Ha(E:Enc enc size)(hpos:0<size){e:TypeId}{A:OA}{cap i:Nat}{X:List α}{y:α}(hi:i<X.length):(rows enc e size A cap X).takes (blk A) (ofs A+i*size) (enc y) (rows enc e size A cap (X.set i y)):=by
 have h:=eF (e:=e) (size:=size) (A:=A) (n:=X.length) (cap:=cap) (off:=i*size) (xs:=X.flatMap enc) (us:=enc y) (by
  rw[E.len];have:(i+1)*size≤X.length*size:=Nat.mul_le_mul_right _ hi;rw[Nat.add_mul]at this;omega) (fun h=>by have:=E.len y;rw[h]at this;simp at this;omega) (pQ E X i y hi)
 have e1:rows enc e size A cap (X.set i y)=row e size A X.length cap ((X.set i y).flatMap enc):=by simp[rows]
 rw[e1];exact h
def slAt(A:OA)(cap lo size:Nat):OA:=if cap=lo then A else A.map (·.add (lo*size))
theorem Rl{t e:TypeId}{bytes n cap lo:Nat}{zs:List Value}{A:OA}{k:IntKind}(ho:o.op= .slice t x (some y) none none)(ht:Ce P t e size bytes zs)(hx:ev ρ x=some (.slice A n cap))(hy:ev ρ y=some (.int k (lo:Int)))(hl:lo≤n):Rd P o ρ Γ (.slice (slAt A cap lo size) (n-lo) (cap-lo)):=fun a w ha _=>by
 obtain⟨i,z,h1,h2,h3,_⟩:=ht.inf;unfold execOp;simp[ho,ha.eval hx,ha.eval hy,Instr.sliceAt,run_underlying ht.und,Instr.slice,Instr.sliceBounds,Instr.sliceBound,asIntOf,hl,sizeOf,typeInfo,h1,h3,slAt]
theorem Gi{t e:TypeId}{bytes n cap hi:Nat}{zs:List Value}{A:OA}{k:IntKind}(ho:o.op= .slice t x none (some y) none)(ht:Ce P t e size bytes zs)(hx:ev ρ x=some (.slice A n cap))(hy:ev ρ y=some (.int k (hi:Int)))(hl:hi≤cap):Rd P o ρ Γ (.slice A hi cap):=fun a w ha _=>by
 obtain⟨i,z,h1,h2,h3,_⟩:=ht.inf;unfold execOp;simp[ho,ha.eval hx,ha.eval hy,Instr.sliceAt,run_underlying ht.und,Instr.slice,Instr.sliceBounds,Instr.sliceBound,asIntOf,hl,sizeOf,typeInfo,h1];intro _;cases A<;>simp[Addr.add]
theorem CB{t e:TypeId}{bytes n cap lo hi:Nat}{zs:List Value}{A:OA}{k k':IntKind}{z:Operand}(ho:o.op= .slice t x (some y) (some z) none)(ht:Ce P t e size bytes zs)(hx:ev ρ x=some (.slice A n cap))(hy:ev ρ y=some (.int k (lo:Int)))(hz:ev ρ z=some (.int k' (hi:Int)))(h0:lo≤hi)(hl:hi≤cap):Rd P o ρ Γ (.slice (slAt A cap lo size) (hi-lo) (cap-lo)):=fun a w ha _=>by
 obtain⟨i,z,h1,h2,h3,_⟩:=ht.inf;unfold execOp;simp[ho,ha.eval hx,ha.eval hy,ha.eval hz,Instr.sliceAt,run_underlying ht.und,Instr.slice,Instr.sliceBounds,Instr.sliceBound,asIntOf,hl,h0,sizeOf,typeInfo,h1,h3,slAt]
theorem wH{t e:TypeId}{n cap:Nat}{A:OA}{bytes:Nat}{zs:List Value}(ho:o.op= .slice t x none none none)(ht:Ce P t e size bytes zs)(hx:ev ρ x=some (.slice A n cap)):Rd P o ρ Γ (.slice A n cap):=fun a w ha _=>by
 obtain⟨i,z,h1,h2,h3,_⟩:=ht.inf;unfold execOp;simp[ho,ha.eval hx,Instr.sliceAt,run_underlying ht.und,Instr.slice,Instr.sliceBounds,sizeOf,typeInfo,h1];intro _;cases A<;>simp[Addr.add]
theorem Rd.nilCheck{ad:Addr}(ho:o.op= .nilCheck x)(hx:ev ρ x=some (.pointer (some ad))):Rd P o ρ Γ (.pointer (some ad)):=fun a w ha _=>by
 unfold execOp;simp[ho,ha.eval hx]
theorem sV{f:FuncId}{f1 cp:Array Value}(ho:o.op= .nilCheck x)(hx:ev ρ x=some (.func (.func f) f1 cp)):Rd P o ρ Γ (.func (.func f) f1 cp):=fun a w ha _=>by
 unfold execOp;simp[ho,ha.eval hx]
theorem Rd.makeFunc{f:FuncId}{xs ys:List Operand}{us vs:List Value}(ho:o.op= .makeFunc (.func f) xs.toArray ys.toArray)(hx:evs ρ xs=some us)(hy:evs ρ ys=some vs):Rd P o ρ Γ (.func (.func f) us.toArray vs.toArray):=fun a w ha _=>by
 unfold execOp;simp[ho,ha.evals hx,ha.evals hy,Instr.makeFunc]
theorem pR{t e:TypeId}(ht:P.underlying t=some (.pointer e))(p:OA)(w:World):(Op.equal t (.pointer p) (.pointer none)).run P w= .ok p.isNone w:=by
 have key:∀d,(Op.equalIn (d+1) t (.pointer p) (.pointer none)).run P w= .ok p.isNone w:=fun d=>by
  cases p<;>simp[Op.equalIn,run_underlying ht]
 exact key 9999
theorem Jg{t t' e:TypeId}{p:OA}(ho:o.op= .binOp .eql t x y t')(ht:P.underlying t=some (.pointer e))(hx:ev ρ x=some (.pointer p))(hy:ev ρ y=some (.pointer none)):Rd P o ρ Γ (.bool p.isNone):=dw ho hx hy fun w=>by
 have h:=pR (P:=P) ht p w;cases p<;>simp[eqGuard,binOp,h]
theorem KX{t t' e:TypeId}{p:OA}(ho:o.op= .binOp .neq t x y t')(ht:P.underlying t=some (.pointer e))(hx:ev ρ x=some (.pointer p))(hy:ev ρ y=some (.pointer none)):Rd P o ρ Γ (.bool p.isSome):=dw ho hx hy fun w=>by
 have h:=pR (P:=P) ht p w;cases p<;>simp[eqGuard,binOp,h]
theorem XF{b:Nat}{cs:List Value}{t:TypeId}(i:Nat)(h:Γ[i]?=some (box b cs t)):∀w,oks Γ w→(ro (some ⟨b,0,none⟩) cs).holds w:=fun _ hw=> .inr ⟨b,0,rfl,Ji (hw _ (sN h))⟩
end
theorem Sm{C:Cx}{ρ:Bj}{Γ:List Ad}{K:Act→World→Prop}{b:Nat}{cs:List Value}{t:TypeId}(k:To C ρ (ro (some ⟨b,0,none⟩) cs::Γ) K):To C ρ (box b cs t::Γ) K:=
 aHw (Γ:=[box b cs t]) (Γ':=[ro (some ⟨b,0,none⟩) cs]) (fun w hs c hc=>by
  rw[aNz.1 hc];exact XF (Γ:=[box b cs t]) 0 rfl w hs.each) rfl (fun g hg=>by
  refine .inl ?_;cases cs with
  |nil=>simp[reads,ro,Jc]at hg
  |cons x xs=>simpa[reads,owns,ro,Jc,Ik,box]using hg) k
theorem Bd.bare{P:Program}{f:FuncId}{vs:List Value}{Γ:List Ad}{p:Value→Prop}(h:Bd P f vs Γ (fun v _=>p v)):Bd P f vs Γ (fun v Γ'=>p v∧Γ'=[]):=fun w hs=>
 (h w hs).mono fun _ _ ⟨v,_,h1,h2,h3⟩=>⟨v,[],h1,⟨h2,rfl⟩,Db.drop (Γ':=[]) h3⟩
section
variable{C:Cx}{ρ:Bj}{K:Act→World→Prop}
end
def Ip(P:Program)(t:TypeId)(n size:Nat):Prop:=∃e i,P.underlying t=some (.array n e)∧P.info? e=some i∧i.size=size
theorem Ip.of{P:Program}{t e:TypeId}{n size:Nat}(h:P.underlying t=some (.array n e))(h1:(P.info? e).map (·.size)=some size):Ip P t n size:=by
 obtain⟨i,h2,h3⟩:=aOr.1 h1;exact⟨e,i,h,h2,h3⟩
theorem Cz{P:Program}{o:Oper}{ρ:Bj}{Γ:List Ad}{x y:Operand}{t:TypeId}{n size b off j:Nat}{k:IntKind}(ho:o.op= .indexAddr t x y)(ht:Ip P t n size)(hx:ev ρ x=some (.pointer (some ⟨b,off,none⟩)))(hy:ev ρ y=some (.int k (j:Int)))(hj:j<n):Rd P o ρ Γ (.pointer (some ⟨b,off+j*size,none⟩)):=fun a w ha _=>by
 obtain⟨e,i,h1,h2,h3⟩:=ht;unfold execOp;simp[ho,ha.eval hx,ha.eval hy,Instr.indexAt,asIntOf,run_underlying h1,Instr.sureAddr,hj,sizeOf,typeInfo,h2,h3,Addr.add_mid]
section
variable{P:Program}{o:Oper}{ρ:Bj}{Γ:List Ad}{x y:Operand}
theorem XG{t t':TypeId}{b c:Bool}(ho:o.op= .binOp .eql t x y t')(ht:P.underlying t=some .bool)(hx:ev ρ x=some (.bool b))(hy:ev ρ y=some (.bool c)):Rd P o ρ Γ (.bool (b==c)):=dw ho hx hy fun w=>by
 have key:∀d,(Op.equalIn (d+1) t (.bool b) (.bool c)).run P w= .ok (b==c) w:=fun d=>by simp[Op.equalIn,run_underlying ht]
 have h:(Op.equal t (.bool b) (.bool c)).run P w= .ok (b==c) w:=key 9999;simp[eqGuard,binOp,h]
theorem To.take{C:Cx}{K:Act→World→Prop}{α:Type}{enc:α→List Value}{A:OA}{l:List α}(k i:Nat)(hi:Γ[i]?=some (ros enc A l))(h:To C ρ (ros enc A (l.take k)::Γ) K):To C ρ Γ K:=by
 have e1:l.flatMap enc=(l.take k).flatMap enc++(l.drop k).flatMap enc:=by rw[←aPm,aPn]
 refine Yg (ros enc A (l.take k)) rfl (fun g hg=>Tp i hi ?_) (fun w hw=>?_) h
 · have h1:g∈Jc A ((l.take k).flatMap enc):=hg
   show g∈Jc A (l.flatMap enc);cases h2:(l.take k).flatMap enc with
   |nil=>rw[h2]at h1;simp[Jc]at h1
   |cons u us=>rw[e1,h2];rw[h2]at h1;exact h1
 · have h1:Src w A (l.flatMap enc):=hw _ (sN hi)
   show Src w A ((l.take k).flatMap enc);rcases h1 with h1|⟨g,off,rfl,h1⟩
   ·rw[h1]at e1;exact .inl (List.append_eq_nil_iff.1 e1.symm).1
   · refine .inr ⟨g,off,rfl,fun j v hv=>h1 j v ?_⟩
     rw[e1,aOu (aNr.1 hv).1];exact hv
end
theorem Rd.max{P:Program}{o:Oper}{ρ:Bj}{Γ:List Ad}{x y:Operand}{k:IntKind}{m n:Int}{t u:TypeId}(ho:o.op= .call {callee:= .builtin .max,args:=#[x,y],argTypes:=#[t,u]})(hx:ev ρ x=some (.int k m))(hy:ev ρ y=some (.int k n)):Rd P o ρ Γ (.int k (max m n)):=fun a w ha _=>by
 unfold execOp;have e1:(if m<n then n else m)=Max.max m n:=om;simp[ho,resolve,invoke,builtin,ha.eval hx,ha.eval hy,Builtin.max_,Builtin.max2,e1]
theorem Tf{P:Program}{C:Cx}{ρ:Bj}{Γ Δ E:List Ad}{R:Value→List Ad→Prop}{fn:Func}{ex:Exit}{t b n i u:Nat}{ty ty':TypeId}{cs:List Value}{v:Value}(is:List Nat)(hpl:Ui Γ is=some (Δ,E))(hex:ex= .ret∨ex= .normal)(hres:fn.results=#[.cell t ty, .tmp u])(hv:look ρ t=some (pv b))
    (hi:Γ[i]?=some (box b cs ty')) (ht:Ff P ty n) (hl:cs.length=n) (hu:look ρ u=some v) (h:R (.tuple #[.agg cs.toArray,v]) Δ) (hds:C.ds=[]:=by rfl):To C ρ Γ (bodyPost P fn (Fin C R) ex):=fun a w ha hp=>by
 have hr:(results fn a.tmps).run P w= .ok (.tuple #[.agg cs.toArray,v]) w:=by
  obtain⟨d,h1,h2,h3⟩:=ht;have hw:=hp.sat.each _ (sN hi);have:=run_loadVar_mid (P:=P) w b 0 ty cs d (Ji hw) h1 h2 (by rw[hl];exact h3);have he:a.tmps[t]?.getD undef=pv b:=by rw[ha.sees t _ hv];rfl
  have he2:a.tmps[u]?.getD undef=v:=by rw[ha.sees u _ hu];rfl
  simp[results,hres,he,he2,asAddr,this]
 have hq:Db C.Γ0 Δ C.w0 w:=(hp.perm (Jv hpl)).drop;rcases hex with rfl|rfl
 ·exact⟨ha.defers.trans hds,_,hr,_,Δ,rfl,h,hq⟩
 ·exact⟨ha.defers.trans hds,_,hr,_,Δ,rfl,h,hq⟩
section
variable{P:Program}{o:Oper}{ρ:Bj}{Γ Γ':List Ad}{C:Cx}{ops:Array Oper}{Q:Exit→Act→World→Prop}{rest:List Oper}{v:Value}{d:Nat}{x:Operand}
theorem Jr(h:Rd P o ρ Γ v)(k:To C ((d,v)::ρ) Γ (wpList P ops Q rest))(hg:grd ops ρ o=some true:=by rfl)(hd:o.dst=some d:=by rfl)(hn:Nat.blt d C.n=true:=by rfl):To C ρ Γ (wpList P ops Q (o::rest)):=To.rd hg hd hn h k
theorem Jm(k:To C ((d,v)::ρ) Γ (wpList P ops Q rest))(hg:grd ops ρ o=some true:=by rfl)(hd:o.dst=some d:=by rfl)(hn:Nat.blt d C.n=true:=by rfl)(ho:o.op= .move x:=by rfl)(hx:ev ρ x=some v:=by rfl):To C ρ Γ (wpList P ops Q (o::rest)):=To.rd hg hd hn (dn ho hx) k
theorem Ja(k:To C ((d,v)::ρ) Γ (wpList P ops Q rest))(hg:grd ops ρ o=some true:=by rfl)(hd:o.dst=some d:=by rfl)(hn:Nat.blt d C.n=true:=by rfl)(ho:o.op= .assign x:=by rfl)(hx:ev ρ x=some v:=by rfl):To C ρ Γ (wpList P ops Q (o::rest)):=To.rd hg hd hn (Rd.assign ho hx) k
theorem To.k(k:To C ((d,undef)::ρ) Γ (wpList P ops Q rest))(hg:grd ops ρ o=some false:=by rfl)(hd:o.dst=some d:=by rfl)(hn:Nat.blt d C.n=true:=by rfl):To C ρ Γ (wpList P ops Q (o::rest)):=Jsk hg hd hn k
theorem To.u(h:Up P o ρ Γ Γ')(k:To C ρ Γ' (wpList P ops Q rest))(hg:grd ops ρ o=some true:=by rfl)(hd:o.dst=none:=by rfl):To C ρ Γ (wpList P ops Q (o::rest)):=Jup hg hd h k
theorem To.f{s f j b off:Nat}(hf:Qx P s f j)(k:To C ((d, .pointer (some ⟨b,off+j,none⟩))::ρ) Γ (wpList P ops Q rest))(hg:grd ops ρ o=some true:=by rfl)(hd:o.dst=some d:=by rfl)(hn:Nat.blt d C.n=true:=by rfl)(ho:o.op= .fieldAddr s x f:=by rfl)(hx:ev ρ x=some (.pointer (some ⟨b,off,none⟩)):=by rfl):To C ρ Γ (wpList P ops Q (o::rest)):=To.rd hg hd hn (Rd.field ho hx hf) k
theorem JpF{y z:Operand}(k:To C ((d,v)::ρ) Γ (wpList P ops Q rest))(hg:grd ops ρ o=some true:=by rfl)(hd:o.dst=some d:=by rfl)(hn:Nat.blt d C.n=true:=by rfl)(ho:o.op= .pick x y z:=by rfl)(hx:ev ρ x=some (.bool false):=by rfl)(hz:ev ρ z=some v:=by rfl):To C ρ Γ (wpList P ops Q (o::rest)):=To.rd hg hd hn (kG ho hx hz) k
theorem JpT{y z:Operand}(k:To C ((d,v)::ρ) Γ (wpList P ops Q rest))(hg:grd ops ρ o=some true:=by rfl)(hd:o.dst=some d:=by rfl)(hn:Nat.blt d C.n=true:=by rfl)(ho:o.op= .pick x y z:=by rfl)(hx:ev ρ x=some (.bool true):=by rfl)(hy:ev ρ y=some v:=by rfl):To C ρ Γ (wpList P ops Q (o::rest)):=To.rd hg hd hn (kF ho hx hy) k
theorem To.eq{y:Operand}{t t':TypeId}{k':IntKind}{m n:Int}(k:To C ((d, .bool (decide (m=n)))::ρ) Γ (wpList P ops Q rest))(hg:grd ops ρ o=some true:=by rfl)(hd:o.dst=some d:=by rfl)(hn:Nat.blt d C.n=true:=by rfl)(ho:o.op= .binOp .eql t x y t':=by rfl)(hx:ev ρ x=some (.int k' m):=by rfl)(hy:ev ρ y=some (.int k' n):=by rfl):To C ρ Γ (wpList P ops Q (o::rest)):=To.rd hg hd hn (Rd.eql ho hx hy) k
theorem Jlt{y:Operand}{t t':TypeId}{k':IntKind}{m n:Int}(k:To C ((d, .bool (decide (m<n)))::ρ) Γ (wpList P ops Q rest))(hg:grd ops ρ o=some true:=by rfl)(hd:o.dst=some d:=by rfl)(hn:Nat.blt d C.n=true:=by rfl)(ho:o.op= .binOp .lss t x y t':=by rfl)(hx:ev ρ x=some (.int k' m):=by rfl)(hy:ev ρ y=some (.int k' n):=by rfl):To C ρ Γ (wpList P ops Q (o::rest)):=To.rd hg hd hn (Rd.lss ho hx hy) k
theorem To.le{y:Operand}{t t':TypeId}{k':IntKind}{m n:Int}(k:To C ((d, .bool (decide (m≤n)))::ρ) Γ (wpList P ops Q rest))(hg:grd ops ρ o=some true:=by rfl)(hd:o.dst=some d:=by rfl)(hn:Nat.blt d C.n=true:=by rfl)(ho:o.op= .binOp .leq t x y t':=by rfl)(hx:ev ρ x=some (.int k' m):=by rfl)(hy:ev ρ y=some (.int k' n):=by rfl):To C ρ Γ (wpList P ops Q (o::rest)):=To.rd hg hd hn (Rd.leq ho hx hy) k
theorem Jnc{ad:Addr}(k:To C ((d, .pointer (some ad))::ρ) Γ (wpList P ops Q rest))(hg:grd ops ρ o=some true:=by rfl)(hd:o.dst=some d:=by rfl)(hn:Nat.blt d C.n=true:=by rfl)(ho:o.op= .nilCheck x:=by rfl)(hx:ev ρ x=some (.pointer (some ad)):=by rfl):To C ρ Γ (wpList P ops Q (o::rest)):=To.rd hg hd hn (Rd.nilCheck ho hx) k
end
section
variable{P:Program}{T:Tel}{l:List Oper}{Θ Γ Γ':List Ad}{Q:Act→World→Prop}{ms:List Ep}{C:Cx}{ρ:Bj}{N:News}{i d:Nat}{deps:List Nat}{o:Oper}{v:Value}
theorem df(ho:l[i]?=some o)(h:Rd P o ρ Θ v)(k:Dt P T l Θ Q ms C ((d,v)::ρ) Γ N)(hg:grd l.toArray ρ o=some true:=by rfl)(hd:o.dst=some d:=by rfl)(hn:Nat.blt d C.n=true:=by rfl):Dt P T l Θ Q (⟨i,deps,0⟩::ms) C ρ Γ N:=Nt ho hg hd hn h k
theorem Ki(ho:l[i]?=some o)(h:Rd P o ρ (avail N deps++Γ) v)(k:Dt P T l Θ Q ms C ((d,v)::ρ) Γ N)(hg:grd l.toArray ρ o=some true:=by rfl)(hd:o.dst=some d:=by rfl)(hn:Nat.blt d C.n=true:=by rfl):Dt P T l Θ Q (⟨i,deps,1⟩::ms) C ρ Γ N:=Fw.rd ho hg hd hn h k
variable{x:Operand}
theorem Sn(k:Dt P T l Θ Q ms C ((d,v)::ρ) Γ N)(hl:l[i]?=some o:=by rfl)(hg:grd l.toArray ρ o=some true:=by rfl)(hd:o.dst=some d:=by rfl)(hn:Nat.blt d C.n=true:=by rfl)(ho:o.op= .move x:=by rfl)(hx:ev ρ x=some v:=by rfl):Dt P T l Θ Q (⟨i,deps,0⟩::ms) C ρ Γ N:=Nt hl hg hd hn (dn ho hx) k
end
theorem Uo{C:Cx}{P:Program}{ρ:Bj}{Γ:List Ad}{Q:Exit→Act→World→Prop}{T:Type}{c:Code}{K:Act→World→Prop}(F:T→Bj×List Ad)(p:T→Prop)(h:To C ρ Γ (c.wp P (Exit.then (fun a w=>∃t,p t∧Has C.n C.ds (F t).1 a∧Db C.Γ0 (F t).2 C.w0 w) Q)))(k:∀t,p t→To C (F t).1 (F t).2 K):To C ρ Γ (c.wp P (Exit.then K Q)):=fun a w ha hp=>
 Code.wp_mono (fun e a w hq=>by
  cases e with
  |normal=>obtain⟨t,h1,h2,h3⟩:=hq;exact k t h1 a w h2 h3
  |exit id=>exact hq
  |goto l=>exact hq
  |ret=>exact hq
  |panic ch=>exact hq
  |outgrown=>exact hq) (h a w ha hp)
section plain
variable{κ β:Type} [DecidableEq κ]
def We:List (κ×β)→κ→β→List (κ×β)
 |[],x,v=>[(x,v)]
 |(k,u)::r,x,v=>if x=k then(x,v)::r else(k,u)::We r x v
def Rm:List (κ×β)→κ→Option (Nat×β)
 |[],_=>none
 |(k,v)::r,x=>if x=k then some (0,v)else(Rm r x).map fun p=>(p.1+1,p.2)
end plain
structure kL(P:Program)(K:TypeId){κ:Type} [DecidableEq κ](ek:κ→Value):Prop where
 same:∀a b w,(Op.equal K (ek a) (ek b)).run P w= .ok (decide (a=b)) w
 now:∀d,P.underlying K=some d→(∀a b,Instr.sameNow d (ek a) (ek b)=none)∨∀a b,Instr.sameNow d (ek a) (ek b)=some (decide (a=b))
 und:∃d,P.underlying K=some d
 check:∀e a w,(Instr.checkKey e 10000 K (ek a)).run P w= .ok () w
 bits:∀a,Instr.sameBits 10000 (ek a) (ek a)=true
def Jp{κ β:Type}(ek:κ→Value)(evl:β→Value)(m:List (κ×β)):List (Value×Value):=m.map fun p=>(ek p.1,evl p.2)
def entries(es:List MapEntry):List (Value×Value):=es.map fun e=>(e.key,e.val)
theorem sW{κ β:Type}{ek:κ→Value}{evl:β→Value}{d:TypeDesc}(x:κ)(hn:∀a b,Instr.sameNow d (ek a) (ek b)=none):∀(es:List MapEntry) (m:List (κ×β)) (i:Nat),entries es=Jp ek evl m→es≠[]→Instr.findNow d (ek x) es i=none
 |[],_,_,_,h=>(h rfl).elim
 |e::es,[],i,h,_=>by simp[entries,Jp]at h
 | e::es,(k,v)::m,i,h,_=>by
   simp only[entries,Jp,List.map_cons,List.cons.injEq,Prod.mk.injEq]at h;unfold Instr.findNow;rw[h.1.1,hn x k]
def Za{κ β:Type}(ek:κ→Value)(evl:β→Value)(b:Nat)(m:List (κ×β)):Ad where
 owns:=[b]
 reads:=[]
 holds w:=∃es clock,w.heap[b]?=some (.map es clock)∧entries es.toList=Jp ek evl m
 loc w w' h hw:=by rw[h b (.inl (by simp))];exact hw
 lt w hw g hg:=by
  obtain⟨es,clock,h,_⟩:=hw;simp only[List.mem_singleton,List.not_mem_nil,or_false]at hg;subst hg;exact lt_of_block h
section
variable{P:Program}{K:TypeId}{κ β:Type} [DecidableEq κ]{ek:κ→Value}{evl:β→Value}
theorem Wt(hK:kL P K ek)(x:κ)(w:World):∀(es:List MapEntry) (m:List (κ×β)) (i:Nat),entries es=Jp ek evl m→(Instr.findAsking K (ek x) es i).run P w= .ok ((Rm m x).map fun p=>(p.1+i,evl p.2)) w
 |[],[],i,_=>by simp[Instr.findAsking,Rm]
 |[],_::_,i,h=>by simp[entries,Jp]at h
 |_::_,[],i,h=>by simp[entries,Jp]at h
 | e ::es,(k,v)::m,i,h=>by
   simp only[entries,Jp,List.map_cons,List.cons.injEq,Prod.mk.injEq]at h;obtain⟨⟨h1,h2⟩,h3⟩:=h;have ih:=Wt hK x w es m (i+1) h3;unfold Instr.findAsking;rw[Sem.run_bind,h1,hK.same x k w];by_cases hx:x=k
   ·simp[Rm,hx,h2]
   · simp only[Result.andThen_ok,decide_eq_false hx,Bool.false_eq_true,if_false,ih,Rm,if_neg hx,Option.map_map]
     congr 2;funext p;simp only[Function.comp_def];congr 1;omega
theorem aW{d:TypeDesc}(x:κ)(hn:∀a b,Instr.sameNow d (ek a) (ek b)=some (decide (a=b))):∀(es:List MapEntry) (m:List (κ×β)) (i:Nat),entries es=Jp ek evl m→Instr.findNow d (ek x) es i=some ((Rm m x).map fun p=>(p.1+i,evl p.2))
 |[],[],_,_=>by simp[Instr.findNow,Rm]
 |[],_::_,_,h=>by simp[entries,Jp]at h
 |_::_,[],_,h=>by simp[entries,Jp]at h
 | e ::es,(k,v)::m,i,h=>by
   simp only[entries,Jp,List.map_cons,List.cons.injEq,Prod.mk.injEq]at h;obtain⟨⟨h1,h2⟩,h3⟩:=h;have ih:=aW x hn es m (i+1) h3;unfold Instr.findNow;rw[h1,hn x k];by_cases hx:x=k
   ·simp[Rm,hx,h2]
   · simp only[decide_eq_false hx,ih,Rm,if_neg hx,Option.map_map]
     congr 2;funext p;simp only[Function.comp_def];congr 1;omega
theorem run_findKey(hK:kL P K ek)(x:κ)(w:World)(es:List MapEntry)(m:List (κ×β))(h:entries es=Jp ek evl m):(Instr.findKey K (ek x) es).run P w= .ok ((Rm m x).map fun p=>(p.1,evl p.2)) w:=by
 obtain⟨d,hd⟩:=hK.und;unfold Instr.findKey;rw[Sem.run_bind,run_underlying hd];simp only[Result.andThen_ok];rcases hK.now d hd with hn|hn
 · cases es with
   | nil=>
     cases m with
     |nil=>simp[Instr.findNow,Rm]
     |cons p m=>simp[entries,Jp]at h
   | cons e es=>
     rw[sW x hn (e::es) m 0 h (by simp)];have:=Wt hK x w (e::es) m 0 h;simpa using this
 · rw[aW x hn es m 0 h]
   simp
variable{o:Oper}{ρ:Bj}{Γ:List Ad}{x y z:Operand}{t E:TypeId}{b i:Nat}{m:List (κ×β)}{k:κ}
theorem Ze{κ β:Type}(ek:κ→Value)(evl:β→Value)(ho:o.op= .makeMap t none):Mk P o ρ Γ (fun v N=>∃r,v= .map (some r)∧N=[Za ek evl r []]):=fun a w _ _=>by
 refine⟨_,_,w.alloc (.map #[] 0),?_,⟨w.heap.size,rfl,rfl⟩,Db.new ⟨#[],0,heap_alloc_new _ _,rfl⟩ rfl rfl⟩;unfold execOp;simp[ho,Instr.makeMap]
theorem aX(x:κ)(v:β):∀(es:List MapEntry) (m:List (κ×β)),entries es=Jp ek evl m→(∀c,Rm m x=none→entries (es++[{key:=ek x,val:=evl v,born:=c}])=Jp ek evl (We m x v))∧∀j u,Rm m x=some (j,u)→entries (es.modify j fun e=>{e with key:=ek x,val:=evl v})=Jp ek evl (We m x v)
 |[],[],_=>⟨fun _ _=>rfl,fun _ _ h=>by simp[Rm]at h⟩
 |[],_::_,h=>by simp[entries,Jp]at h
 |_::_,[],h=>by simp[entries,Jp]at h
 | e ::es,(k,u)::m,h=>by
   simp only[entries,Jp,List.map_cons,List.cons.injEq,Prod.mk.injEq]at h;obtain⟨⟨h1,h2⟩,h3⟩:=h;obtain⟨ih1,ih2⟩:=aX x v es m h3;by_cases hx:x=k
   · refine⟨fun c hn=>by simp[Rm,hx]at hn,fun j u' hj=>?_⟩
     simp only[Rm,if_pos hx,Option.some.injEq,Prod.mk.injEq]at hj;obtain⟨rfl,_⟩:=hj;simp only[We,if_pos hx,List.modify_zero_cons,entries,Jp,List.map_cons];exact congrArg _ h3
   · refine⟨fun c hn=>?_,fun j u' hj=>?_⟩
     · simp only[Rm,if_neg hx,Option.map_eq_none_iff]at hn
       have:=ih1 c hn;simp only[entries,Jp,We,if_neg hx,List.cons_append,List.map_cons,h1,h2]at this⊢;rw[this]
     · simp only[Rm,if_neg hx]at hj
       obtain⟨⟨j',u''⟩,hj',he⟩:=Option.map_eq_some_iff.1 hj;simp only[Prod.mk.injEq]at he;obtain⟨rfl,rfl⟩:=he;have:=ih2 j' u'' hj';simp only[entries,Jp,We,if_neg hx,List.modify_succ_cons,List.map_cons,h1,h2]at this⊢;rw[this]
theorem wI(x:κ):∀(es:List MapEntry) (m:List (κ×β)) (j:Nat) (u:β),entries es=Jp ek evl m→Rm m x=some (j,u)→(es[j]?).map (·.key)=some (ek x)
 |[],[],_,_,_,h=>by simp[Rm]at h
 |[],_::_,_,_,h,_=>by simp[entries,Jp]at h
 |_::_,[],_,_,h,_=>by simp[entries,Jp]at h
 | e ::es,(k,v)::m,j,u,h,hj=>by
   simp only[entries,Jp,List.map_cons,List.cons.injEq,Prod.mk.injEq]at h;obtain⟨⟨h1,h2⟩,h3⟩:=h;by_cases hx:x=k
   · simp only[Rm,if_pos hx,Option.some.injEq,Prod.mk.injEq]at hj
     obtain⟨rfl,_⟩:=hj;simp[h1,hx]
   · simp only[Rm,if_neg hx]at hj
     obtain⟨⟨j',u''⟩,hj',he⟩:=Option.map_eq_some_iff.1 hj;simp only[Prod.mk.injEq]at he;obtain⟨rfl,rfl⟩:=he;simpa using wI x es m j' u'' h3 hj'
theorem Up.mapUpdate(hK:kL P K ek){v:β}(ho:o.op= .mapUpdate t x y z)(ht:P.underlying t=some (.map K E))(hx:ev ρ x=some (.map (some b)))(hy:ev ρ y=some (ek k))(hz:ev ρ z=some (evl v))(hi:Γ[i]?=some (Za ek evl b m)):Up P o ρ Γ (Γ.set i (Za ek evl b (We m k v))):=fun a w ha hs=>by
 obtain⟨es,clock,h1,h2⟩:=hs.each _ (sN hi);have hf:=run_findKey (evl:=evl) hK k w es.toList m h2;obtain⟨g1,g2⟩:=aX (ek:=ek) (evl:=evl) k v es.toList m h2;have hlt:=lt_of_block h1;have key:∃es' clock',(Instr.mapUpdate t (.map (some b)) (ek k) (evl v)).run P w= .ok () {w with heap:=w.heap.setIfInBounds b (.map es' clock')}∧entries es'.toList=Jp ek evl (We m k v):=by
  cases hj:Rm m k with
  | none=>
    refine⟨es.push {key:=ek k,val:=evl v,born:=clock},clock+1,?_,by rw[Array.toList_push];exact g1 clock hj⟩;simp[Instr.mapUpdate,run_underlying ht,getObj,setObj,Sem.run,h1,hK.check,hf,hj]
  | some p=>
    obtain⟨j,u⟩:=p;have hk:=wI (ek:=ek) (evl:=evl) k es.toList m j u h2 hj;have hk':((es[j]?).map (·.key)).getD (ek k)=ek k:=by
     rw[Array.getElem?_toList]at hk;rw[hk];rfl
    refine⟨es.modify j fun e=>{e with key:=ek k,val:=evl v},clock,?_,by rw[Array.toList_modify];exact g2 j u hj⟩;simp[Instr.mapUpdate,run_underlying ht,getObj,setObj,Sem.run,h1,hK.check,hf,hj,hk',Instr.keyThatStays,hK.bits]
 obtain⟨es',clock',hrun,h3⟩:=key;have hpost:Db [Za ek evl b m] [Za ek evl b (We m k v)] w {w with heap:=w.heap.setIfInBounds b (.map es' clock')}:=by
  refine⟨⟨fun c hc=>?_,by simp[owns,Za],by simp[reads,Za]⟩,?_,?_,by simp[reads,Za]⟩
  · rw[List.mem_singleton.1 hc]
    exact⟨es',clock',by simp[hlt],h3⟩
  · refine⟨rfl,rfl,rfl,by simp,fun g _ hg=>?_,Nat.le_refl _⟩
    have:b≠g:=fun e=>hg (by simp[owns,Za,e]);simp[this]
  · intro g hg _
    simpa[owns,Za]using hg
 refine⟨_,?_,Db.set hi hs hpost⟩;unfold execOp;simp only[ho,ha.eval hx,ha.eval hy,ha.eval hz,Sem.run_bind,hrun,Result.andThen_ok,Sem.run_pure]
end
variable{P:Program}{o:Oper}{ρ:Bj}{Γ:List Ad}{x y:Operand}
structure Three(P:Program)(K:TypeId):Prop where
 fields:∃e f g h,P.underlying K=some (.struct #[f,g,h])∧P.underlying e=some (.int .i64)∧(f.name≠ "_" ∧f.type=e∧f.offset=0)∧(g.name≠ "_" ∧g.type=e∧g.offset=1)∧(h.name≠ "_" ∧h.type=e∧h.offset=2)
 held:P.stoodInHeld K=false
 guard:P.eqGuardType P.depth K=false
theorem Cs{v v':Value}(e:v=v')(h:Rd P o ρ Γ v):Rd P o ρ Γ v':=e▸h
section
variable{P:Program}{o:Oper}{ρ:Bj}{Γ:List Ad}{x y:Operand}{a b:Nat}{t t':TypeId}
theorem Mc{k:IntKind}(ho:o.op= .binOp .rem t x y t')(hx:ev ρ x=some (.int k (a:Int)))(hy:ev ρ y=some (.int k (b:Int)))(hb:0<b):Rd P o ρ Γ (.int k ((a%b:Nat):Int)):=by
 have:=Rd.rem (P:=P) (Γ:=Γ) ho hx hy om om;rwa[←Int.natCast_emod]at this
theorem Gq(ho:o.op= .binOp .add t x y t')(hx:ev ρ x=some (.int .i64 (a:Int)))(hy:ev ρ y=some (.int .i64 (b:Int)))(h:a+b<9223372036854775808):Rd P o ρ Γ (nv (a+b)):=by
 have:=Io (P:=P) (Γ:=Γ) ho hx hy om;rwa[←Int.natCast_add]at this
theorem Sq{α:Type}{enc:α→List Value}{z:α}{e:TypeId}{bytes n:Nat}{kl kc:IntKind}(hz:(enc z).length=1)(ho:o.op= .makeSlice t x y)(ht:Ce P t e 1 bytes (enc z))(hx:ev ρ x=some (.int kl (n:Int)))(hy:ev ρ y=some (.int kc (n:Int)))(hb:bytes*n≤281474976710656)(hc:n≤maxLen):
    Mk P o ρ Γ (fun v N=>∃b,v= .slice (some ⟨b,0,none⟩) (List.replicate n z).length n∧N=[rows enc e 1 (some ⟨b,0,none⟩) n (List.replicate n z)]):=by
 have h:=kH (P:=P) (Γ:=Γ) ho ht hx hy hb hc;intro a w ha hs;obtain⟨v,N,w',h1,⟨b,h2,h3⟩,h4⟩:=h a w ha hs;refine⟨v,N,w',h1,⟨b,by rw[h2,List.length_replicate],?_⟩,h4⟩;rw[h3,Wp _ n hz];unfold rows;rw[List.length_replicate];rw[List.flatMap_def,List.map_replicate]
end
def all(cs:List Ad):Ad where
 owns:=owns cs
 reads:=reads cs
 holds w:=sat cs w
 loc w w' h hw:=⟨fun c hc=>c.loc w w' (fun g hg=>h g (hg.imp (fun x=>Ri.2 ⟨c,hc,x⟩) (fun x=>dm.2 ⟨c,hc,x⟩))) (hw.each c hc),hw.nodup,hw.apart⟩
 lt _ hw _ hg:=hg.elim (fun h=>hw.lt_own h) (fun h=>hw.lt_read h)
theorem Rp(cs Γ:List Ad):owns (all cs::Γ)=owns (cs++Γ):=by rw[Dk];rfl
theorem Tq(cs Γ:List Ad):reads (all cs::Γ)=reads (cs++Γ):=by rw[Ez];rfl
theorem Yi{cs Γ:List Ad}{w:World}:sat (all cs::Γ) w↔sat (cs++Γ) w:=by
 constructor
 · intro h
   refine⟨fun c hc=>?_,by rw[←Rp];exact h.nodup,by rw[←Rp,←Tq];exact h.apart⟩;rcases List.mem_append.1 hc with h1|h1
   ·exact(h.each (all cs) (List.mem_cons_self ..)).each c h1
   ·exact h.each c (List.mem_cons_of_mem _ h1)
 · intro h
   refine⟨fun c hc=>?_,by rw[Rp];exact h.nodup,by rw[Rp,Tq];exact h.apart⟩;rcases List.mem_cons.1 hc with rfl|h1
   ·exact h.left
   ·exact h.each c (List.mem_append_right _ h1)
section
variable{C:Cx}{ρ:Bj}{Γ:List Ad}{K:Act→World→Prop}{cs:List Ad}{c:Ad}
theorem CE(k:To C ρ (cs++Γ) K):To C ρ (all cs::Γ) K:=fun a w ha hq=>
 k a w ha ⟨Yi.1 hq.sat,hq.keeps,fun g hg=>hq.own g (by rw[Rp];exact hg),fun g hg=>hq.rd g (by rw[Tq];exact hg)⟩
theorem CF(k:To C ρ (all cs::Γ) K):To C ρ (cs++Γ) K:=fun a w ha hq=>
 k a w ha ⟨Yi.2 hq.sat,hq.keeps,fun g hg=>hq.own g (by rw[←Rp];exact hg),fun g hg=>hq.rd g (by rw[←Tq];exact hg)⟩
theorem Hz(k:To C ρ (all []::Γ) K):To C ρ Γ K:=gG rfl rfl (fun w=>sat.nil w) k
end
theorem GU{Γ cs:List Ad}(i:Nat)(h:Γ[i]?=some (all cs)){c:Ad}(hc:c∈cs):∀w,oks Γ w→c.holds w:=fun _ hw=>sat.each (hw _ (sN h)) c hc
end Go.Sep
