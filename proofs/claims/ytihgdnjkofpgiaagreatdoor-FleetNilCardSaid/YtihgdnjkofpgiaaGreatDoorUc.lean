/- Merged out of Y3, Y4, Y5, Pw, J0 by merge.py. Own text. -/
import Derived.Test.YtihgdnjkofpgiaaGreatDoorYa
import Derived.Test.YtihgdnjkofpgiaaGreatDoorA16
import Derived.Lib.MakeNoZero
import Derived.Laws.IdiomCopy
set_option linter.unusedVariables false
set_option linter.unusedSimpArgs false
set_option maxHeartbeats 2000000
set_option maxRecDepth 100000
namespace Go.Proofs.YtihgdnjkofpgiaaGreatDoor
open Go.RowKit Go.Flow Go.Mem Go.Sep Go.In
theorem bs22:In.ByteSl Tryz.prog 22 5:=In.byteSl_ok (by kernel_rfl)
theorem inf150:∃j,Tryz.prog.info? 150=some j∧j.size≠0:=by
 have h:(Tryz.prog.info? 150).map (fun j=>Nat.blt 0 j.size)=some true:=by kernel_rfl
 obtain⟨j,h1,h2⟩:=Option.map_eq_some_iff.1 h
 exact⟨j,h1,fun e=>by rw[e]at h2;cases h2⟩
theorem cc0_fn(b:Nat)(A:Option Addr)(n q:Nat):
    Does Tryz.prog 97 [pv b] [box b [.pointer none, .slice A n q] 150] (fun v Γ'=>v= .tuple #[]∧Γ'=[box b [pv b, .slice A n q] 150]):=by
 obtain⟨j0,hj0,hz0⟩:=inf150
 refine Does.enter Tryz.func97 rfl Tryz.ntmps97 rfl (fun w0=>?_)
 refine To.z 6 ?_
 refine To.r (Rd.eqlNil rfl Tryz.underlying148 rfl rfl) ?_
 refine To.z 6 ?_
 refine To.r (Rd.toU (i:=0) rfl Tryz.underlying148 Tryz.underlying265 hj0 hz0 rfl rfl (by simp)) ?_
 refine To.r (Rd.same rfl (same_ok 136 rfl) rfl) ?_
 refine To.r (Rd.fromU (i:=0) rfl Tryz.underlying265 Tryz.underlying148 hj0 rfl rfl (by kernel_rfl)) ?_
 refine To.z 4 ?_
 refine To.end0 (.inr rfl) Tryz.results97 ?_
 exact⟨rfl,rfl⟩
theorem cc1_fn(b:Nat)(A:Option Addr)(n q:Nat):
    Does Tryz.prog 97 [pv b] [box b [pv b, .slice A n q] 150] (fun v Γ'=>v= .tuple #[]∧Γ'=[box b [pv b, .slice A n q] 150]):=by
 obtain⟨j0,hj0,hz0⟩:=inf150
 refine Does.enter Tryz.func97 rfl Tryz.ntmps97 rfl (fun w0=>?_)
 refine To.z 6 ?_
 refine To.r (Rd.eqlNil rfl Tryz.underlying148 rfl rfl) ?_
 refine To.z 10 ?_
 refine To.r (Rd.eqlSelf rfl Tryz.underlying148 hj0 rfl rfl) ?_
 refine To.z 4 ?_
 refine To.end0 (.inr rfl) Tryz.results97 ?_
 exact⟨rfl,rfl⟩
theorem cc_fn(b:Nat)(ad:Value)(had:ad= .pointer none∨ad=pv b)(A:Option Addr)(n q:Nat):Does Tryz.prog 97 [pv b] [box b [ad, .slice A n q] 150] (fun v Γ'=>v= .tuple #[]∧Γ'=[box b [pv b, .slice A n q] 150]):=by
 rcases had with rfl|rfl
 ·exact cc0_fn b A n q
 ·exact cc1_fn b A n q
theorem ws_fn(b:Nat)(ad:Value)(had:ad= .pointer none∨ad=pv b)(A:Option Addr)(q:Nat)(l:List UInt8)(u:List UInt8)(hl:l.length+u.length≤140737488355328):
    Does Tryz.prog 53 [pv b, .string (BA u)] [box b [ad, .slice A l.length q] 150,rows encBy 5 1 A q l] (fun v Γ'=>∃(A':Option Addr) (q':Nat),v= .tuple #[nv u.length, .nilIface]∧Γ'=[box b [pv b, .slice A' ((l++u).length) q'] 150,rows encBy 5 1 A' q' (l++u)]):=by
 refine Does.enter Tryz.func53 rfl Tryz.ntmps53 rfl (fun w0=>?_)
 refine To.z 9 ?_
 refine To.cl [0] rfl rfl rfl (Ent.fn rfl rfl ca97) rfl (cc_fn b ad had A l.length q) ?_
 rintro _ _ ⟨rfl,rfl⟩
 refine To.z 10 ?_
 refine To.ge rfl rfl rfl (Ge.appendB (i:=1) rfl bs22 Tryz.underlying9 rfl rfl rfl hl) ?_
 rintro _ _ ⟨A2,q2,rfl,rfl⟩
 refine To.z 8 ?_
 refine To.r (Rd.lenT (a:=u) rfl Tryz.underlying9 rfl) ?_
 refine To.z 5 ?_
 refine To.end2 (.inl rfl) Tryz.results53 rfl rfl ?_
 exact⟨A2,q2,rfl,rfl⟩
theorem st1_fn(b:Nat)(ad:Value)(a:Nat)(q:Nat)(l:List UInt8)(hp:0<l.length)(hl:l.length≤140737488355328)(hq:q≠0):
    Does Tryz.prog 59 [pv b] [box b [ad, .slice (some ⟨a,0,none⟩) l.length q] 150,rows encBy 5 1 (some ⟨a,0,none⟩) q l] (fun v _=>v= .string (BA l)):=by
 refine Does.enter Tryz.func59 rfl Tryz.ntmps59 rfl (fun w0=>?_)
 refine To.z 6 ?_
 refine To.flow [] [⟨0,[],0⟩,⟨1,[],0⟩,⟨2,[],0⟩,⟨5,[],0⟩,⟨6,[],0⟩,⟨7,[],0⟩,⟨3,[],1⟩,⟨4,[],0⟩,⟨8,[],1⟩,⟨9,[],0⟩,⟨10,[],5⟩,⟨11,[],0⟩] mixed (by kernel_rfl) (ocn _) ?_
 refine To.z 7 ?_
 refine Fw.f rfl (Rd.slData rfl rfl hq) ?_
 refine To.z 2 ?_
 refine Fw.ge rfl rfl rfl rfl (Ge.unsafeB (i:=1) (l:=l) rfl (e:=5) Tryz.underlying208 (by kernel_rfl) rfl rfl rfl hp hl) ?_
 rintro _ _ ⟨rfl,rfl⟩
 refine⟨ocn _,?_⟩
 refine To.z 4 ?_
 refine To.del0 (To.end1 (.inl rfl) Tryz.results59 rfl ?_)
 rfl
theorem st0_fn(b:Nat)(ad:Value)(q:Nat):
    Does Tryz.prog 59 [pv b] [box b [ad, .slice none (([]:List UInt8).length) q] 150] (fun v _=>v= .string (BA [])):=by
 refine Does.enter Tryz.func59 rfl Tryz.ntmps59 rfl (fun w0=>?_)
 refine To.z 6 ?_
 refine To.flow [] [⟨0,[],0⟩,⟨1,[],0⟩,⟨2,[],0⟩,⟨5,[],0⟩,⟨6,[],0⟩,⟨7,[],0⟩,⟨3,[],1⟩,⟨4,[],0⟩,⟨8,[],1⟩,⟨9,[],0⟩,⟨10,[],0⟩,⟨11,[],0⟩] mixed (by kernel_rfl) (ocn _) ?_
 refine To.z 7 ?_
 refine Fw.f rfl (Rd.slDataN rfl rfl) ?_
 refine To.z 2 ?_
 refine Fw.f rfl (Rd.unsafe0 rfl rfl rfl) ?_
 refine To.z 4 ?_
 refine To.del0 (To.end1 (.inl rfl) Tryz.results59 rfl ?_)
 rfl
theorem st_fn(b:Nat)(ad:Value)(A:Option Addr)(q:Nat)(l:List UInt8)(hl:l.length≤140737488355328)(hA:l=[]→A=none):Does Tryz.prog 59 [pv b] [box b [ad, .slice A l.length q] 150,rows encBy 5 1 A q l] (fun v _=>v= .string (BA l)):=fun w hs=>by
 cases l with
 | nil=>
   obtain rfl:=hA rfl
   refine(st0_fn b ad q w (Sep.sat.left (Δ:=[_]) hs)).mono fun _ _ ⟨v,Γ',h1,h2,h3⟩=>⟨v,Γ'++_,h1,h2,Post.frame hs h3⟩
 | cons x r=>
   have hr:w.ownsRow 0 5 1 (.slice A (x::r).length q) (x::r).length ((x::r).flatMap encBy):=hs.each (rows encBy 5 1 A q (x::r)) (by simp)
   have h1:=own_some hr (by simp)
   obtain⟨_,_,hv,_,hc,_⟩:=own_form hr
   simp only[Value.slice.injEq]at hv
   have hq:q≠0:=by rw[←hv.2.2]at hc;simp only[lc1]at hc;omega
   rw[h1]at hs⊢
   exact st1_fn b ad _ q (x::r) (by simp) hl hq w hs
open Go.In
theorem wbs22:In.ByteSl Tryz.prog 22 5:=In.byteSl_ok (by kernel_rfl)
theorem winf150:∃j,Tryz.prog.info? 150=some j∧j.size≠0:=by
 have h:(Tryz.prog.info? 150).map (fun j=>Nat.blt 0 j.size)=some true:=by kernel_rfl
 obtain⟨j,h1,h2⟩:=Option.map_eq_some_iff.1 h
 exact⟨j,h1,fun e=>by rw[e]at h2;cases h2⟩
theorem wcc0_fn{ind:Nat}(b:Nat)(A:Option Addr)(n q:Nat):
    Does Tryz.prog 97 [pv b] [box b [.pointer none, .slice A n q,nv ind] 230] (fun v Γ'=>v= .tuple #[]∧Γ'=[box b [pv b, .slice A n q,nv ind] 230]):=by
 obtain⟨j0,hj0,hz0⟩:=winf150
 refine Does.enter Tryz.func97 rfl Tryz.ntmps97 rfl (fun w0=>?_)
 refine To.z 6 ?_
 refine To.r (Rd.eqlNil rfl Tryz.underlying148 rfl rfl) ?_
 refine To.z 6 ?_
 refine To.r (Rd.toU (i:=0) rfl Tryz.underlying148 Tryz.underlying265 hj0 hz0 rfl rfl (by simp)) ?_
 refine To.r (Rd.same rfl (same_ok 136 rfl) rfl) ?_
 refine To.r (Rd.fromU (i:=0) rfl Tryz.underlying265 Tryz.underlying148 hj0 rfl rfl (by kernel_rfl)) ?_
 refine To.z 4 ?_
 refine To.end0 (.inr rfl) Tryz.results97 ?_
 exact⟨rfl,rfl⟩
theorem wcc1_fn{ind:Nat}(b:Nat)(A:Option Addr)(n q:Nat):
    Does Tryz.prog 97 [pv b] [box b [pv b, .slice A n q,nv ind] 230] (fun v Γ'=>v= .tuple #[]∧Γ'=[box b [pv b, .slice A n q,nv ind] 230]):=by
 obtain⟨j0,hj0,hz0⟩:=winf150
 refine Does.enter Tryz.func97 rfl Tryz.ntmps97 rfl (fun w0=>?_)
 refine To.z 6 ?_
 refine To.r (Rd.eqlNil rfl Tryz.underlying148 rfl rfl) ?_
 refine To.z 10 ?_
 refine To.r (Rd.eqlSelf rfl Tryz.underlying148 hj0 rfl rfl) ?_
 refine To.z 4 ?_
 refine To.end0 (.inr rfl) Tryz.results97 ?_
 exact⟨rfl,rfl⟩
theorem wcc_fn{ind:Nat}(b:Nat)(ad:Value)(had:ad= .pointer none∨ad=pv b)(A:Option Addr)(n q:Nat):Does Tryz.prog 97 [pv b] [box b [ad, .slice A n q,nv ind] 230] (fun v Γ'=>v= .tuple #[]∧Γ'=[box b [pv b, .slice A n q,nv ind] 230]):=by
 rcases had with rfl|rfl
 ·exact wcc0_fn b A n q
 ·exact wcc1_fn b A n q
theorem wws_fn{ind:Nat}(b:Nat)(ad:Value)(had:ad= .pointer none∨ad=pv b)(A:Option Addr)(q:Nat)(l:List UInt8)(u:List UInt8)(hl:l.length+u.length≤140737488355328):
    Does Tryz.prog 53 [pv b, .string (BA u)] [box b [ad, .slice A l.length q,nv ind] 230,rows encBy 5 1 A q l] (fun v Γ'=>∃(A':Option Addr) (q':Nat),v= .tuple #[nv u.length, .nilIface]∧Γ'=[box b [pv b, .slice A' ((l++u).length) q',nv ind] 230,rows encBy 5 1 A' q' (l++u)]):=by
 refine Does.enter Tryz.func53 rfl Tryz.ntmps53 rfl (fun w0=>?_)
 refine To.z 9 ?_
 refine To.cl [0] rfl rfl rfl (Ent.fn rfl rfl ca97) rfl (wcc_fn b ad had A l.length q) ?_
 rintro _ _ ⟨rfl,rfl⟩
 refine To.z 10 ?_
 refine To.ge rfl rfl rfl (Ge.appendB (i:=1) rfl wbs22 Tryz.underlying9 rfl rfl rfl hl) ?_
 rintro _ _ ⟨A2,q2,rfl,rfl⟩
 refine To.z 8 ?_
 refine To.r (Rd.lenT (a:=u) rfl Tryz.underlying9 rfl) ?_
 refine To.z 5 ?_
 refine To.end2 (.inl rfl) Tryz.results53 rfl rfl ?_
 exact⟨A2,q2,rfl,rfl⟩
theorem wwb_fn{ind:Nat}(b:Nat)(ad:Value)(had:ad= .pointer none∨ad=pv b)(A:Option Addr)(q:Nat)(l:List UInt8)(c:UInt8)(hl:l.length+1≤140737488355328):
    Does Tryz.prog 58 [pv b, .int .u8 ((c.toNat:Nat):Int)] [box b [ad, .slice A l.length q,nv ind] 230,rows encBy 5 1 A q l] (fun v Γ'=>∃(A':Option Addr) (q':Nat),v= .nilIface∧Γ'=[box b [pv b, .slice A' ((l++[c]).length) q',nv ind] 230,rows encBy 5 1 A' q' (l++[c])]):=by
 refine Does.enter Tryz.func58 rfl Tryz.ntmps58 rfl (fun w0=>?_)
 refine To.z 8 ?_
 refine To.cl [0] rfl rfl rfl (Ent.fn rfl rfl ca97) rfl (wcc_fn b ad had A l.length q) ?_
 rintro _ _ ⟨rfl,rfl⟩
 refine To.z 10 ?_
 refine To.mk rfl rfl rfl (Mk.sN (us:=[.int .u8 ((c.toNat:Nat):Int)]) rfl s22 rfl rfl rfl rfl rfl rfl) ?_
 rintro _ _ ⟨b13,rfl,rfl⟩
 refine To.ge rfl rfl rfl (Ge.append1 encBy_ok (i:=2) (j:=0) (el:=c) rfl s22 rfl rfl rfl rfl rfl (by first|omega|(simp;done)|(simp;omega)) (by first|omega|(simp;done)|(simp;omega))) ?_
 rintro _ _ ⟨A14,q14,rfl,rfl⟩
 refine To.z 11 ?_
 refine To.del0 (To.end1 (.inl rfl) Tryz.results58 rfl ?_)
 exact⟨_,_,rfl,rfl⟩
theorem wst1_fn{ind:Nat}(b:Nat)(ad:Value)(a:Nat)(q:Nat)(l:List UInt8)(hp:0<l.length)(hl:l.length≤140737488355328)(hq:q≠0):
    Does Tryz.prog 59 [pv b] [box b [ad, .slice (some ⟨a,0,none⟩) l.length q,nv ind] 230,rows encBy 5 1 (some ⟨a,0,none⟩) q l] (fun v _=>v= .string (BA l)):=by
 refine Does.enter Tryz.func59 rfl Tryz.ntmps59 rfl (fun w0=>?_)
 refine To.z 6 ?_
 refine To.flow [] [⟨0,[],0⟩,⟨1,[],0⟩,⟨2,[],0⟩,⟨5,[],0⟩,⟨6,[],0⟩,⟨7,[],0⟩,⟨3,[],1⟩,⟨4,[],0⟩,⟨8,[],1⟩,⟨9,[],0⟩,⟨10,[],5⟩,⟨11,[],0⟩] mixed (by kernel_rfl) (ocn _) ?_
 refine To.z 7 ?_
 refine Fw.f rfl (Rd.slData rfl rfl hq) ?_
 refine To.z 2 ?_
 refine Fw.ge rfl rfl rfl rfl (Ge.unsafeB (i:=1) (l:=l) rfl (e:=5) Tryz.underlying208 (by kernel_rfl) rfl rfl rfl hp hl) ?_
 rintro _ _ ⟨rfl,rfl⟩
 refine⟨ocn _,?_⟩
 refine To.z 4 ?_
 refine To.del0 (To.end1 (.inl rfl) Tryz.results59 rfl ?_)
 rfl
theorem wst0_fn{ind:Nat}(b:Nat)(ad:Value)(q:Nat):
    Does Tryz.prog 59 [pv b] [box b [ad, .slice none (([]:List UInt8).length) q,nv ind] 230] (fun v _=>v= .string (BA [])):=by
 refine Does.enter Tryz.func59 rfl Tryz.ntmps59 rfl (fun w0=>?_)
 refine To.z 6 ?_
 refine To.flow [] [⟨0,[],0⟩,⟨1,[],0⟩,⟨2,[],0⟩,⟨5,[],0⟩,⟨6,[],0⟩,⟨7,[],0⟩,⟨3,[],1⟩,⟨4,[],0⟩,⟨8,[],1⟩,⟨9,[],0⟩,⟨10,[],0⟩,⟨11,[],0⟩] mixed (by kernel_rfl) (ocn _) ?_
 refine To.z 7 ?_
 refine Fw.f rfl (Rd.slDataN rfl rfl) ?_
 refine To.z 2 ?_
 refine Fw.f rfl (Rd.unsafe0 rfl rfl rfl) ?_
 refine To.z 4 ?_
 refine To.del0 (To.end1 (.inl rfl) Tryz.results59 rfl ?_)
 rfl
theorem wst_fn{ind:Nat}(b:Nat)(ad:Value)(A:Option Addr)(q:Nat)(l:List UInt8)(hl:l.length≤140737488355328)(hA:l=[]→A=none):Does Tryz.prog 59 [pv b] [box b [ad, .slice A l.length q,nv ind] 230,rows encBy 5 1 A q l] (fun v _=>v= .string (BA l)):=fun w hs=>by
 cases l with
 | nil=>
   obtain rfl:=hA rfl
   refine(wst0_fn b ad q w (Sep.sat.left (Δ:=[_]) hs)).mono fun _ _ ⟨v,Γ',h1,h2,h3⟩=>⟨v,Γ'++_,h1,h2,Post.frame hs h3⟩
 | cons x r=>
   have hr:w.ownsRow 0 5 1 (.slice A (x::r).length q) (x::r).length ((x::r).flatMap encBy):=hs.each (rows encBy 5 1 A q (x::r)) (by simp)
   have h1:=own_some hr (by simp)
   obtain⟨_,_,hv,_,hc,_⟩:=own_form hr
   simp only[Value.slice.injEq]at hv
   have hq:q≠0:=by rw[←hv.2.2]at hc;simp only[lc1]at hc;omega
   rw[h1]at hs⊢
   exact wst1_fn b ad _ q (x::r) (by simp) hl hq w hs
theorem wsx_fn{ind:Nat}(b:Nat)(ad:Value)(had:ad= .pointer none∨ad=pv b)(A:Option Addr)(q:Nat)(T:List UInt8)(s:ByteArray)(hl:T.length+s.size≤140737488355328):Does Tryz.prog 53 [pv b, .string s] [box b [ad, .slice A T.length q,nv ind] 230,rows encBy 5 1 A q T] (fun v Γ'=>∃(A':Option Addr) (q':Nat) (T':List UInt8) (n:Nat),v= .tuple #[nv n, .nilIface]∧Γ'=[box b [pv b, .slice A' T'.length q',nv ind] 230,rows encBy 5 1 A' q' T']∧T'.length=T.length+s.size):=
 (wws_fn (ind:=ind) b ad had A q T s.data.toList hl).mono fun v Γ' ⟨A',q',h1,h2⟩=>⟨A',q',_,_,h1,h2,lap⟩
theorem wbx_fn{ind:Nat}(b:Nat)(ad:Value)(had:ad= .pointer none∨ad=pv b)(A:Option Addr)(q:Nat)(T:List UInt8)(c:UInt8)(hl:T.length+1≤140737488355328):Does Tryz.prog 58 [pv b, .int .u8 ((c.toNat:Nat):Int)] [box b [ad, .slice A T.length q,nv ind] 230,rows encBy 5 1 A q T] (fun v Γ'=>∃(A':Option Addr) (q':Nat) (T':List UInt8),v= .nilIface∧Γ'=[box b [pv b, .slice A' T'.length q',nv ind] 230,rows encBy 5 1 A' q' T']∧T'.length=T.length+1):=
 (wwb_fn (ind:=ind) b ad had A q T c hl).mono fun v Γ' ⟨A',q',h1,h2⟩=>⟨A',q',_,h1,h2,lap⟩
end Go.Proofs.YtihgdnjkofpgiaaGreatDoor
namespace Go.Sep
open Go.RowKit Go.Flow Go.Mem
def NoZ(P:Program)(f:FuncId)(e:TypeId):Prop:=∀(n:Nat) (w:World),n≤281474976710656→∃cs:Array Value,(callFunc f #[.int .i64 n]).run P w= .ok (.value (.slice (some ⟨w.heap.size,0,none⟩) n cs.size)) (w.drew.drew.alloc (.cells cs e))∧n≤cs.size∧(n≤maxLen→cs.size≤maxLen)
theorem NoZ.of{P:Program}{f:FuncId}{fn:Func}{ps:Array TypeId}{t e:TypeId}(hf:P.funcs[f]?=some fn)(hname:(fn.name== "runtime.NumGoroutine")=false)(hb:fn.body.isNone=true)(hn:Extern.findNext fn=none)(he:Extern.find fn=some (Extern.BytealgMakeNoZero.makeNoZero ps #[t]))(ht:P.underlying t=some (.slice e)):NoZ P f e:=fun n w h=>by
 obtain⟨cs,h1,h2,h3⟩:=Lib.run_makeNoZero (P:=P) w ps t e ht n h
 refine⟨cs,?_,h2,h3⟩
 rw[run_callFunc_extern hf hname hb hn he,h1];rfl
section
variable{P:Program}{o:Oper}{ρ:Slots}{Γ:List Chunk}{x y:Operand}
theorem Mk.noZero{f:FuncId}{t e:TypeId}{n:Nat}(ho:o.op= .call {callee:= .value (.func f),args:=#[x],argTypes:=#[t]})(hz:NoZ P f e)(hx:ev ρ x=some (nv n))(hn:n≤140737488355328):
    Mk P o ρ Γ (fun v N=>∃b cap,v= .slice (some ⟨b,0,none⟩) n cap∧N=[rows encBy e 1 (some ⟨b,0,none⟩) cap ([]:List UInt8)]∧n≤cap):=fun a w ha _=>by
 obtain⟨cs,h1,h2,h3⟩:=hz n w (by omega)
 have hcm:=h3 (by simp only[maxLen];omega)
 have hf:a.eval (.func f)= .func (.func f) #[] #[]:=rfl
 have hnew:(w.drew.drew.alloc (.cells cs e)).heap[w.heap.size]?=some (.cells cs e (0,0)):=by simp[World.alloc,World.drew,-World.alloc_eq,-World.drew_eq]
 refine⟨.slice (some ⟨w.heap.size,0,none⟩) n cs.size,[rows encBy e 1 (some ⟨w.heap.size,0,none⟩) cs.size ([]:List UInt8)],w.drew.drew.alloc (.cells cs e),?_,⟨w.heap.size,cs.size,rfl,rfl,h2⟩,⟨⟨fun c hc=>?_,by simp[owns,rows,row,blks],by simp[reads,rows,row]⟩,⟨rfl,rfl,rfl,?_,fun i hi _=>?_,?_⟩,fun g hg hl=>?_,by simp[reads,rows,row]⟩⟩
 · unfold execOp
   simp[ho,resolve,hf,Deferred.ofValue,invoke,ha.eval hx,h1]
 · rw[List.mem_singleton.1 hc]
   exact⟨rfl, .inr ⟨w.heap.size,cs.size,cs,rfl,Nat.zero_le _,hnew,Nat.zero_le _,hcm,by simp,by simp⟩⟩
 ·simp[World.alloc,World.drew,-World.alloc_eq,-World.drew_eq]
 · have h4:w.heap.size≠i:=by omega
   simp[World.alloc,World.drew,-World.alloc_eq,-World.drew_eq,Array.getElem?_push,Ne.symm h4]
 ·simp[World.alloc,World.drew,-World.alloc_eq,-World.drew_eq];omega
 ·simp[owns,rows,row,blks]at hg;omega
theorem Rd.copyNone{dT sT e:TypeId}{d a:Option Addr}{dLen dCap sLen sCap:Nat}(ho:o.op= .call {callee:= .builtin .copy,args:=#[x,y],argTypes:=#[dT,sT]})(hu:P.underlying dT=some (.slice e))(hs:(P.info? e).map (·.size)=some 1)(hx:ev ρ x=some (.slice d dLen dCap))(hy:ev ρ y=some (.slice a sLen sCap))(hn:Nat.min sLen dLen=0):Rd P o ρ Γ (.int .i64 0):=fun w0 w ha _=>by
 have h:=run_copy_none (P:=P) w dT sT o.type e d a dLen dCap sLen sCap hu hs hn
 unfold execOp
 simp only[ho,resolve,invoke,builtin,Sem.run_bind,Sem.run_pure,Result.andThen_ok,List.map_toArray,List.map_cons,List.map_nil,ha.eval hx,ha.eval hy,h];rfl
theorem Rd.mul64{t t':TypeId}{m n:Int}(ho:o.op= .binOp .mul t x y t')(hx:ev ρ x=some (.int .i64 m))(hy:ev ρ y=some (.int .i64 n))(h:-9223372036854775808≤m*n∧m*n≤9223372036854775807):Rd P o ρ Γ (.int .i64 (m*n)):=Rd.mul ho hx hy (IntWalk.i64_in _ (by omega))
end
end Go.Sep
