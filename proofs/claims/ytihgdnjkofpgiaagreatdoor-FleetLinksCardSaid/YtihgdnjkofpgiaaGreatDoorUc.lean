/- Own text. -/
import Derived.Test.YtihgdnjkofpgiaaGreatDoorYa
import Derived.Test.YtihgdnjkofpgiaaGreatDoorA16
import Derived.Lib.MakeNoZero
import Derived.Laws.IdiomCopy
set_option linter.unusedVariables false
set_option linter.unusedSimpArgs false
set_option maxHeartbeats 2000000
set_option maxRecDepth 100000
namespace Go.Proofs.YtihgdnjkofpgiaaGreatDoor
open Go.RowKit Go.Flow Go.Mem Go.Sep Go.In
theorem aMz:In.ByteSl Tryz.prog 22 5:=In.byteSl_ok kr
theorem UL:∃j,Tryz.prog.info? 150=some j∧j.size≠0:=by
 have h:(Tryz.prog.info? 150).map (fun j=>Nat.blt 0 j.size)=some true:=by kernel_rfl
 obtain⟨j,h1,h2⟩:=aOr.1 h;exact⟨j,h1,fun e=>by rw[e]at h2;cases h2⟩
theorem aGh(b:Nat)(A:OA)(n q:Nat):
    Bd Tryz.prog 97 [pv b] [box b [.pointer none, .slice A n q] 150] (fun v Γ'=>v= .tuple #[]∧Γ'=[box b [pv b, .slice A n q] 150]):=by
 obtain⟨j0,hj0,hz0⟩:=UL;refine Ba Tryz.func97 Tryz.ntmps97 fun w0=>?_;refine Jz 6 ?_;refine Jr (Jg rfl Tryz.underlying148 rfl rfl) ?_;refine Jz 6 ?_;refine Jr (Rd.toU (i:=0) rfl Tryz.underlying148 Tryz.underlying265 hj0 hz0 rfl rfl sm) ?_;refine Jr (Rd.same rfl (uL 136 rfl) rfl) ?_;refine Jr (Rd.fromU (i:=0) rfl Tryz.underlying265 Tryz.underlying148 hj0 rfl rfl kr) ?_;refine Jz 4 ?_;refine Dr (.inr rfl) Tryz.results97 ?_;exact⟨rfl,rfl⟩
theorem aGi(b:Nat)(A:OA)(n q:Nat):
    Bd Tryz.prog 97 [pv b] [box b [pv b, .slice A n q] 150] (fun v Γ'=>v= .tuple #[]∧Γ'=[box b [pv b, .slice A n q] 150]):=by
 obtain⟨j0,hj0,hz0⟩:=UL;refine Ba Tryz.func97 Tryz.ntmps97 fun w0=>?_;refine Jz 6 ?_;refine Jr (Jg rfl Tryz.underlying148 rfl rfl) ?_;refine Jz 10 ?_;refine Jr (Rd.eqlSelf rfl Tryz.underlying148 hj0 rfl rfl) ?_;refine Jz 4 ?_;refine Dr (.inr rfl) Tryz.results97 ?_;exact⟨rfl,rfl⟩
theorem aDq(b:Nat)(ad:vU)(had:ad= .pointer none∨ad=pv b)(A:OA)(n q:Nat):Bd Tryz.prog 97 [pv b] [box b [ad, .slice A n q] 150] (fun v Γ'=>v= .tuple #[]∧Γ'=[box b [pv b, .slice A n q] 150]):=by
 rcases had with rfl|rfl
 ·exact aGh b A n q
 ·exact aGi b A n q
theorem aKm(b:Nat)(ad:vU)(had:ad= .pointer none∨ad=pv b)(A:OA)(q:Nat)(l:List UInt8)(u:List UInt8)(hl:l.length+u.length≤140737488355328):
    Bd Tryz.prog 53 [pv b, .string (BA u)] [box b [ad,vs A l q] 150,rows au 5 1 A q l] (fun v Γ'=>∃(A':OA) (q':Nat),v= .tuple #[nv u.length, .nilIface]∧Γ'=[box b [pv b,vs A' (l++u) q'] 150,rows au 5 1 A' q' (l++u)]):=by
 refine Ba Tryz.func53 Tryz.ntmps53 fun w0=>?_;refine Jz 9 ?_;refine af [0] (aDq b ad had A l.length q) ?_;rintro _ _ ⟨rfl,rfl⟩;refine Jz 10 ?_;refine Jge rfl rfl rfl (Ge.appendB (i:=1) rfl aMz Tryz.underlying9 rfl rfl rfl hl) ?_;rintro _ _ ⟨A2,q2,rfl,rfl⟩;refine Jz 8 ?_;refine Jr (Rd.lenT (a:=u) rfl Tryz.underlying9 rfl) ?_;refine Jz 5 ?_;refine Ei (.inl rfl) Tryz.results53 rfl rfl ?_;exact⟨A2,q2,rfl,rfl⟩
theorem aGj(b:Nat)(ad:vU)(a:Nat)(q:Nat)(l:List UInt8)(hp:0<l.length)(hl:l.length≤140737488355328)(hq:q≠0):
    Bd Tryz.prog 59 [pv b] [box b [ad,vs (some ⟨a,0,none⟩) l q] 150,rows au 5 1 (some ⟨a,0,none⟩) q l] (fun v _=>v= .string (BA l)):=by
 refine Ba Tryz.func59 Tryz.ntmps59 fun w0=>?_;refine Jz 6 ?_;refine Jfw [] [0,1,2,5,6,7,103,4,108,9,510,11] (jP _) ?_;refine Jz 7 ?_;refine df rfl (Rd.slData rfl rfl hq) ?_;refine Jz 2 ?_;refine Fw.ge rfl rfl rfl rfl (Ge.unsafeB (i:=1) (l:=l) rfl (e:=5) Tryz.underlying208 kr rfl rfl rfl hp hl) ?_;rintro _ _ ⟨rfl,rfl⟩;refine⟨jP _,?_⟩;refine Jz 4 ?_;refine Cg (ak Tryz.results59 ?_);rfl
theorem aGk(b:Nat)(ad:vU)(q:Nat):
    Bd Tryz.prog 59 [pv b] [box b [ad,vs none ([]:List UInt8) q] 150] (fun v _=>v= .string (BA [])):=by
 refine Ba Tryz.func59 Tryz.ntmps59 fun w0=>?_;refine Jz 6 ?_;refine Jfw [] [0,1,2,5,6,7,103,4,108,9,10,11] (jP _) ?_;refine Jz 7 ?_;refine df rfl (Rd.slDataN rfl rfl) ?_;refine Jz 2 ?_;refine df rfl (Rd.unsafe0 rfl rfl rfl) ?_;refine Jz 4 ?_;refine Cg (ak Tryz.results59 ?_);rfl
theorem aKn(b:Nat)(ad:vU)(A:OA)(q:Nat)(l:List UInt8)(hl:l.length≤140737488355328)(hA:l=[]→A=none):Bd Tryz.prog 59 [pv b] [box b [ad,vs A l q] 150,rows au 5 1 A q l] (fun v _=>v= .string (BA l)):=fun w hs=>by
 cases l with
 | nil=>
   obtain rfl:=hA rfl;refine(aGk b ad q w (Sep.sat.left (Δ:=[_]) hs)).mono fun _ _ ⟨v,Γ',h1,h2,h3⟩=>⟨v,Γ'++_,h1,h2,Db.frame hs h3⟩
 | cons x r=>
   have hr:w.ownsRow 0 5 1 (.slice A (x::r).length q) (x::r).length ((x::r).flatMap au):=hs.each (rows au 5 1 A q (x::r)) sm;have h1:=Qa hr sm;obtain⟨_,_,hv,_,hc,_⟩:=Im hr;simp only[Value.slice.injEq]at hv;have hq:q≠0:=by rw[←hv.2.2]at hc;simp only[ag]at hc;omega
   rw[h1]at hs⊢;exact aGj b ad _ q (x::r) sm hl hq w hs
open Go.In
theorem aKo:In.ByteSl Tryz.prog 22 5:=In.byteSl_ok kr
theorem JJ:∃j,Tryz.prog.info? 150=some j∧j.size≠0:=by
 have h:(Tryz.prog.info? 150).map (fun j=>Nat.blt 0 j.size)=some true:=by kernel_rfl
 obtain⟨j,h1,h2⟩:=aOr.1 h;exact⟨j,h1,fun e=>by rw[e]at h2;cases h2⟩
theorem aBe{ind:Nat}(b:Nat)(A:OA)(n q:Nat):
    Bd Tryz.prog 97 [pv b] [box b [.pointer none, .slice A n q,nv ind] 230] (fun v Γ'=>v= .tuple #[]∧Γ'=[box b [pv b, .slice A n q,nv ind] 230]):=by
 obtain⟨j0,hj0,hz0⟩:=JJ;refine Ba Tryz.func97 Tryz.ntmps97 fun w0=>?_;refine Jz 6 ?_;refine Jr (Jg rfl Tryz.underlying148 rfl rfl) ?_;refine Jz 6 ?_;refine Jr (Rd.toU (i:=0) rfl Tryz.underlying148 Tryz.underlying265 hj0 hz0 rfl rfl sm) ?_;refine Jr (Rd.same rfl (uL 136 rfl) rfl) ?_;refine Jr (Rd.fromU (i:=0) rfl Tryz.underlying265 Tryz.underlying148 hj0 rfl rfl kr) ?_;refine Jz 4 ?_;refine Dr (.inr rfl) Tryz.results97 ?_;exact⟨rfl,rfl⟩
theorem aBf{ind:Nat}(b:Nat)(A:OA)(n q:Nat):
    Bd Tryz.prog 97 [pv b] [box b [pv b, .slice A n q,nv ind] 230] (fun v Γ'=>v= .tuple #[]∧Γ'=[box b [pv b, .slice A n q,nv ind] 230]):=by
 obtain⟨j0,hj0,hz0⟩:=JJ;refine Ba Tryz.func97 Tryz.ntmps97 fun w0=>?_;refine Jz 6 ?_;refine Jr (Jg rfl Tryz.underlying148 rfl rfl) ?_;refine Jz 10 ?_;refine Jr (Rd.eqlSelf rfl Tryz.underlying148 hj0 rfl rfl) ?_;refine Jz 4 ?_;refine Dr (.inr rfl) Tryz.results97 ?_;exact⟨rfl,rfl⟩
theorem UM{ind:Nat}(b:Nat)(ad:vU)(had:ad= .pointer none∨ad=pv b)(A:OA)(n q:Nat):Bd Tryz.prog 97 [pv b] [box b [ad, .slice A n q,nv ind] 230] (fun v Γ'=>v= .tuple #[]∧Γ'=[box b [pv b, .slice A n q,nv ind] 230]):=by
 rcases had with rfl|rfl
 ·exact aBe b A n q
 ·exact aBf b A n q
theorem aGl{ind:Nat}(b:Nat)(ad:vU)(had:ad= .pointer none∨ad=pv b)(A:OA)(q:Nat)(l:List UInt8)(u:List UInt8)(hl:l.length+u.length≤140737488355328):
    Bd Tryz.prog 53 [pv b, .string (BA u)] [box b [ad,vs A l q,nv ind] 230,rows au 5 1 A q l] (fun v Γ'=>∃(A':OA) (q':Nat),v= .tuple #[nv u.length, .nilIface]∧Γ'=[box b [pv b,vs A' (l++u) q',nv ind] 230,rows au 5 1 A' q' (l++u)]):=by
 refine Ba Tryz.func53 Tryz.ntmps53 fun w0=>?_;refine Jz 9 ?_;refine af [0] (UM b ad had A l.length q) ?_;rintro _ _ ⟨rfl,rfl⟩;refine Jz 10 ?_;refine Jge rfl rfl rfl (Ge.appendB (i:=1) rfl aKo Tryz.underlying9 rfl rfl rfl hl) ?_;rintro _ _ ⟨A2,q2,rfl,rfl⟩;refine Jz 8 ?_;refine Jr (Rd.lenT (a:=u) rfl Tryz.underlying9 rfl) ?_;refine Jz 5 ?_;refine Ei (.inl rfl) Tryz.results53 rfl rfl ?_;exact⟨A2,q2,rfl,rfl⟩
theorem aGm{ind:Nat}(b:Nat)(ad:vU)(had:ad= .pointer none∨ad=pv b)(A:OA)(q:Nat)(l:List UInt8)(c:UInt8)(hl:l.length+1≤140737488355328):
    Bd Tryz.prog 58 [pv b,ub c.toNat] [box b [ad,vs A l q,nv ind] 230,rows au 5 1 A q l] (fun v Γ'=>∃(A':OA) (q':Nat),v= .nilIface∧Γ'=[box b [pv b,vs A' (l++[c]) q',nv ind] 230,rows au 5 1 A' q' (l++[c])]):=by
 refine Ba Tryz.func58 Tryz.ntmps58 fun w0=>?_;refine Jz 8 ?_;refine af [0] (UM b ad had A l.length q) ?_;rintro _ _ ⟨rfl,rfl⟩;refine Jz 10 ?_;refine Ew [ub c.toNat] fun b13=>?_;refine Jge rfl rfl rfl (Bz encBy_ok (i:=2) (j:=0) (el:=c) rfl s22 rfl rfl rfl rfl rfl om om) ?_;rintro _ _ ⟨A14,q14,rfl,rfl⟩;refine Jz 11 ?_;refine Cg (ak Tryz.results58 ?_);exact⟨_,_,rfl,rfl⟩
theorem aBg{ind:Nat}(b:Nat)(ad:vU)(a:Nat)(q:Nat)(l:List UInt8)(hp:0<l.length)(hl:l.length≤140737488355328)(hq:q≠0):
    Bd Tryz.prog 59 [pv b] [box b [ad,vs (some ⟨a,0,none⟩) l q,nv ind] 230,rows au 5 1 (some ⟨a,0,none⟩) q l] (fun v _=>v= .string (BA l)):=by
 refine Ba Tryz.func59 Tryz.ntmps59 fun w0=>?_;refine Jz 6 ?_;refine Jfw [] [0,1,2,5,6,7,103,4,108,9,510,11] (jP _) ?_;refine Jz 7 ?_;refine df rfl (Rd.slData rfl rfl hq) ?_;refine Jz 2 ?_;refine Fw.ge rfl rfl rfl rfl (Ge.unsafeB (i:=1) (l:=l) rfl (e:=5) Tryz.underlying208 kr rfl rfl rfl hp hl) ?_;rintro _ _ ⟨rfl,rfl⟩;refine⟨jP _,?_⟩;refine Jz 4 ?_;refine Cg (ak Tryz.results59 ?_);rfl
theorem aBh{ind:Nat}(b:Nat)(ad:vU)(q:Nat):
    Bd Tryz.prog 59 [pv b] [box b [ad,vs none ([]:List UInt8) q,nv ind] 230] (fun v _=>v= .string (BA [])):=by
 refine Ba Tryz.func59 Tryz.ntmps59 fun w0=>?_;refine Jz 6 ?_;refine Jfw [] [0,1,2,5,6,7,103,4,108,9,10,11] (jP _) ?_;refine Jz 7 ?_;refine df rfl (Rd.slDataN rfl rfl) ?_;refine Jz 2 ?_;refine df rfl (Rd.unsafe0 rfl rfl rfl) ?_;refine Jz 4 ?_;refine Cg (ak Tryz.results59 ?_);rfl
theorem aGn{ind:Nat}(b:Nat)(ad:vU)(A:OA)(q:Nat)(l:List UInt8)(hl:l.length≤140737488355328)(hA:l=[]→A=none):Bd Tryz.prog 59 [pv b] [box b [ad,vs A l q,nv ind] 230,rows au 5 1 A q l] (fun v _=>v= .string (BA l)):=fun w hs=>by
 cases l with
 | nil=>
   obtain rfl:=hA rfl;refine(aBh b ad q w (Sep.sat.left (Δ:=[_]) hs)).mono fun _ _ ⟨v,Γ',h1,h2,h3⟩=>⟨v,Γ'++_,h1,h2,Db.frame hs h3⟩
 | cons x r=>
   have hr:w.ownsRow 0 5 1 (.slice A (x::r).length q) (x::r).length ((x::r).flatMap au):=hs.each (rows au 5 1 A q (x::r)) sm;have h1:=Qa hr sm;obtain⟨_,_,hv,_,hc,_⟩:=Im hr;simp only[Value.slice.injEq]at hv;have hq:q≠0:=by rw[←hv.2.2]at hc;simp only[ag]at hc;omega
   rw[h1]at hs⊢;exact aBg b ad _ q (x::r) sm hl hq w hs
theorem UN{ind:Nat}(b:Nat)(ad:vU)(had:ad= .pointer none∨ad=pv b)(A:OA)(q:Nat)(T:List UInt8)(s:yB)(hl:T.length+s.size≤140737488355328):Bd Tryz.prog 53 [pv b, .string s] [box b [ad,vs A T q,nv ind] 230,rows au 5 1 A q T] (fun v Γ'=>∃(A':OA) (q':Nat) (T':List UInt8) (n:Nat),v= .tuple #[nv n, .nilIface]∧Γ'=[box b [pv b,vs A' T' q',nv ind] 230,rows au 5 1 A' q' T']∧T'.length=T.length+s.size):=
 (aGl (ind:=ind) b ad had A q T s.data.toList hl).mono fun v Γ' ⟨A',q',h1,h2⟩=>⟨A',q',_,_,h1,h2,aj⟩
theorem aGo{ind:Nat}(b:Nat)(ad:vU)(had:ad= .pointer none∨ad=pv b)(A:OA)(q:Nat)(T:List UInt8)(c:UInt8)(hl:T.length+1≤140737488355328):Bd Tryz.prog 58 [pv b,ub c.toNat] [box b [ad,vs A T q,nv ind] 230,rows au 5 1 A q T] (fun v Γ'=>∃(A':OA) (q':Nat) (T':List UInt8),v= .nilIface∧Γ'=[box b [pv b,vs A' T' q',nv ind] 230,rows au 5 1 A' q' T']∧T'.length=T.length+1):=
 (aGm (ind:=ind) b ad had A q T c hl).mono fun v Γ' ⟨A',q',h1,h2⟩=>⟨A',q',_,h1,h2,aj⟩
end Go.Proofs.YtihgdnjkofpgiaaGreatDoor
namespace Go.Sep
open Go.RowKit Go.Flow Go.Mem
def NoZ(P:pG)(f:FuncId)(e:tI):Prop:=∀(n:Nat) (w:wD),n≤281474976710656→∃cs:Array vU,(callFunc f #[iv n]).run P w= .ok (.value (.slice (some ⟨w.heap.size,0,none⟩) n cs.size)) (w.drew.drew.alloc (.cells cs e))∧n≤cs.size∧(n≤maxLen→cs.size≤maxLen)
theorem NoZ.of{P:pG}{f:FuncId}{fn:Func}{ps:Array tI}{t e:tI}(hf:P.funcs[f]?=some fn)(hname:(fn.name== "runtime.NumGoroutine")=false)(hb:fn.body.isNone=true)(hn:Extern.findNext fn=none)(he:Extern.find fn=some (Extern.BytealgMakeNoZero.makeNoZero ps #[t]))(ht:P.underlying t=some (.slice e)):NoZ P f e:=fun n w h=>by
 obtain⟨cs,h1,h2,h3⟩:=Lib.run_makeNoZero (P:=P) w ps t e ht n h;refine⟨cs,?_,h2,h3⟩;rw[run_callFunc_extern hf hname hb hn he,h1];rfl
section
variable{P:pG}{o:Oper}{ρ:Bj}{Γ:List Ad}{x y:Operand}
theorem NT{f:FuncId}{t e:tI}{n:Nat}(ho:o.op= .call {callee:= .value (.func f),args:=#[x],argTypes:=#[t]})(hz:NoZ P f e)(hx:ev ρ x=some (nv n))(hn:n≤140737488355328):
    Mk P o ρ Γ (fun v N=>∃b cap,v= .slice (some ⟨b,0,none⟩) n cap∧N=[rows au e 1 (some ⟨b,0,none⟩) cap ([]:List UInt8)]∧n≤cap):=fun a w ha _=>by
 obtain⟨cs,h1,h2,h3⟩:=hz n w om;have hcm:=h3 (by simp only[maxLen];omega);have hf:a.eval (.func f)= .func (.func f) #[] #[]:=rfl;have hnew:(w.drew.drew.alloc (.cells cs e)).heap[w.heap.size]?=some (.cells cs e (0,0)):=by simp[World.alloc,World.drew,-World.alloc_eq,-World.drew_eq]
 refine⟨.slice (some ⟨w.heap.size,0,none⟩) n cs.size,[rows au e 1 (some ⟨w.heap.size,0,none⟩) cs.size ([]:List UInt8)],w.drew.drew.alloc (.cells cs e),?_,⟨w.heap.size,cs.size,rfl,rfl,h2⟩,⟨⟨fun c hc=>?_,by simp[owns,rows,row,Ik],by simp[reads,rows,row]⟩,⟨rfl,rfl,rfl,?_,fun i hi _=>?_,?_⟩,fun g hg hl=>?_,by simp[reads,rows,row]⟩⟩
 · unfold execOp
   simp[ho,resolve,hf,Deferred.ofValue,invoke,ha.eval hx,h1]
 · rw[aNz.1 hc]
   exact⟨rfl, .inr ⟨w.heap.size,cs.size,cs,rfl,aOk _,hnew,aOk _,hcm,by simp,by simp⟩⟩
 ·simp[World.alloc,World.drew,-World.alloc_eq,-World.drew_eq]
 · have h4:w.heap.size≠i:=om
   simp[World.alloc,World.drew,-World.alloc_eq,-World.drew_eq,Array.getElem?_push,Ne.symm h4]
 ·simp[World.alloc,World.drew,-World.alloc_eq,-World.drew_eq];omega
 ·simp[owns,rows,row,Ik]at hg;omega
theorem yT{dT sT e:tI}{d a:OA}{dLen dCap sLen sCap:Nat}(ho:o.op= .call {callee:= .builtin .copy,args:=#[x,y],argTypes:=#[dT,sT]})(hu:P.underlying dT=some (.slice e))(hs:(P.info? e).map (·.size)=some 1)(hx:ev ρ x=some (.slice d dLen dCap))(hy:ev ρ y=some (.slice a sLen sCap))(hn:Nat.min sLen dLen=0):Rd P o ρ Γ (iv 0):=fun w0 w ha _=>by
 have h:=run_copy_none (P:=P) w dT sT o.type e d a dLen dCap sLen sCap hu hs hn;unfold execOp;simp only[ho,resolve,invoke,builtin,aPg,aPp,aOy,List.map_toArray,aOw,aPq,ha.eval hx,ha.eval hy,h];rfl
theorem Ox{t t':tI}{m n:Int}(ho:o.op= .binOp .mul t x y t')(hx:ev ρ x=some (iv m))(hy:ev ρ y=some (iv n))(h:-9223372036854775808≤m*n∧m*n≤9223372036854775807):Rd P o ρ Γ (iv (m*n)):=Rd.mul ho hx hy (IntWalk.i64_in _ om)
end
end Go.Sep
