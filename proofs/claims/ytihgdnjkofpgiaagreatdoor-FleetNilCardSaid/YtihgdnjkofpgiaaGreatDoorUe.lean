/- Merged out of P1, P2 by merge.py. Own text. -/
import Derived.Test.YtihgdnjkofpgiaaGreatDoorUd
set_option linter.unusedVariables false
set_option linter.unusedSimpArgs false
set_option maxHeartbeats 2000000
set_option maxRecDepth 100000
namespace Go.Proofs.YtihgdnjkofpgiaaGreatDoor
open Go.RowKit Go.Flow Go.Mem Go.Sep Go.In
theorem sh_b:∀o,o≤23→0≤(shO o).lv∧(shO o).lv≤7∧(shO o).tx.size≤6∧(shO o).n=opnL.getD o 0:=by decide
theorem op_one:∀o,o≤23→(o=6∨o=7∨o=9∨o=10)→opnL.getD o 0=1:=by decide
theorem op_two:∀o,o≤23→(o=6∨o=7∨o=9∨o=10)∨opnL.getD o 0=0∨opnL.getD o 0=2:=by decide
theorem shapeG_fn{o:Nat}(h1:1≤o)(h2:o≤23):Does Tryz.prog 219 [.int .u8 ((o:Nat):Int)] gl (fun v Γ'=>v= .tuple #[.agg (Sh.cells (shO o)).toArray, .bool true]∧Γ'=[]):=Does.sub (is:=[1]) (shape0_fn o h1 h2) rfl
theorem tzL_2{l:List Ex}{x y:Ex}(h0:l[0]?=some x)(h1:l[1]?=some y):x.pure.tz+y.pure.tz≤PE.tzL (Ex.pL l):=by
 match l,h0,h1 with
 | a::b::r,h0,h1=>
   cases h0;cases h1
   show _≤x.pure.tz+(y.pure.tz+PE.tzL (Ex.pL r));omega
theorem operand_fn(e:Ex)(hf:e.Fine)(n:Nat)(hn:n≤100000)(ht:Does Tryz.prog 246 [.agg (encX e).toArray] [all (e.kids encX),glc,p10c] (fun v Γ'=>∃s:ByteArray,v= .string s∧Γ'=[]∧s.size≤n))(least:Int):
    Does Tryz.prog 257 [.agg (encX e).toArray, .int .i64 least] [all (e.kids encX),glc,p10c] (fun v Γ'=>∃s:ByteArray,v= .string s∧Γ'=[]∧s.size≤(n+2)):=by
 refine Does.enter Tryz.func257 rfl Tryz.ntmps257 rfl (fun w0=>?_)
 refine To.s (To.g ?_)
 refine To.bo fun b2=>?_
 refine To.z 8 ?_
 refine To.cQ rfl rfl rfl (Ent.fn rfl rfl ca219) (shapeG_fn hf.o1 hf.o2) rfl (oks_gl 2 rfl) ?_
 rintro _ _ ⟨rfl,rfl⟩
 refine⟨rfl,?_⟩
 refine To.z 3 ?_
 refine To.al fun b5=>?_
 refine To.z 12 ?_
 refine To.cp rfl (fun k16=>?_) (fun k16=>?_)
 refine To.z 3 ?_
 refine To.cQ rfl rfl rfl (Ent.fn rfl rfl ca246) (ht) (by show owns (e.kids encX)++(owns gl++(p10c.owns++[]))=[];rw[(Ex.lax encX e).owns];rfl) (ocs (oca 2 rfl) (ocs (oca 3 rfl) (ocs (oca 4 rfl) (ocn _)))) ?_
 rintro _ _ ⟨s1,rfl,rfl,hs1⟩
 refine⟨rfl,?_⟩
 refine To.r (Rd.addZ (a:=(bytesOf [40])) (b:=s1) rfl rfl rfl (by first|omega|(simp only[ByteArray.size_append,bytes_size,lc1,ln0];omega))) ?_
 refine To.r (Rd.addZ (a:=((bytesOf [40])++s1)) (b:=(bytesOf [41])) rfl rfl rfl (by first|omega|(simp only[ByteArray.size_append,bytes_size,lc1,ln0];omega))) ?_
 refine To.z 5 ?_
 refine To.del4 (To.del3 (To.del2 (To.del1 (To.del0 (To.end1 (.inl rfl) Tryz.results257 rfl ?_)))))
 exact⟨_,rfl,rfl,by first|omega|(simp only[ByteArray.size_append,bytes_size,lc1,ln0];omega)⟩
 refine To.z 5 ?_
 refine To.cQ rfl rfl rfl (Ent.fn rfl rfl ca246) (ht) (by show owns (e.kids encX)++(owns gl++(p10c.owns++[]))=[];rw[(Ex.lax encX e).owns];rfl) (ocs (oca 2 rfl) (ocs (oca 3 rfl) (ocs (oca 4 rfl) (ocn _)))) ?_
 rintro _ _ ⟨s1_2,rfl,rfl,hs1_2⟩
 refine⟨rfl,?_⟩
 refine To.z 4 ?_
 refine To.del4 (To.del3 (To.del2 (To.del1 (To.del0 (To.end1 (.inl rfl) Tryz.results257 rfl ?_)))))
 exact⟨_,rfl,rfl,by first|omega|(simp only[ByteArray.size_append,bytes_size,lc1,ln0];omega)⟩
set_option maxHeartbeats 4000000 in
set_option maxRecDepth 100000 in
theorem text_step(e:Ex)(hlow:e.pure.low)(hfin:e.pure.fine)(hz:e.pure.tz≤90000)(ih:∀x∈e.args,x.pure.low→x.pure.fine→Does Tryz.prog 246 [.agg (encX x).toArray] [all (x.kids encX),glc,p10c] (fun v Γ'=>∃s:ByteArray,v= .string s∧Γ'=[]∧s.size≤x.pure.tz)):
    Does Tryz.prog 246 [.agg (encX e).toArray] [all (e.kids encX),glc,p10c] (fun v Γ'=>∃s:ByteArray,v= .string s∧Γ'=[]∧s.size≤e.pure.tz):=by
 have hf:=Ex.fine_at hfin
 obtain⟨hl0,hl7,hts,hns⟩:=sh_b _ hf.o2
 have htz:=Ex.tz_eq e
 have hnz:=nm_size hf.nm1 hf.nm2
 have hit:0≤e.n→e.n≤9→(Lib.itoa e.n).length≤20:=fun h1 h2=>itoa_len (by omega) (by omega)
 refine Does.enter Tryz.func246 rfl Tryz.ntmps246 rfl (fun w0=>?_)
 refine To.s (To.g ?_)
 refine To.bo fun b1=>?_
 refine To.z 7 ?_
 refine To.cQ rfl rfl rfl (Ent.fn rfl rfl ca219) (shapeG_fn hf.o1 hf.o2) rfl (oks_gl 2 rfl) ?_
 rintro _ _ ⟨rfl,rfl⟩
 refine⟨rfl,?_⟩
 refine To.z 3 ?_
 refine To.al fun b3=>?_
 refine To.z 18 ?_
 refine To.cp rfl (fun k14=>?_) (fun k14=>?_)
 refine To.z 4 ?_
 refine To.cV rfl rfl rfl (Ent.fn rfl rfl ca57) (fint_fn e.n (by have:=hf.n1 (by omega);omega) (by have:=hf.n3 (by omega);omega)) rfl (ocs (oca 4 rfl) (ocn _)) ?_
 refine To.z 6 ?_
 refine To.del4 (To.del3 (To.del2 (To.del1 (To.del0 (To.end1 (.inl rfl) Tryz.results246 rfl ?_)))))
 exact⟨_,rfl,rfl,by show(Lib.itoa e.n).length≤_;have:=hit (hf.n1 (by omega)) (hf.n3 (by omega));omega⟩
 refine To.z 7 ?_
 refine To.cp rfl (fun k19=>?_) (fun k19=>?_)
 refine To.sp (To.t (To.condT (congrArg (fun b=>some (Value.bool b)) (decide_eq_true k19)) ?_))
 refine To.z 6 ?_
 refine To.r (Rd.addZ (a:=((shO e.op).tx)) (b:=e.name) rfl rfl rfl (by first|omega|(simp only[ByteArray.size_append,bytes_size,lc1,ln0];omega))) ?_
 refine To.z 6 ?_
 refine To.del4 (To.del3 (To.del2 (To.del1 (To.del0 (To.end1 (.inl rfl) Tryz.results246 rfl ?_)))))
 exact⟨_,rfl,rfl,by first|omega|(simp only[ByteArray.size_append,bytes_size,lc1,ln0];omega)⟩
 refine To.z 5 ?_
 refine To.cp rfl (fun k19_2=>?_) (fun k19_2=>?_)
 refine To.z 6 ?_
 refine To.r (Rd.addZ (a:=((shO e.op).tx)) (b:=e.name) rfl rfl rfl (by first|omega|(simp only[ByteArray.size_append,bytes_size,lc1,ln0];omega))) ?_
 refine To.z 6 ?_
 refine To.del4 (To.del3 (To.del2 (To.del1 (To.del0 (To.end1 (.inl rfl) Tryz.results246 rfl ?_)))))
 exact⟨_,rfl,rfl,by first|omega|(simp only[ByteArray.size_append,bytes_size,lc1,ln0];omega)⟩
 refine To.z 7 ?_
 refine To.cp rfl (fun k27=>?_) (fun k27=>?_)
 refine To.sp (To.t (To.condT (congrArg (fun b=>some (Value.bool b)) (decide_eq_true k27)) (To.s (To.one 2 rfl (ros encX e.A e.args) rfl (Ex.args_kids e) ?_))))
 have ha1:e.args.length=1:=by rw[hf.args];exact op_one _ hf.o2 (by omega)
 obtain⟨x0,h0⟩:∃z0,e.args[0]?=some z0:=⟨e.args[0]'(by omega),gge _⟩
 have hz0:=Ex.tz_mem (mog h0)
 have ht0:=ih x0 (mog h0) (Ex.low_mem hlow (mog h0)) (Ex.fine_mem hfin (mog h0))
 have hf0:=Ex.fine_at (Ex.fine_mem hfin (mog h0))
 refine To.part 3 rfl (x0.kids encX) (Ex.lax encX x0) (Ex.mem_kids h0) (To.flow [box b1 [.int .u8 ((e.op:Nat):Int), .string e.name, .int .i64 e.n, .slice e.A e.args.length e.q] 241,box b3 [nv ((shO e.op).n), .bool ((shO e.op).nm), .int .i64 ((shO e.op).lv), .string ((shO e.op).tx)] 349,ros encX e.A e.args] [⟨0,[],0⟩,⟨1,[],0⟩,⟨2,[],0⟩,⟨3,[],0⟩,⟨4,[],0⟩,⟨5,[],0⟩,⟨6,[],0⟩,⟨7,[],0⟩,⟨8,[],0⟩,⟨9,[],0⟩,⟨10,[],4⟩,⟨11,[10],0⟩,⟨12,[10],0⟩,⟨13,[10],0⟩] mixed (by kernel_rfl) (ocs (oca 3 rfl) (ocs (oca 2 rfl) (ocs (oca 1 rfl) (ocn _)))) ?_)
 refine To.z 4 ?_
 refine Fw.f rfl (Rd.addZ (a:=((shO e.op).tx)) (b:=e.name) rfl rfl rfl (by first|omega|(simp only[ByteArray.size_append,bytes_size,lc1,ln0];omega))) ?_
 refine Fw.f rfl (Rd.addZ (a:=(((shO e.op).tx)++e.name)) (b:=(bytesOf [91])) rfl rfl rfl (by first|omega|(simp only[ByteArray.size_append,bytes_size,lc1,ln0];omega))) ?_
 refine To.z 4 ?_
 refine Fw.callM rfl rfl rfl rfl rfl (Ent.fn rfl rfl ca246) (ht0) (by show owns (x0.kids encX)++(owns gl++(p10c.owns++[]))=[];rw[(Ex.lax encX x0).owns];rfl) (ocs (oca 0 rfl) (ocs (oca 5 rfl) (ocs (oca 6 rfl) (ocn _)))) ?_
 rintro _ _ ⟨s1,rfl,rfl,hs1⟩
 refine⟨rfl,?_⟩
 refine Fw.f rfl (Rd.addZ (a:=((((shO e.op).tx)++e.name)++(bytesOf [91]))) (b:=s1) rfl rfl rfl (by first|omega|(simp only[ByteArray.size_append,bytes_size,lc1,ln0];omega))) ?_
 refine Fw.f rfl (Rd.addZ (a:=(((((shO e.op).tx)++e.name)++(bytesOf [91]))++s1)) (b:=(bytesOf [93])) rfl rfl rfl (by first|omega|(simp only[ByteArray.size_append,bytes_size,lc1,ln0];omega))) ?_
 refine To.z 6 ?_
 refine To.del6 (To.del5 (To.del4 (To.del3 (To.del2 (To.del1 (To.del0 (To.end1 (.inl rfl) Tryz.results246 rfl ?_)))))))
 exact⟨_,rfl,rfl,by first|omega|(simp only[ByteArray.size_append,bytes_size,lc1,ln0];omega)⟩
 refine To.z 5 ?_
 refine To.cp rfl (fun k27_2=>?_) (fun k27_2=>?_)
 refine To.s (To.one 2 rfl (ros encX e.A e.args) rfl (Ex.args_kids e) ?_)
 have ha1:e.args.length=1:=by rw[hf.args];exact op_one _ hf.o2 (by omega)
 obtain⟨x0,h0⟩:∃z0,e.args[0]?=some z0:=⟨e.args[0]'(by omega),gge _⟩
 have hz0:=Ex.tz_mem (mog h0)
 have ht0:=ih x0 (mog h0) (Ex.low_mem hlow (mog h0)) (Ex.fine_mem hfin (mog h0))
 have hf0:=Ex.fine_at (Ex.fine_mem hfin (mog h0))
 refine To.part 3 rfl (x0.kids encX) (Ex.lax encX x0) (Ex.mem_kids h0) (To.flow [box b1 [.int .u8 ((e.op:Nat):Int), .string e.name, .int .i64 e.n, .slice e.A e.args.length e.q] 241,box b3 [nv ((shO e.op).n), .bool ((shO e.op).nm), .int .i64 ((shO e.op).lv), .string ((shO e.op).tx)] 349,ros encX e.A e.args] [⟨0,[],0⟩,⟨1,[],0⟩,⟨2,[],0⟩,⟨3,[],0⟩,⟨4,[],0⟩,⟨5,[],0⟩,⟨6,[],0⟩,⟨7,[],0⟩,⟨8,[],0⟩,⟨9,[],0⟩,⟨10,[],4⟩,⟨11,[10],0⟩,⟨12,[10],0⟩,⟨13,[10],0⟩] mixed (by kernel_rfl) (ocs (oca 3 rfl) (ocs (oca 2 rfl) (ocs (oca 1 rfl) (ocn _)))) ?_)
 refine To.z 4 ?_
 refine Fw.f rfl (Rd.addZ (a:=((shO e.op).tx)) (b:=e.name) rfl rfl rfl (by first|omega|(simp only[ByteArray.size_append,bytes_size,lc1,ln0];omega))) ?_
 refine Fw.f rfl (Rd.addZ (a:=(((shO e.op).tx)++e.name)) (b:=(bytesOf [91])) rfl rfl rfl (by first|omega|(simp only[ByteArray.size_append,bytes_size,lc1,ln0];omega))) ?_
 refine To.z 4 ?_
 refine Fw.callM rfl rfl rfl rfl rfl (Ent.fn rfl rfl ca246) (ht0) (by show owns (x0.kids encX)++(owns gl++(p10c.owns++[]))=[];rw[(Ex.lax encX x0).owns];rfl) (ocs (oca 0 rfl) (ocs (oca 5 rfl) (ocs (oca 6 rfl) (ocn _)))) ?_
 rintro _ _ ⟨s1_2,rfl,rfl,hs1_2⟩
 refine⟨rfl,?_⟩
 refine Fw.f rfl (Rd.addZ (a:=((((shO e.op).tx)++e.name)++(bytesOf [91]))) (b:=s1_2) rfl rfl rfl (by first|omega|(simp only[ByteArray.size_append,bytes_size,lc1,ln0];omega))) ?_
 refine Fw.f rfl (Rd.addZ (a:=(((((shO e.op).tx)++e.name)++(bytesOf [91]))++s1_2)) (b:=(bytesOf [93])) rfl rfl rfl (by first|omega|(simp only[ByteArray.size_append,bytes_size,lc1,ln0];omega))) ?_
 refine To.z 6 ?_
 refine To.del6 (To.del5 (To.del4 (To.del3 (To.del2 (To.del1 (To.del0 (To.end1 (.inl rfl) Tryz.results246 rfl ?_)))))))
 exact⟨_,rfl,rfl,by first|omega|(simp only[ByteArray.size_append,bytes_size,lc1,ln0];omega)⟩
 refine To.z 7 ?_
 refine To.cp rfl (fun k43=>?_) (fun k43=>?_)
 refine To.sp (To.t (To.condT (congrArg (fun b=>some (Value.bool b)) (decide_eq_true k43)) (To.s (To.one 2 rfl (ros encX e.A e.args) rfl (Ex.args_kids e) ?_))))
 have ha1:e.args.length=1:=by rw[hf.args];exact op_one _ hf.o2 (by omega)
 obtain⟨x0,h0⟩:∃z0,e.args[0]?=some z0:=⟨e.args[0]'(by omega),gge _⟩
 have hz0:=Ex.tz_mem (mog h0)
 have ht0:=ih x0 (mog h0) (Ex.low_mem hlow (mog h0)) (Ex.fine_mem hfin (mog h0))
 have hf0:=Ex.fine_at (Ex.fine_mem hfin (mog h0))
 refine To.part 3 rfl (x0.kids encX) (Ex.lax encX x0) (Ex.mem_kids h0) (To.flow [box b1 [.int .u8 ((e.op:Nat):Int), .string e.name, .int .i64 e.n, .slice e.A e.args.length e.q] 241,box b3 [nv ((shO e.op).n), .bool ((shO e.op).nm), .int .i64 ((shO e.op).lv), .string ((shO e.op).tx)] 349,ros encX e.A e.args] [⟨0,[],0⟩,⟨1,[],0⟩,⟨2,[],0⟩,⟨3,[],0⟩,⟨4,[],0⟩,⟨5,[],0⟩,⟨6,[],0⟩,⟨7,[],0⟩,⟨8,[],4⟩,⟨9,[8],0⟩,⟨10,[8],0⟩] mixed (by kernel_rfl) (ocs (oca 3 rfl) (ocs (oca 2 rfl) (ocs (oca 1 rfl) (ocn _)))) ?_)
 refine To.z 8 ?_
 refine Fw.callM rfl rfl rfl rfl rfl (Ent.fn rfl rfl ca257) (operand_fn x0 hf0 x0.pure.tz (by omega) ht0 ((shO e.op).lv)) (by show owns (x0.kids encX)++(owns gl++(p10c.owns++[]))=[];rw[(Ex.lax encX x0).owns];rfl) (ocs (oca 0 rfl) (ocs (oca 5 rfl) (ocs (oca 6 rfl) (ocn _)))) ?_
 rintro _ _ ⟨s1_3,rfl,rfl,hs1_3⟩
 refine⟨rfl,?_⟩
 refine Fw.f rfl (Rd.addZ (a:=((shO e.op).tx)) (b:=s1_3) rfl rfl rfl (by first|omega|(simp only[ByteArray.size_append,bytes_size,lc1,ln0];omega))) ?_
 refine To.z 6 ?_
 refine To.del6 (To.del5 (To.del4 (To.del3 (To.del2 (To.del1 (To.del0 (To.end1 (.inl rfl) Tryz.results246 rfl ?_)))))))
 exact⟨_,rfl,rfl,by first|omega|(simp only[ByteArray.size_append,bytes_size,lc1,ln0];omega)⟩
 refine To.z 5 ?_
 refine To.cp rfl (fun k43_2=>?_) (fun k43_2=>?_)
 refine To.s (To.one 2 rfl (ros encX e.A e.args) rfl (Ex.args_kids e) ?_)
 have ha1:e.args.length=1:=by rw[hf.args];exact op_one _ hf.o2 (by omega)
 obtain⟨x0,h0⟩:∃z0,e.args[0]?=some z0:=⟨e.args[0]'(by omega),gge _⟩
 have hz0:=Ex.tz_mem (mog h0)
 have ht0:=ih x0 (mog h0) (Ex.low_mem hlow (mog h0)) (Ex.fine_mem hfin (mog h0))
 have hf0:=Ex.fine_at (Ex.fine_mem hfin (mog h0))
 refine To.part 3 rfl (x0.kids encX) (Ex.lax encX x0) (Ex.mem_kids h0) (To.flow [box b1 [.int .u8 ((e.op:Nat):Int), .string e.name, .int .i64 e.n, .slice e.A e.args.length e.q] 241,box b3 [nv ((shO e.op).n), .bool ((shO e.op).nm), .int .i64 ((shO e.op).lv), .string ((shO e.op).tx)] 349,ros encX e.A e.args] [⟨0,[],0⟩,⟨1,[],0⟩,⟨2,[],0⟩,⟨3,[],0⟩,⟨4,[],0⟩,⟨5,[],0⟩,⟨6,[],0⟩,⟨7,[],0⟩,⟨8,[],4⟩,⟨9,[8],0⟩,⟨10,[8],0⟩] mixed (by kernel_rfl) (ocs (oca 3 rfl) (ocs (oca 2 rfl) (ocs (oca 1 rfl) (ocn _)))) ?_)
 refine To.z 8 ?_
 refine Fw.callM rfl rfl rfl rfl rfl (Ent.fn rfl rfl ca257) (operand_fn x0 hf0 x0.pure.tz (by omega) ht0 ((shO e.op).lv)) (by show owns (x0.kids encX)++(owns gl++(p10c.owns++[]))=[];rw[(Ex.lax encX x0).owns];rfl) (ocs (oca 0 rfl) (ocs (oca 5 rfl) (ocs (oca 6 rfl) (ocn _)))) ?_
 rintro _ _ ⟨s1_4,rfl,rfl,hs1_4⟩
 refine⟨rfl,?_⟩
 refine Fw.f rfl (Rd.addZ (a:=((shO e.op).tx)) (b:=s1_4) rfl rfl rfl (by first|omega|(simp only[ByteArray.size_append,bytes_size,lc1,ln0];omega))) ?_
 refine To.z 6 ?_
 refine To.del6 (To.del5 (To.del4 (To.del3 (To.del2 (To.del1 (To.del0 (To.end1 (.inl rfl) Tryz.results246 rfl ?_)))))))
 exact⟨_,rfl,rfl,by first|omega|(simp only[ByteArray.size_append,bytes_size,lc1,ln0];omega)⟩
 refine To.z 11 ?_
 refine To.cp rfl (fun k58=>?_) (fun k58=>?_)
 refine To.z 9 ?_
 refine To.del4 (To.del3 (To.del2 (To.del1 (To.del0 (To.end1 (.inl rfl) Tryz.results246 rfl ?_)))))
 exact⟨_,rfl,rfl,by first|omega|(simp only[ByteArray.size_append,bytes_size,lc1,ln0];omega)⟩
 refine To.z 16 ?_
 refine To.cp rfl (fun k64=>?_) (fun k64=>?_)
 refine To.z 2 ?_
 refine To.r (Rd.add64 rfl rfl rfl (by omega)) ?_
 refine To.z 4 ?_
 refine To.one 2 rfl (ros encX e.A e.args) rfl (Ex.args_kids e) ?_
 have ha2:e.args.length=2:=by rw[hf.args];have:=op_two _ hf.o2;omega
 obtain⟨x0,h0⟩:∃z0,e.args[0]?=some z0:=⟨e.args[0]'(by omega),gge _⟩
 have ht0:=ih x0 (mog h0) (Ex.low_mem hlow (mog h0)) (Ex.fine_mem hfin (mog h0))
 have hf0:=Ex.fine_at (Ex.fine_mem hfin (mog h0))
 obtain⟨x1,h1⟩:∃z0,e.args[1]?=some z0:=⟨e.args[1]'(by omega),gge _⟩
 have ht1:=ih x1 (mog h1) (Ex.low_mem hlow (mog h1)) (Ex.fine_mem hfin (mog h1))
 have hf1:=Ex.fine_at (Ex.fine_mem hfin (mog h1))
 have hz2:=tzL_2 h0 h1
 refine To.part 3 rfl (x1.kids encX) (Ex.lax encX x1) (Ex.mem_kids h1) (To.part 4 rfl (x0.kids encX) (Ex.lax encX x0) (Ex.mem_kids h0) (To.flow [box b1 [.int .u8 ((e.op:Nat):Int), .string e.name, .int .i64 e.n, .slice e.A e.args.length e.q] 241,box b3 [nv ((shO e.op).n), .bool ((shO e.op).nm), .int .i64 ((shO e.op).lv), .string ((shO e.op).tx)] 349,ros encX e.A e.args] [⟨0,[],0⟩,⟨1,[],0⟩,⟨2,[],0⟩,⟨3,[],0⟩,⟨4,[],0⟩,⟨6,[],0⟩,⟨7,[],0⟩,⟨9,[],0⟩,⟨10,[],0⟩,⟨11,[],0⟩,⟨12,[],0⟩,⟨13,[],0⟩,⟨14,[],0⟩,⟨15,[],0⟩,⟨5,[],4⟩,⟨8,[5],0⟩,⟨16,[5],4⟩,⟨17,[5,16],0⟩,⟨18,[5,16],0⟩] mixed (by kernel_rfl) (ocs (oca 4 rfl) (ocs (oca 3 rfl) (ocs (oca 2 rfl) (ocn _)))) ?_))
 refine To.z 13 ?_
 refine Fw.f rfl (Rd.add64 rfl rfl rfl (by omega)) ?_
 refine Fw.callM rfl rfl rfl rfl rfl (Ent.fn rfl rfl ca257) (operand_fn x0 hf0 x0.pure.tz (by omega) ht0 (((shO e.op).lv)+1)) (by show owns (x0.kids encX)++(owns gl++(p10c.owns++[]))=[];rw[(Ex.lax encX x0).owns];rfl) (ocs (oca 0 rfl) (ocs (oca 6 rfl) (ocs (oca 7 rfl) (ocn _)))) ?_
 rintro _ _ ⟨s1_5,rfl,rfl,hs1_5⟩
 refine⟨rfl,?_⟩
 refine Fw.f rfl (Rd.addZ (a:=s1_5) (b:=((shO e.op).tx)) rfl rfl rfl (by first|omega|(simp only[ByteArray.size_append,bytes_size,lc1,ln0];omega))) ?_
 refine Fw.callM rfl rfl rfl rfl rfl (Ent.fn rfl rfl ca257) (operand_fn x1 hf1 x1.pure.tz (by omega) ht1 (((shO e.op).lv)+1)) (by show owns (x1.kids encX)++(owns gl++(p10c.owns++[]))=[];rw[(Ex.lax encX x1).owns];rfl) (ocs (oca 1 rfl) (ocs (oca 6 rfl) (ocs (oca 7 rfl) (ocn _)))) ?_
 rintro _ _ ⟨s1_6,rfl,rfl,hs1_6⟩
 refine⟨rfl,?_⟩
 refine Fw.f rfl (Rd.addZ (a:=(s1_5++((shO e.op).tx))) (b:=s1_6) rfl rfl rfl (by first|omega|(simp only[ByteArray.size_append,bytes_size,lc1,ln0];omega))) ?_
 refine To.z 4 ?_
 refine To.del7 (To.del6 (To.del5 (To.del4 (To.del3 (To.del2 (To.del1 (To.del0 (To.end1 (.inl rfl) Tryz.results246 rfl ?_))))))))
 exact⟨_,rfl,rfl,by first|omega|(simp only[ByteArray.size_append,bytes_size,lc1,ln0];omega)⟩
 refine To.z 3 ?_
 refine To.one 2 rfl (ros encX e.A e.args) rfl (Ex.args_kids e) ?_
 have ha2:e.args.length=2:=by rw[hf.args];have:=op_two _ hf.o2;omega
 obtain⟨x0,h0⟩:∃z0,e.args[0]?=some z0:=⟨e.args[0]'(by omega),gge _⟩
 have ht0:=ih x0 (mog h0) (Ex.low_mem hlow (mog h0)) (Ex.fine_mem hfin (mog h0))
 have hf0:=Ex.fine_at (Ex.fine_mem hfin (mog h0))
 obtain⟨x1,h1⟩:∃z0,e.args[1]?=some z0:=⟨e.args[1]'(by omega),gge _⟩
 have ht1:=ih x1 (mog h1) (Ex.low_mem hlow (mog h1)) (Ex.fine_mem hfin (mog h1))
 have hf1:=Ex.fine_at (Ex.fine_mem hfin (mog h1))
 have hz2:=tzL_2 h0 h1
 refine To.part 3 rfl (x1.kids encX) (Ex.lax encX x1) (Ex.mem_kids h1) (To.part 4 rfl (x0.kids encX) (Ex.lax encX x0) (Ex.mem_kids h0) (To.flow [box b1 [.int .u8 ((e.op:Nat):Int), .string e.name, .int .i64 e.n, .slice e.A e.args.length e.q] 241,box b3 [nv ((shO e.op).n), .bool ((shO e.op).nm), .int .i64 ((shO e.op).lv), .string ((shO e.op).tx)] 349,ros encX e.A e.args] [⟨0,[],0⟩,⟨1,[],0⟩,⟨2,[],0⟩,⟨3,[],0⟩,⟨4,[],0⟩,⟨6,[],0⟩,⟨7,[],0⟩,⟨9,[],0⟩,⟨10,[],0⟩,⟨11,[],0⟩,⟨12,[],0⟩,⟨13,[],0⟩,⟨14,[],0⟩,⟨15,[],0⟩,⟨5,[],4⟩,⟨8,[5],0⟩,⟨16,[5],4⟩,⟨17,[5,16],0⟩,⟨18,[5,16],0⟩] mixed (by kernel_rfl) (ocs (oca 4 rfl) (ocs (oca 3 rfl) (ocs (oca 2 rfl) (ocn _)))) ?_))
 refine To.z 13 ?_
 refine Fw.f rfl (Rd.add64 rfl rfl rfl (by omega)) ?_
 refine Fw.callM rfl rfl rfl rfl rfl (Ent.fn rfl rfl ca257) (operand_fn x0 hf0 x0.pure.tz (by omega) ht0 ((shO e.op).lv)) (by show owns (x0.kids encX)++(owns gl++(p10c.owns++[]))=[];rw[(Ex.lax encX x0).owns];rfl) (ocs (oca 0 rfl) (ocs (oca 6 rfl) (ocs (oca 7 rfl) (ocn _)))) ?_
 rintro _ _ ⟨s1_7,rfl,rfl,hs1_7⟩
 refine⟨rfl,?_⟩
 refine Fw.f rfl (Rd.addZ (a:=s1_7) (b:=((shO e.op).tx)) rfl rfl rfl (by first|omega|(simp only[ByteArray.size_append,bytes_size,lc1,ln0];omega))) ?_
 refine Fw.callM rfl rfl rfl rfl rfl (Ent.fn rfl rfl ca257) (operand_fn x1 hf1 x1.pure.tz (by omega) ht1 (((shO e.op).lv)+1)) (by show owns (x1.kids encX)++(owns gl++(p10c.owns++[]))=[];rw[(Ex.lax encX x1).owns];rfl) (ocs (oca 1 rfl) (ocs (oca 6 rfl) (ocs (oca 7 rfl) (ocn _)))) ?_
 rintro _ _ ⟨s1_8,rfl,rfl,hs1_8⟩
 refine⟨rfl,?_⟩
 refine Fw.f rfl (Rd.addZ (a:=(s1_7++((shO e.op).tx))) (b:=s1_8) rfl rfl rfl (by first|omega|(simp only[ByteArray.size_append,bytes_size,lc1,ln0];omega))) ?_
 refine To.z 4 ?_
 refine To.del7 (To.del6 (To.del5 (To.del4 (To.del3 (To.del2 (To.del1 (To.del0 (To.end1 (.inl rfl) Tryz.results246 rfl ?_))))))))
 exact⟨_,rfl,rfl,by first|omega|(simp only[ByteArray.size_append,bytes_size,lc1,ln0];omega)⟩
theorem text_fn:∀e:Ex,e.pure.tz≤90000→e.pure.low→e.pure.fine→Does Tryz.prog 246 [.agg (encX e).toArray] [all (e.kids encX),glc,p10c] (fun v Γ'=>∃s:ByteArray,v= .string s∧Γ'=[]∧s.size≤e.pure.tz)
 |e,hz,h1,h2=>text_step e h1 h2 hz (fun x hx=>text_fn x (by have:=Ex.tz_mem hx;have:=Ex.tz_eq e;omega))
termination_by e=>SizeOf.sizeOf e
decreasing_by
 cases e with
 | mk op s n A q l=>
   have:=List.sizeOf_lt_of_mem (show x∈l from hx)
   simp only[Ex.mk.sizeOf_spec]
   omega
theorem line0_fn(wb ind:Nat)(ad0:Value)(had0:ad0= .pointer none∨ad0=pv wb)(A0:Option Addr)(q0:Nat)(T0:List UInt8)(Ap:Option Addr)(qp:Nat)(ps:List ByteArray)(hi:ind≤40)(hn:ps.length≤100)(hl:T0.length+2*ind+lenZ ps+1≤140737488355328):
    Does Tryz.prog 107 [pv wb, .slice Ap ps.length qp] [box wb [ad0, .slice A0 T0.length q0,nv ind] 230,rows encBy 5 1 A0 q0 T0,rows encZ 9 1 Ap qp ps] (fun v Γ'=>∃(A':Option Addr) (q':Nat) (T':List UInt8),v= .tuple #[]∧Γ'=[box wb [pv wb, .slice A' T'.length q',nv ind] 230,rows encBy 5 1 A' q' T']∧T'.length=T0.length+2*ind+lenZ ps+1):=by
 have hs2:(bytesOf [32,32]).size=2:=rfl
 refine Does.enter Tryz.func107 rfl Tryz.ntmps107 rfl (fun w0=>?_)
 refine To.z 11 ?_
 refine To.sub [(0,pv wb),(1, .slice Ap ps.length qp),(9,nv ind),(10,nv 0)] ⟨rfl,rfl,rfl,rfl,trivial⟩ ?_
 refine To.loop (fun mz ρ Γ=>∃(ad:Value) (A:Option Addr) (q:Nat) (T:List UInt8) (k:Nat),ρ=[(0,pv wb),(1, .slice Ap ps.length qp),(9,nv ind),(10,nv k)]∧Γ=[box wb [ad, .slice A T.length q,nv ind] 230,rows encBy 5 1 A q T,rows encZ 9 1 Ap qp ps]∧mz=ind-k∧(k≤ind)∧(ad= .pointer none∨ad=pv wb)∧(T.length=T0.length+2*k)) (ind-0) ⟨ad0,A0,q0,T0,0,rfl,rfl,rfl,(Nat.zero_le _),had0,rfl⟩ ?_
 rintro mz _ _ ⟨ad,A,q,T,k,rfl,rfl,rfl,hk,had,hT⟩
 refine To.z 6 ?_
 refine To.cp rfl (fun k11=>?_) (fun k11=>?_)
 refine To.z 8 ?_
 refine To.cl [0,0] rfl rfl rfl (Ent.fn rfl rfl ca53) rfl (wsx_fn (ind:=ind) wb ad had A q T (bytesOf [32,32]) (by omega)) ?_
 rintro _ _ ⟨Aw,qw,Tw,nw,rfl,rfl,hw⟩
 refine To.z 8 ?_
 refine To.sub [(0,pv wb),(1, .slice Ap ps.length qp),(9,nv ind),(10,nv ((k+1)))] ⟨rfl,rfl,rfl,rfl,trivial⟩ ?_
 refine To.ag (ind-(k+1)) (by omega) ⟨(pv wb),Aw,qw,Tw,k+1,rfl,rfl,rfl,(by omega),(.inr rfl),(by omega)⟩
 refine To.z 14 ?_
 refine To.sub [(0,pv wb),(17, .slice Ap ps.length qp),(18,nv ps.length),(19,nv 0)] ⟨rfl,rfl,rfl,rfl,trivial⟩ ?_
 refine To.loop (fun mz ρ Γ=>∃(ad:Value) (A:Option Addr) (q:Nat) (T:List UInt8) (k:Nat),ρ=[(0,pv wb),(17, .slice Ap ps.length qp),(18,nv ps.length),(19,nv k)]∧Γ=[box wb [ad, .slice A T.length q,nv ind] 230,rows encBy 5 1 A q T,rows encZ 9 1 Ap qp ps]∧mz=ps.length-k∧(k≤ps.length)∧(ad= .pointer none∨ad=pv wb)∧(T.length=T0.length+2*ind+lenZ (ps.take k))) (ps.length-0) ⟨ad,A,q,T,0,rfl,rfl,rfl,(Nat.zero_le _),had,(by rw[hT,show k=ind by omega];rfl)⟩ ?_
 rintro mz _ _ ⟨ad,A,q,T,k,rfl,rfl,rfl,hk,had,hT⟩
 have hzk:=lenZ_le ps k
 refine To.z 6 ?_
 refine To.cp rfl (fun k20=>?_) (fun k20=>?_)
 obtain⟨x,hx⟩:∃z0,ps[k]?=some z0:=⟨ps[k]'(by omega),gge _⟩
 have hz1:=lenZ_take hx
 have hz2:=lenZ_le ps (k+1)
 refine To.z 16 ?_
 refine To.cl [0,0] rfl rfl rfl (Ent.fn rfl rfl ca53) rfl (wsx_fn (ind:=ind) wb ad had A q T x (by omega)) ?_
 rintro _ _ ⟨Aw,qw,Tw,nw,rfl,rfl,hw⟩
 refine To.z 8 ?_
 refine To.sub [(0,pv wb),(17, .slice Ap ps.length qp),(18,nv ps.length),(19,nv ((k+1)))] ⟨rfl,rfl,rfl,rfl,trivial⟩ ?_
 refine To.ag (ps.length-(k+1)) (by omega) ⟨(pv wb),Aw,qw,Tw,k+1,rfl,rfl,rfl,(by omega),(.inr rfl),(by rw[lenZ_take hx];omega)⟩
 refine To.z 9 ?_
 refine To.cl [0,0] rfl rfl rfl (Ent.fn rfl rfl ca58) rfl (wbx_fn (ind:=ind) wb ad had A q T 10 (by omega)) ?_
 rintro _ _ ⟨Aw,qw,Tw,rfl,rfl,hw⟩
 refine To.n (To.del2 (To.end0 (.inr rfl) Tryz.results107 ?_))
 exact⟨_,_,_,rfl,rfl,by rw[hw,hT,show k=ps.length by omega,List.take_length]⟩
theorem line_fn{wb:Nat}(ind:Nat)(A0:Option Addr)(q0:Nat)(T0:List UInt8)(Ap:Option Addr)(qp:Nat)(ps:List ByteArray)(hi:ind≤40)(hn:ps.length≤100)(hl:T0.length+2*ind+lenZ ps+1≤140737488355328):Does Tryz.prog 107 [pv wb, .slice Ap ps.length qp] [box wb [pv wb, .slice A0 T0.length q0,nv ind] 230,rows encBy 5 1 A0 q0 T0,rows encZ 9 1 Ap qp ps] (fun v Γ'=>∃(A':Option Addr) (q':Nat) (T':List UInt8),v= .tuple #[]∧Γ'=[box wb [pv wb, .slice A' T'.length q',nv ind] 230,rows encBy 5 1 A' q' T']∧T'.length=T0.length+2*ind+lenZ ps+1):=line0_fn wb ind _ (.inr rfl) A0 q0 T0 Ap qp ps hi hn hl
theorem fbool0_fn(b:Bool):
    Does Tryz.prog 164 [.bool b] [] (fun v _=>v= .string (bytesOf (if b then [116,114,117,101]else [102,97,108,115,101]))):=by
 refine Does.enter Tryz.func164 rfl Tryz.ntmps164 rfl (fun w0=>?_)
 refine To.z 11 ?_
 refine To.cond rfl (fun k3=>?_) (fun k3=>?_)
 refine To.z 7 ?_
 refine To.end1 (.inl rfl) Tryz.results164 rfl ?_
 rw[k3];rfl
 refine To.z 8 ?_
 refine To.end1 (.inl rfl) Tryz.results164 rfl ?_
 rw[k3];rfl
theorem fbool_fn(b:Bool):
    Does Tryz.prog 108 [.bool b] [] (fun v _=>v= .string (bytesOf (if b then [116,114,117,101]else [102,97,108,115,101]))):=by
 refine Does.enter Tryz.func108 rfl Tryz.ntmps108 rfl (fun w0=>?_)
 refine To.z 8 ?_
 refine To.cV rfl rfl rfl (Ent.fn rfl rfl ca164) (fbool0_fn b) rfl (ocn _) ?_
 refine To.z 4 ?_
 refine To.end1 (.inl rfl) Tryz.results108 rfl ?_
 rfl
theorem fbool_sz(b:Bool):(bytesOf (if b then [116,114,117,101]else [102,97,108,115,101])).size≤5:=by cases b<;>decide
end Go.Proofs.YtihgdnjkofpgiaaGreatDoor
