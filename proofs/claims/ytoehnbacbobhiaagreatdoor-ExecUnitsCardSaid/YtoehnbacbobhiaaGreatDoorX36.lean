/- The reference's execution: faults, sends, the disk. Own text (walks printed by sx.py). -/
import Derived.Test.YtoehnbacbobhiaaGreatDoorL1
import Derived.Test.YtoehnbacbobhiaaGreatDoorX35
set_option linter.unusedVariables false
set_option linter.unusedSimpArgs false
namespace Go.Proofs.YtoehnbacbobhiaaGreatDoor
open Go.RowKit Go.Flow Go.Mem Go.Sep
def endV (d : Dv) : Dv := { stopV d with fault := true }
def sentV (e : EfV) (d : Dv) : Dv := if 8 ≤ d.sends then endV d else { d with sends := d.sends + 1, effs := d.effs ++ [e] }
def payV (d : Dv) : Dv := if 200 ≤ d.cost then endV d else { d with cost := d.cost + 1 }
def storeV (s : Sm) (k v : Int) (d : Dv) : Dv := { d with disks := d.disks + 1, disk := if decide (s.dsk + d.disks ∈ s.fail) = true then d.disk else putR d.disk k v, effs := d.effs ++ [⟨3, 0, 0, 0, k, v, decide (s.dsk + d.disks ∈ s.fail), []⟩] }
def fetchV (s : Sm) (j : Nat) (k : Int) (d : Dv) : Dv := if decide (s.dsk + d.disks ∈ s.fail) = true then { d with disks := d.disks + 1, effs := d.effs ++ [⟨4, 0, 0, 0, k, 0, true, []⟩] } else { d with disks := d.disks + 1, vars := d.vars.set j ((getT d.disk k).getD 0), effs := d.effs ++ [⟨4, 0, 0, 0, k, (getT d.disk k).getD 0, false, []⟩] }
set_option maxHeartbeats 2000000 in
set_option maxRecDepth 100000 in
theorem fault_fn (b : Nat) (s : Sm) (d : Dm) (hel : d.effs.length ≤ 4000000) :
    Does Tryz.prog 26 [.pointer (some ⟨b, 0, none⟩)] [box b [.slice s.Aa s.args.length s.qa, .int .i64 s.now, .slice s.Ag s.flags.length s.qg, .int .i64 s.dsk, .slice s.Af s.fail.length s.qf, .slice d.Av d.vars.length d.qv, .slice d.At d.tabs.length d.qt, .slice d.dk.A d.dk.l.length d.dk.q, .slice d.Ae d.effs.length d.qe, .int .i64 d.cost, .slice d.As d.stack.length d.qs, .int .i64 d.disks, .int .i64 d.sends, .bool d.fault, .string ByteArray.empty, .slice none 0 0, .slice none 0 0, .string ByteArray.empty, .slice none 0 0, .slice none 0 0, .slice none 0 0, .int .i64 0] 106, rows encI 2 1 d.Av d.qv d.vars, rows Tb.cells 44 1 d.At d.qt d.tabs, rosS encEn (d.tabs.map Tb.ar), ros encEn d.dk.A d.dk.l, rows Ef.rcells 92 8 d.Ae d.qe d.effs, rosS encI (d.effs.map Ef.ar), rows encI 2 1 d.As d.qs d.stack] (fun r Γ' => r = .tuple #[] ∧ ∃ d' : Dm, Γ' = [box b [.slice s.Aa s.args.length s.qa, .int .i64 s.now, .slice s.Ag s.flags.length s.qg, .int .i64 s.dsk, .slice s.Af s.fail.length s.qf, .slice d'.Av d'.vars.length d'.qv, .slice d'.At d'.tabs.length d'.qt, .slice d'.dk.A d'.dk.l.length d'.dk.q, .slice d'.Ae d'.effs.length d'.qe, .int .i64 d'.cost, .slice d'.As d'.stack.length d'.qs, .int .i64 d'.disks, .int .i64 d'.sends, .bool d'.fault, .string ByteArray.empty, .slice none 0 0, .slice none 0 0, .string ByteArray.empty, .slice none 0 0, .slice none 0 0, .slice none 0 0, .int .i64 0] 106, rows encI 2 1 d'.Av d'.qv d'.vars, rows Tb.cells 44 1 d'.At d'.qt d'.tabs, rosS encEn (d'.tabs.map Tb.ar), ros encEn d'.dk.A d'.dk.l, rows Ef.rcells 92 8 d'.Ae d'.qe d'.effs, rosS encI (d'.effs.map Ef.ar), rows encI 2 1 d'.As d'.qs d'.stack] ∧ d'.val = endV d.val) := by
  refine Does.enter Tryz.func26 rfl Tryz.ntmps26 rfl (fun w0 => ?_)
  refine To.seq (To.reg (To.m ?_))
  refine To.r (Rd.nilCheck rfl rfl) ?_
  refine To.f fl106_5 ?_
  refine To.u (Up.store (i := 0) rfl rfl rfl c4 rfl rfl (box_takes1 rfl)) ?_
  refine To.nil (To.thenN ?_)
  refine To.free (c := ros encI none []) rfl rfl (fun w => .inl rfl) ?_
  refine To.reg (To.m ?_)
  refine To.m ?_
  refine To.r (Rd.nilCheck rfl rfl) ?_
  refine To.f fl106_1 ?_
  refine To.f fl68_1 ?_
  refine To.lo 1 c66 ?_
  refine To.r (Rd.build (vs := [(0, .int .i64 5)]) (cells := [.int .i64 5, .int .i64 0, .int .i64 0, .int .i64 0, .int .i64 0, .int .i64 0, .bool false, .slice none 0 0]) rfl rfl rfl (by kernel_rfl)) ?_
  refine To.mk rfl rfl rfl (Mk.sliceN (us := [.int .i64 5, .int .i64 0, .int .i64 0, .int .i64 0, .int .i64 0, .int .i64 0, .bool false, .slice none 0 0]) rfl s66 rfl rfl rfl rfl rfl rfl) ?_
  rintro _ _ ⟨b12, rfl, rfl⟩
  refine To.ge rfl rfl rfl (Ge.append1 encRe (i := 7) (j := 0) (el := (⟨5, 0, 0, 0, 0, 0, false, none, 0, ([] : List Int)⟩ : Ef)) rfl s66 rfl rfl rfl rfl rfl (by first | omega | (simp only [List.length_append, List.length_cons, List.length_nil]; omega)) (by first | omega | (simp only [List.length_append, List.length_cons, List.length_nil]; omega))) ?_
  rintro _ _ ⟨A13, q13, rfl, rfl⟩
  refine To.r (Rd.nilCheck rfl rfl) ?_
  refine To.f fl106_1 ?_
  refine To.f fl68_1 ?_
  refine To.u (Up.store (i := 2) rfl rfl rfl c66 rfl rfl (box_takes1 rfl)) ?_
  refine To.nil ?_
  refine To.famS ((d.effs ++ [(⟨5, 0, 0, 0, 0, 0, false, none, 0, ([] : List Int)⟩ : Ef)]).map Ef.ar) 8 rfl (famE_snoc (List.mem_of_getElem? (i := 1) rfl)) ?_
  refine To.del9 ?_
  refine To.del2 ?_
  refine To.del1 ?_
  refine To.up6 ?_
  refine To.up6 ?_
  refine To.up6 ?_
  refine To.up6 ?_
  refine To.up6 ?_
  refine To.up6 ?_
  refine To.end0 (.inr rfl) Tryz.results26 ?_
  exact ⟨rfl, (⟨d.Av, d.qv, d.vars, d.At, d.qt, d.tabs, ⟨d.dk.A, d.dk.q, d.dk.l⟩, A13, q13, (d.effs ++ [(⟨5, 0, 0, 0, 0, 0, false, none, 0, ([] : List Int)⟩ : Ef)]), d.cost, d.As, d.qs, d.stack, d.next, d.sends, d.disks, true⟩ : Dm), rfl, by simp [endV, stopV, faultE, Dm.val, Ef.val]⟩
set_option maxHeartbeats 2000000 in
set_option maxRecDepth 100000 in
theorem pay_fn (b : Nat) (s : Sm) (d : Dm) (hel : d.effs.length ≤ 4000000) (hc : 0 ≤ d.cost ∧ d.cost ≤ 200) :
    Does Tryz.prog 46 [.pointer (some ⟨b, 0, none⟩)] [box b [.slice s.Aa s.args.length s.qa, .int .i64 s.now, .slice s.Ag s.flags.length s.qg, .int .i64 s.dsk, .slice s.Af s.fail.length s.qf, .slice d.Av d.vars.length d.qv, .slice d.At d.tabs.length d.qt, .slice d.dk.A d.dk.l.length d.dk.q, .slice d.Ae d.effs.length d.qe, .int .i64 d.cost, .slice d.As d.stack.length d.qs, .int .i64 d.disks, .int .i64 d.sends, .bool d.fault, .string ByteArray.empty, .slice none 0 0, .slice none 0 0, .string ByteArray.empty, .slice none 0 0, .slice none 0 0, .slice none 0 0, .int .i64 0] 106, rows encI 2 1 d.Av d.qv d.vars, rows Tb.cells 44 1 d.At d.qt d.tabs, rosS encEn (d.tabs.map Tb.ar), ros encEn d.dk.A d.dk.l, rows Ef.rcells 92 8 d.Ae d.qe d.effs, rosS encI (d.effs.map Ef.ar), rows encI 2 1 d.As d.qs d.stack] (fun r Γ' => r = .bool (decide (d.cost < 200)) ∧ ∃ d' : Dm, Γ' = [box b [.slice s.Aa s.args.length s.qa, .int .i64 s.now, .slice s.Ag s.flags.length s.qg, .int .i64 s.dsk, .slice s.Af s.fail.length s.qf, .slice d'.Av d'.vars.length d'.qv, .slice d'.At d'.tabs.length d'.qt, .slice d'.dk.A d'.dk.l.length d'.dk.q, .slice d'.Ae d'.effs.length d'.qe, .int .i64 d'.cost, .slice d'.As d'.stack.length d'.qs, .int .i64 d'.disks, .int .i64 d'.sends, .bool d'.fault, .string ByteArray.empty, .slice none 0 0, .slice none 0 0, .string ByteArray.empty, .slice none 0 0, .slice none 0 0, .slice none 0 0, .int .i64 0] 106, rows encI 2 1 d'.Av d'.qv d'.vars, rows Tb.cells 44 1 d'.At d'.qt d'.tabs, rosS encEn (d'.tabs.map Tb.ar), ros encEn d'.dk.A d'.dk.l, rows Ef.rcells 92 8 d'.Ae d'.qe d'.effs, rosS encI (d'.effs.map Ef.ar), rows encI 2 1 d'.As d'.qs d'.stack] ∧ d'.val = payV d.val) := by
  have hcs : 0 ≤ d.cost ∧ d.cost ≤ 200 := hc
  refine Does.enter Tryz.func46 rfl Tryz.ntmps46 rfl (fun w0 => ?_)
  refine To.seq (To.reg (To.a (To.nil (To.thenN (To.seq (To.seq (To.reg ?_)))))))
  refine To.m ?_
  refine To.r (Rd.nilCheck rfl rfl) ?_
  refine To.f fl106_1 ?_
  refine To.f fl68_2 ?_
  refine To.lo 0 c3 ?_
  refine To.r (Rd.geq rfl rfl rfl) ?_
  refine To.nil (To.thenN ?_)
  refine To.condP rfl (fun c8 => ?_) (fun c8 => ?_)
  ·
   refine To.seq (To.reg (To.m ?_))
   refine To.call [0, 0, 0, 0, 0, 0, 0, 0] rfl rfl rfl (Ent.fn rfl rfl ca26) rfl (fault_fn b s d hel) ?_
   rintro _ _ ⟨rfl, d', rfl, hv⟩
   refine To.nil (To.thenN (To.seq (To.reg (To.a (To.nil (To.thenN (To.ret (To.thenR ?_))))))))
   refine To.end1 (.inl rfl) Tryz.results46 rfl ?_
   exact ⟨congrArg Value.bool (decide_eq_false (by omega)).symm, d', rfl, by rw [hv]; exact (if_pos (show 200 ≤ d.val.cost from c8)).symm⟩
  refine To.skip (To.thenN (To.seq (To.reg (To.m ?_))))
  refine To.r (Rd.nilCheck rfl rfl) ?_
  refine To.f fl106_1 ?_
  refine To.f fl68_2 ?_
  refine To.lo 0 c3 ?_
  refine To.r (Rd.add64 rfl rfl rfl (by omega)) ?_
  refine To.r (Rd.nilCheck rfl rfl) ?_
  refine To.f fl106_1 ?_
  refine To.f fl68_2 ?_
  refine To.u (Up.store (i := 0) rfl rfl rfl c3 rfl rfl (box_takes1 rfl)) ?_
  refine To.nil (To.thenN (To.seq (To.reg (To.a (To.nil (To.thenN (To.ret ?_)))))))
  refine To.end1 (.inl rfl) Tryz.results46 rfl ?_
  exact ⟨congrArg Value.bool (decide_eq_true (by omega)).symm, (⟨d.Av, d.qv, d.vars, d.At, d.qt, d.tabs, ⟨d.dk.A, d.dk.q, d.dk.l⟩, d.Ae, d.qe, d.effs, d.cost + 1, d.As, d.qs, d.stack, d.next, d.sends, d.disks, d.fault⟩ : Dm), rfl, (if_neg (show ¬ 200 ≤ d.val.cost from c8)).symm⟩
set_option maxHeartbeats 2000000 in
set_option maxRecDepth 100000 in
theorem sent_fn (b : Nat) (s : Sm) (d : Dm) (e : Ef) (hel : d.effs.length ≤ 4000000) (hs : 0 ≤ d.sends ∧ d.sends ≤ 8) :
    Does Tryz.prog 47 [.pointer (some ⟨b, 0, none⟩), .agg #[.int .i64 e.k, .int .i64 e.to, .int .i64 e.h, .int .i64 e.d, .int .i64 e.key, .int .i64 e.v, .bool e.f, .slice e.A e.args.length e.q]] [box b [.slice s.Aa s.args.length s.qa, .int .i64 s.now, .slice s.Ag s.flags.length s.qg, .int .i64 s.dsk, .slice s.Af s.fail.length s.qf, .slice d.Av d.vars.length d.qv, .slice d.At d.tabs.length d.qt, .slice d.dk.A d.dk.l.length d.dk.q, .slice d.Ae d.effs.length d.qe, .int .i64 d.cost, .slice d.As d.stack.length d.qs, .int .i64 d.disks, .int .i64 d.sends, .bool d.fault, .string ByteArray.empty, .slice none 0 0, .slice none 0 0, .string ByteArray.empty, .slice none 0 0, .slice none 0 0, .slice none 0 0, .int .i64 0] 106, rows encI 2 1 d.Av d.qv d.vars, rows Tb.cells 44 1 d.At d.qt d.tabs, rosS encEn (d.tabs.map Tb.ar), ros encEn d.dk.A d.dk.l, rows Ef.rcells 92 8 d.Ae d.qe d.effs, rosS encI (d.effs.map Ef.ar), rows encI 2 1 d.As d.qs d.stack, ros encI e.A e.args] (fun r Γ' => r = .tuple #[] ∧ ∃ d' : Dm, Γ' = [box b [.slice s.Aa s.args.length s.qa, .int .i64 s.now, .slice s.Ag s.flags.length s.qg, .int .i64 s.dsk, .slice s.Af s.fail.length s.qf, .slice d'.Av d'.vars.length d'.qv, .slice d'.At d'.tabs.length d'.qt, .slice d'.dk.A d'.dk.l.length d'.dk.q, .slice d'.Ae d'.effs.length d'.qe, .int .i64 d'.cost, .slice d'.As d'.stack.length d'.qs, .int .i64 d'.disks, .int .i64 d'.sends, .bool d'.fault, .string ByteArray.empty, .slice none 0 0, .slice none 0 0, .string ByteArray.empty, .slice none 0 0, .slice none 0 0, .slice none 0 0, .int .i64 0] 106, rows encI 2 1 d'.Av d'.qv d'.vars, rows Tb.cells 44 1 d'.At d'.qt d'.tabs, rosS encEn (d'.tabs.map Tb.ar), ros encEn d'.dk.A d'.dk.l, rows Ef.rcells 92 8 d'.Ae d'.qe d'.effs, rosS encI (d'.effs.map Ef.ar), rows encI 2 1 d'.As d'.qs d'.stack] ∧ d'.val = sentV e.val d.val) := by
  have hss : 0 ≤ d.sends ∧ d.sends ≤ 8 := hs
  refine Does.enter Tryz.func47 rfl Tryz.ntmps47 rfl (fun w0 => ?_)
  refine To.seq (To.reg ?_)
  refine To.boxed rfl rfl rfl rfl rfl rfl (fun b3 => ?_)
  refine To.nil (To.thenN (To.seq (To.seq (To.reg (To.m ?_)))))
  refine To.r (Rd.nilCheck rfl rfl) ?_
  refine To.f fl106_4 ?_
  refine To.lo 1 c3 ?_
  refine To.r (Rd.geq rfl rfl rfl) ?_
  refine To.nil (To.thenN ?_)
  refine To.condP rfl (fun c8 => ?_) (fun c8 => ?_)
  ·
   refine To.seq (To.reg (To.m ?_))
   refine To.call [1, 1, 1, 1, 1, 1, 1, 1] rfl rfl rfl (Ent.fn rfl rfl ca26) rfl (fault_fn b s d hel) ?_
   rintro _ _ ⟨rfl, d', rfl, hv⟩
   refine To.nil (To.thenN (To.ret (To.thenR ?_)))
   refine To.del9 ?_
   refine To.del8 ?_
   refine To.end0 (.inl rfl) Tryz.results47 ?_
   exact ⟨rfl, d', rfl, by rw [hv]; exact (if_pos (show 8 ≤ d.val.sends from c8)).symm⟩
  refine To.skip (To.thenN (To.seq (To.reg (To.m ?_))))
  refine To.r (Rd.nilCheck rfl rfl) ?_
  refine To.f fl106_4 ?_
  refine To.lo 1 c3 ?_
  refine To.r (Rd.add64 rfl rfl rfl (by omega)) ?_
  refine To.r (Rd.nilCheck rfl rfl) ?_
  refine To.f fl106_4 ?_
  refine To.u (Up.store (i := 1) rfl rfl rfl c3 rfl rfl (box_takes1 rfl)) ?_
  refine To.nil (To.thenN ?_)
  refine To.flow [] [⟨0, [], 0⟩, ⟨1, [], 0⟩, ⟨2, [], 0⟩, ⟨3, [], 0⟩, ⟨4, [], 0⟩, ⟨5, [], 1⟩, ⟨6, [], 1⟩, ⟨7, [], 2⟩, ⟨8, [7], 5⟩, ⟨9, [], 0⟩, ⟨10, [], 0⟩, ⟨11, [], 0⟩, ⟨12, [], 5⟩] mixed (by kernel_rfl) (oks_nil _) ?_
  refine FlowS.mo ?_
  refine FlowS.mo ?_
  refine FlowS.f rfl (Rd.nilCheck rfl rfl) ?_
  refine FlowS.fi fl106_1 ?_
  refine FlowS.fi fl68_1 ?_
  refine FlowS.lo 1 c66 ?_
  refine FlowS.r rfl (Rd.loadS (i := 0) rfl rfl r92 rfl box_whole rfl) ?_
  refine FlowS.mk rfl rfl rfl rfl rfl (Mk.sliceN (us := [.int .i64 e.k, .int .i64 e.to, .int .i64 e.h, .int .i64 e.d, .int .i64 e.key, .int .i64 e.v, .bool e.f, .slice e.A e.args.length e.q]) rfl s66 rfl rfl rfl rfl rfl rfl) ?_
  rintro _ _ ⟨b25, rfl, rfl⟩
  refine FlowS.ge rfl rfl rfl rfl (Ge.append1 encRe (i := 7) (j := 0) (el := e) rfl s66 rfl rfl rfl rfl rfl (by first | omega | (simp only [List.length_append, List.length_cons, List.length_nil]; omega)) (by first | omega | (simp only [List.length_append, List.length_cons, List.length_nil]; omega))) ?_
  rintro _ _ ⟨A26, q26, rfl, rfl⟩
  refine ⟨oks_nil _, ?_⟩
  refine FlowS.f rfl (Rd.nilCheck rfl rfl) ?_
  refine FlowS.fi fl106_1 ?_
  refine FlowS.fi fl68_1 ?_
  refine FlowS.up rfl rfl rfl (Up.store (i := 2) rfl rfl rfl c66 rfl rfl (box_takes1 rfl)) (oks_nil _) ?_
  refine FlowS.fin ?_
  refine To.famS ((d.effs ++ [e]).map Ef.ar) 8 rfl (famE_snoc (List.mem_of_getElem? (i := 10) rfl)) ?_
  refine To.del11 ?_
  refine To.del9 ?_
  refine To.del2 ?_
  refine To.del1 ?_
  refine To.up6 ?_
  refine To.up6 ?_
  refine To.up6 ?_
  refine To.up6 ?_
  refine To.up6 ?_
  refine To.up6 ?_
  refine To.end0 (.inr rfl) Tryz.results47 ?_
  exact ⟨rfl, (⟨d.Av, d.qv, d.vars, d.At, d.qt, d.tabs, ⟨d.dk.A, d.dk.q, d.dk.l⟩, A26, q26, (d.effs ++ [e]), d.cost, d.As, d.qs, d.stack, d.next, d.sends + 1, d.disks, d.fault⟩ : Dm), rfl, by unfold sentV; rw [if_neg (show ¬ 8 ≤ d.val.sends from c8)]; simp [Dm.val]⟩
set_option maxHeartbeats 2000000 in
set_option maxRecDepth 100000 in
theorem fails_fn (b : Nat) (s : Sm) (d : Dm) (hd : 0 ≤ d.disks ∧ d.disks ≤ 2000000) (hk : 0 ≤ s.dsk ∧ s.dsk ≤ 1000000000) (hfl : s.fail.length ≤ 1000000) :
    Does Tryz.prog 75 [.pointer (some ⟨b, 0, none⟩)] [box b [.slice s.Aa s.args.length s.qa, .int .i64 s.now, .slice s.Ag s.flags.length s.qg, .int .i64 s.dsk, .slice s.Af s.fail.length s.qf, .slice d.Av d.vars.length d.qv, .slice d.At d.tabs.length d.qt, .slice d.dk.A d.dk.l.length d.dk.q, .slice d.Ae d.effs.length d.qe, .int .i64 d.cost, .slice d.As d.stack.length d.qs, .int .i64 d.disks, .int .i64 d.sends, .bool d.fault, .string ByteArray.empty, .slice none 0 0, .slice none 0 0, .string ByteArray.empty, .slice none 0 0, .slice none 0 0, .slice none 0 0, .int .i64 0] 106, rows encI 2 1 d.Av d.qv d.vars, rows Tb.cells 44 1 d.At d.qt d.tabs, rosS encEn (d.tabs.map Tb.ar), ros encEn d.dk.A d.dk.l, rows Ef.rcells 92 8 d.Ae d.qe d.effs, rosS encI (d.effs.map Ef.ar), rows encI 2 1 d.As d.qs d.stack, ros encI s.Af s.fail] (fun r Γ' => r = .bool (decide (s.dsk + d.disks ∈ s.fail)) ∧ ∃ d' : Dm, Γ' = [box b [.slice s.Aa s.args.length s.qa, .int .i64 s.now, .slice s.Ag s.flags.length s.qg, .int .i64 s.dsk, .slice s.Af s.fail.length s.qf, .slice d'.Av d'.vars.length d'.qv, .slice d'.At d'.tabs.length d'.qt, .slice d'.dk.A d'.dk.l.length d'.dk.q, .slice d'.Ae d'.effs.length d'.qe, .int .i64 d'.cost, .slice d'.As d'.stack.length d'.qs, .int .i64 d'.disks, .int .i64 d'.sends, .bool d'.fault, .string ByteArray.empty, .slice none 0 0, .slice none 0 0, .string ByteArray.empty, .slice none 0 0, .slice none 0 0, .slice none 0 0, .int .i64 0] 106, rows encI 2 1 d'.Av d'.qv d'.vars, rows Tb.cells 44 1 d'.At d'.qt d'.tabs, rosS encEn (d'.tabs.map Tb.ar), ros encEn d'.dk.A d'.dk.l, rows Ef.rcells 92 8 d'.Ae d'.qe d'.effs, rosS encI (d'.effs.map Ef.ar), rows encI 2 1 d'.As d'.qs d'.stack] ∧ d' = { d with disks := d.disks + 1 }) := by
  have hdd : 0 ≤ d.disks ∧ d.disks ≤ 2000000 := hd
  have hds : 0 ≤ s.dsk ∧ s.dsk ≤ 1000000000 := hk
  refine Does.enter Tryz.func75 rfl Tryz.ntmps75 rfl (fun w0 => ?_)
  refine To.seq (To.reg (To.a (To.nil (To.thenN (To.seq ?_)))))
  refine To.flow [] [⟨0, [], 0⟩, ⟨1, [], 0⟩, ⟨2, [], 0⟩, ⟨3, [], 0⟩, ⟨5, [], 0⟩, ⟨6, [], 0⟩, ⟨7, [], 0⟩, ⟨4, [], 1⟩, ⟨8, [], 1⟩, ⟨9, [], 0⟩, ⟨10, [], 0⟩] mixed (by kernel_rfl) (oks_nil _) ?_
  refine FlowS.mo ?_
  refine FlowS.f rfl (Rd.nilCheck rfl rfl) ?_
  refine FlowS.fi fl106_0 ?_
  refine FlowS.fi fl51_3 ?_
  refine FlowS.mo ?_
  refine FlowS.f rfl (Rd.nilCheck rfl rfl) ?_
  refine FlowS.fi fl106_3 ?_
  refine FlowS.lo 0 c3 ?_
  refine FlowS.lo 0 c3 ?_
  refine FlowS.f rfl (Rd.add64 rfl rfl rfl (by omega)) ?_
  refine FlowS.f rfl (Rd.assign rfl rfl) ?_
  refine FlowS.fin ?_
  refine To.thenN (To.seq (To.reg (To.m ?_)))
  refine To.r (Rd.nilCheck rfl rfl) ?_
  refine To.f fl106_3 ?_
  refine To.lo 0 c3 ?_
  refine To.r (Rd.add64 rfl rfl rfl (by omega)) ?_
  refine To.r (Rd.nilCheck rfl rfl) ?_
  refine To.f fl106_3 ?_
  refine To.u (Up.store (i := 0) rfl rfl rfl c3 rfl rfl (box_takes1 rfl)) ?_
  refine To.nil (To.thenN (To.seq (To.seq (To.reg (To.m ?_)))))
  refine To.r (Rd.nilCheck rfl rfl) ?_
  refine To.f fl106_0 ?_
  refine To.f fl51_4 ?_
  refine To.lo 0 c48 ?_
  refine To.r (Rd.len rfl rfl Tryz.underlying48) ?_
  refine To.m (To.nil (To.thenN (To.block ?_)))
  refine To.sub [(3, .int .i64 (s.dsk + d.disks)), (27, .slice s.Af s.fail.length s.qf), (28, .int .i64 ((s.fail.length : Nat) : Int)), (29, .int .i64 ((0 : Nat) : Int))] ⟨rfl, rfl, rfl, rfl, trivial⟩ ?_
  refine To.loop (fun mz ρ Γ => ∃ (i : Nat), ρ = [(3, .int .i64 (s.dsk + d.disks)), (27, .slice s.Af s.fail.length s.qf), (28, .int .i64 ((s.fail.length : Nat) : Int)), (29, .int .i64 ((i : Nat) : Int))] ∧ Γ = [box b [.slice s.Aa s.args.length s.qa, .int .i64 s.now, .slice s.Ag s.flags.length s.qg, .int .i64 s.dsk, .slice s.Af s.fail.length s.qf, .slice d.Av d.vars.length d.qv, .slice d.At d.tabs.length d.qt, .slice d.dk.A d.dk.l.length d.dk.q, .slice d.Ae d.effs.length d.qe, .int .i64 d.cost, .slice d.As d.stack.length d.qs, .int .i64 (d.disks + 1), .int .i64 d.sends, .bool d.fault, .string ByteArray.empty, .slice none 0 0, .slice none 0 0, .string ByteArray.empty, .slice none 0 0, .slice none 0 0, .slice none 0 0, .int .i64 0] 106, rows encI 2 1 d.Av d.qv d.vars, rows Tb.cells 44 1 d.At d.qt d.tabs, rosS encEn (d.tabs.map Tb.ar), ros encEn d.dk.A d.dk.l, rows Ef.rcells 92 8 d.Ae d.qe d.effs, rosS encI (d.effs.map Ef.ar), rows encI 2 1 d.As d.qs d.stack, ros encI s.Af s.fail] ∧ mz = s.fail.length - i ∧ (i ≤ s.fail.length) ∧ (¬ s.dsk + d.disks ∈ s.fail.take i)) (s.fail.length - 0) ⟨0, rfl, rfl, rfl, (Nat.zero_le _), (by simp)⟩ ?_
  rintro mz _ _ ⟨i, rfl, rfl, rfl, hi, hI⟩
  refine To.seq (To.reg ?_)
  refine To.r (Rd.lss rfl rfl rfl) ?_
  refine To.nil (To.thenN (To.seq ?_))
  refine To.condP rfl (fun c30 => ?_) (fun c30 => ?_)
  ·
   obtain ⟨x, hx⟩ : ∃ z0, s.fail[i]? = some z0 := ⟨s.fail[i]'(by omega), List.getElem?_eq_getElem _⟩
   refine To.skip (To.thenN (To.seq (To.block (To.seq (To.reg ?_)))))
   refine To.r (Rd.indexRos encI_ok (i := 8) (j := i) rfl rfl rfl s48 rfl hx) ?_
   refine To.r (Rd.load (i := 8) rfl rfl c3 rfl (gives_1 (ros_gives encI_ok hx) rfl)) ?_
   refine To.a (To.nil (To.thenN (To.seq (To.reg ?_))))
   refine To.m ?_
   refine To.m ?_
   refine To.r (Rd.eql rfl rfl rfl) ?_
   refine To.nil (To.thenN ?_)
   refine To.condP rfl (fun c35 => ?_) (fun c35 => ?_)
   ·
    refine To.seq (To.reg (To.a (To.nil (To.thenN (To.ret (To.blockR (To.thenR (To.thenR (To.blockR (To.thenR ?_))))))))))
    refine To.del8 ?_
    refine To.end1 (.inl rfl) Tryz.results75 rfl ?_
    exact ⟨congrArg Value.bool (decide_eq_true (by rw [← c35]; exact List.mem_of_getElem? hx)).symm, (⟨d.Av, d.qv, d.vars, d.At, d.qt, d.tabs, ⟨d.dk.A, d.dk.q, d.dk.l⟩, d.Ae, d.qe, d.effs, d.cost, d.As, d.qs, d.stack, d.next, d.sends, d.disks + 1, d.fault⟩ : Dm), rfl, rfl⟩
   refine To.skip (To.blockN (To.thenN (To.reg ?_)))
   refine To.r (Rd.inc rfl rfl rfl (by omega)) ?_
   refine To.m (To.nil (To.thenN ?_))
   refine To.sub [(3, .int .i64 (s.dsk + d.disks)), (27, .slice s.Af s.fail.length s.qf), (28, .int .i64 ((s.fail.length : Nat) : Int)), (29, .int .i64 (((i + 1) : Nat) : Int))] ⟨rfl, rfl, rfl, rfl, trivial⟩ ?_
   refine To.again (s.fail.length - (i + 1)) (by omega) ⟨i + 1, rfl, rfl, rfl, (by omega), (fun h => by
     rw [take_of_get hx] at h
     rcases List.mem_append.1 h with h1 | h1
     · exact hI h1
     · rw [List.mem_singleton] at h1; exact c35 h1.symm)⟩
  refine To.exit (To.thenX (To.thenX (To.blockX (To.thenN (To.seq (To.reg (To.a (To.nil (To.thenN (To.ret ?_))))))))))
  refine To.del8 ?_
  refine To.end1 (.inl rfl) Tryz.results75 rfl ?_
  exact ⟨congrArg Value.bool (decide_eq_false (by rw [show s.fail = s.fail.take i from (List.take_of_length_le (by omega)).symm]; exact hI)).symm, (⟨d.Av, d.qv, d.vars, d.At, d.qt, d.tabs, ⟨d.dk.A, d.dk.q, d.dk.l⟩, d.Ae, d.qe, d.effs, d.cost, d.As, d.qs, d.stack, d.next, d.sends, d.disks + 1, d.fault⟩ : Dm), rfl, rfl⟩
set_option maxHeartbeats 2000000 in
set_option maxRecDepth 100000 in
theorem store_fn (b : Nat) (s : Sm) (d : Dm) (k v : Int) (hel : d.effs.length ≤ 4000000) (hd : 0 ≤ d.disks ∧ d.disks ≤ 2000000) (hk : 0 ≤ s.dsk ∧ s.dsk ≤ 1000000000) (hfl : s.fail.length ≤ 1000000) (hg : Good d.dk.l) :
    Does Tryz.prog 48 [.pointer (some ⟨b, 0, none⟩), .int .i64 k, .int .i64 v] [box b [.slice s.Aa s.args.length s.qa, .int .i64 s.now, .slice s.Ag s.flags.length s.qg, .int .i64 s.dsk, .slice s.Af s.fail.length s.qf, .slice d.Av d.vars.length d.qv, .slice d.At d.tabs.length d.qt, .slice d.dk.A d.dk.l.length d.dk.q, .slice d.Ae d.effs.length d.qe, .int .i64 d.cost, .slice d.As d.stack.length d.qs, .int .i64 d.disks, .int .i64 d.sends, .bool d.fault, .string ByteArray.empty, .slice none 0 0, .slice none 0 0, .string ByteArray.empty, .slice none 0 0, .slice none 0 0, .slice none 0 0, .int .i64 0] 106, rows encI 2 1 d.Av d.qv d.vars, rows Tb.cells 44 1 d.At d.qt d.tabs, rosS encEn (d.tabs.map Tb.ar), ros encEn d.dk.A d.dk.l, rows Ef.rcells 92 8 d.Ae d.qe d.effs, rosS encI (d.effs.map Ef.ar), rows encI 2 1 d.As d.qs d.stack, ros encI s.Af s.fail] (fun r Γ' => r = .bool (decide (s.dsk + d.disks ∈ s.fail)) ∧ ∃ d' : Dm, Γ' = [box b [.slice s.Aa s.args.length s.qa, .int .i64 s.now, .slice s.Ag s.flags.length s.qg, .int .i64 s.dsk, .slice s.Af s.fail.length s.qf, .slice d'.Av d'.vars.length d'.qv, .slice d'.At d'.tabs.length d'.qt, .slice d'.dk.A d'.dk.l.length d'.dk.q, .slice d'.Ae d'.effs.length d'.qe, .int .i64 d'.cost, .slice d'.As d'.stack.length d'.qs, .int .i64 d'.disks, .int .i64 d'.sends, .bool d'.fault, .string ByteArray.empty, .slice none 0 0, .slice none 0 0, .string ByteArray.empty, .slice none 0 0, .slice none 0 0, .slice none 0 0, .int .i64 0] 106, rows encI 2 1 d'.Av d'.qv d'.vars, rows Tb.cells 44 1 d'.At d'.qt d'.tabs, rosS encEn (d'.tabs.map Tb.ar), ros encEn d'.dk.A d'.dk.l, rows Ef.rcells 92 8 d'.Ae d'.qe d'.effs, rosS encI (d'.effs.map Ef.ar), rows encI 2 1 d'.As d'.qs d'.stack] ∧ d'.val = storeV s k v d.val) := by
  refine Does.enter Tryz.func48 rfl Tryz.ntmps48 rfl (fun w0 => ?_)
  refine To.seq (To.reg (To.a (To.nil (To.thenN (To.seq (To.reg ?_))))))
  refine To.m ?_
  refine To.call [0, 0, 0, 0, 0, 0, 0, 0, 0] rfl rfl rfl (Ent.fn rfl rfl ca75) rfl (fails_fn b s d hd hk hfl) ?_
  rintro _ _ ⟨rfl, _, rfl, rfl⟩
  refine To.a (To.nil (To.thenN (To.seq (To.seq (To.reg ?_)))))
  refine To.m ?_
  refine To.r (Rd.not rfl rfl) ?_
  refine To.nil (To.thenN ?_)
  refine To.cond rfl (fun c11 => ?_) (fun c11 => ?_)
  ·
   refine To.reg (To.m ?_)
   refine To.m ?_
   refine To.r (Rd.nilCheck rfl rfl) ?_
   refine To.f fl106_1 ?_
   refine To.f fl68_0 ?_
   refine To.f fl46_2 ?_
   refine To.lo 0 c44 ?_
   refine To.m ?_
   refine To.m ?_
   refine To.call [4] rfl rfl rfl (Ent.fn rfl rfl ca44) rfl (rput2_fn d.dk.A d.dk.q d.dk.l k v hg) ?_
   rintro _ _ ⟨Bd, qd, rfl, rfl⟩
   refine To.r (Rd.nilCheck rfl rfl) ?_
   refine To.f fl106_1 ?_
   refine To.f fl68_0 ?_
   refine To.f fl46_2 ?_
   refine To.u (Up.store (i := 1) rfl rfl rfl c44 rfl rfl (box_takes1 rfl)) ?_
   refine To.nil (To.thenN (To.seq ?_))
   refine To.free (c := ros encI none []) rfl rfl (fun w => .inl rfl) ?_
   refine To.reg (To.m ?_)
   refine To.m ?_
   refine To.r (Rd.nilCheck rfl rfl) ?_
   refine To.f fl106_1 ?_
   refine To.f fl68_1 ?_
   refine To.lo 2 c66 ?_
   refine To.m ?_
   refine To.m ?_
   refine To.m ?_
   refine To.r (Rd.build (vs := [(0, .int .i64 3), (4, .int .i64 k), (5, .int .i64 v), (6, .bool (decide (s.dsk + d.disks ∈ s.fail)))]) (cells := [.int .i64 3, .int .i64 0, .int .i64 0, .int .i64 0, .int .i64 k, .int .i64 v, .bool (decide (s.dsk + d.disks ∈ s.fail)), .slice none 0 0]) rfl rfl rfl (by kernel_rfl)) ?_
   refine To.mk rfl rfl rfl (Mk.sliceN (us := [.int .i64 3, .int .i64 0, .int .i64 0, .int .i64 0, .int .i64 k, .int .i64 v, .bool (decide (s.dsk + d.disks ∈ s.fail)), .slice none 0 0]) rfl s66 rfl rfl rfl rfl rfl rfl) ?_
   rintro _ _ ⟨b36, rfl, rfl⟩
   refine To.ge rfl rfl rfl (Ge.append1 encRe (i := 7) (j := 0) (el := (⟨3, 0, 0, 0, k, v, (decide (s.dsk + d.disks ∈ s.fail)), none, 0, ([] : List Int)⟩ : Ef)) rfl s66 rfl rfl rfl rfl rfl (by first | omega | (simp only [List.length_append, List.length_cons, List.length_nil]; omega)) (by first | omega | (simp only [List.length_append, List.length_cons, List.length_nil]; omega))) ?_
   rintro _ _ ⟨A37, q37, rfl, rfl⟩
   refine To.r (Rd.nilCheck rfl rfl) ?_
   refine To.f fl106_1 ?_
   refine To.f fl68_1 ?_
   refine To.u (Up.store (i := 3) rfl rfl rfl c66 rfl rfl (box_takes1 rfl)) ?_
   refine To.nil (To.thenN (To.seq (To.reg (To.m ?_))))
   refine To.a (To.nil (To.thenN (To.ret ?_)))
   refine To.famS ((d.effs ++ [(⟨3, 0, 0, 0, k, v, (decide (s.dsk + d.disks ∈ s.fail)), none, 0, ([] : List Int)⟩ : Ef)]).map Ef.ar) 8 rfl (famE_snoc (List.mem_of_getElem? (i := 1) rfl)) ?_
   refine To.del9 ?_
   refine To.del2 ?_
   refine To.del1 ?_
   refine To.up6 ?_
   refine To.up2 ?_
   refine To.up6 ?_
   refine To.up6 ?_
   refine To.up6 ?_
   refine To.up6 ?_
   refine To.end1 (.inl rfl) Tryz.results48 rfl ?_
   have hb2 : decide (s.dsk + d.disks ∈ s.fail) = false := by simpa using c11
   have hb : decide (s.dsk + d.val.disks ∈ s.fail) = false := hb2
   exact ⟨rfl, (⟨d.Av, d.qv, d.vars, d.At, d.qt, d.tabs, ⟨Bd, qd, (putR d.dk.l k v)⟩, A37, q37, (d.effs ++ [(⟨3, 0, 0, 0, k, v, (decide (s.dsk + d.disks ∈ s.fail)), none, 0, ([] : List Int)⟩ : Ef)]), d.cost, d.As, d.qs, d.stack, d.next, d.sends, d.disks + 1, d.fault⟩ : Dm), rfl, by unfold storeV; rw [hb]; simp only [Dm.val, List.map_append, List.map_cons, List.map_nil, Ef.val, hb2]; rfl⟩
  refine To.skip (To.thenN (To.seq ?_))
  refine To.free (c := ros encI none []) rfl rfl (fun w => .inl rfl) ?_
  refine To.reg (To.m ?_)
  refine To.m ?_
  refine To.r (Rd.nilCheck rfl rfl) ?_
  refine To.f fl106_1 ?_
  refine To.f fl68_1 ?_
  refine To.lo 1 c66 ?_
  refine To.m ?_
  refine To.m ?_
  refine To.m ?_
  refine To.r (Rd.build (vs := [(0, .int .i64 3), (4, .int .i64 k), (5, .int .i64 v), (6, .bool (decide (s.dsk + d.disks ∈ s.fail)))]) (cells := [.int .i64 3, .int .i64 0, .int .i64 0, .int .i64 0, .int .i64 k, .int .i64 v, .bool (decide (s.dsk + d.disks ∈ s.fail)), .slice none 0 0]) rfl rfl rfl (by kernel_rfl)) ?_
  refine To.mk rfl rfl rfl (Mk.sliceN (us := [.int .i64 3, .int .i64 0, .int .i64 0, .int .i64 0, .int .i64 k, .int .i64 v, .bool (decide (s.dsk + d.disks ∈ s.fail)), .slice none 0 0]) rfl s66 rfl rfl rfl rfl rfl rfl) ?_
  rintro _ _ ⟨b36_2, rfl, rfl⟩
  refine To.ge rfl rfl rfl (Ge.append1 encRe (i := 7) (j := 0) (el := (⟨3, 0, 0, 0, k, v, (decide (s.dsk + d.disks ∈ s.fail)), none, 0, ([] : List Int)⟩ : Ef)) rfl s66 rfl rfl rfl rfl rfl (by first | omega | (simp only [List.length_append, List.length_cons, List.length_nil]; omega)) (by first | omega | (simp only [List.length_append, List.length_cons, List.length_nil]; omega))) ?_
  rintro _ _ ⟨A37_2, q37_2, rfl, rfl⟩
  refine To.r (Rd.nilCheck rfl rfl) ?_
  refine To.f fl106_1 ?_
  refine To.f fl68_1 ?_
  refine To.u (Up.store (i := 2) rfl rfl rfl c66 rfl rfl (box_takes1 rfl)) ?_
  refine To.nil (To.thenN (To.seq (To.reg (To.m ?_))))
  refine To.a (To.nil (To.thenN (To.ret ?_)))
  refine To.famS ((d.effs ++ [(⟨3, 0, 0, 0, k, v, (decide (s.dsk + d.disks ∈ s.fail)), none, 0, ([] : List Int)⟩ : Ef)]).map Ef.ar) 8 rfl (famE_snoc (List.mem_of_getElem? (i := 1) rfl)) ?_
  refine To.del9 ?_
  refine To.del2 ?_
  refine To.del1 ?_
  refine To.up6 ?_
  refine To.up6 ?_
  refine To.up6 ?_
  refine To.up6 ?_
  refine To.up6 ?_
  refine To.up6 ?_
  refine To.end1 (.inl rfl) Tryz.results48 rfl ?_
  have hb2 : decide (s.dsk + d.disks ∈ s.fail) = true := by simpa using c11
  have hb : decide (s.dsk + d.val.disks ∈ s.fail) = true := hb2
  exact ⟨rfl, (⟨d.Av, d.qv, d.vars, d.At, d.qt, d.tabs, ⟨d.dk.A, d.dk.q, d.dk.l⟩, A37_2, q37_2, (d.effs ++ [(⟨3, 0, 0, 0, k, v, (decide (s.dsk + d.disks ∈ s.fail)), none, 0, ([] : List Int)⟩ : Ef)]), d.cost, d.As, d.qs, d.stack, d.next, d.sends, d.disks + 1, d.fault⟩ : Dm), rfl, by unfold storeV; rw [hb]; simp only [Dm.val, List.map_append, List.map_cons, List.map_nil, Ef.val, hb2]; rfl⟩
set_option maxHeartbeats 2000000 in
set_option maxRecDepth 100000 in
theorem fetch_fn (b : Nat) (s : Sm) (d : Dm) (j : Nat) (y k : Int) (hx : d.vars[j]? = some y) (hel : d.effs.length ≤ 4000000) (hd : 0 ≤ d.disks ∧ d.disks ≤ 2000000) (hk : 0 ≤ s.dsk ∧ s.dsk ≤ 1000000000) (hfl : s.fail.length ≤ 1000000) (hg : Good d.dk.l) :
    Does Tryz.prog 49 [.pointer (some ⟨b, 0, none⟩), .int .i64 ((j : Nat) : Int), .int .i64 k] [box b [.slice s.Aa s.args.length s.qa, .int .i64 s.now, .slice s.Ag s.flags.length s.qg, .int .i64 s.dsk, .slice s.Af s.fail.length s.qf, .slice d.Av d.vars.length d.qv, .slice d.At d.tabs.length d.qt, .slice d.dk.A d.dk.l.length d.dk.q, .slice d.Ae d.effs.length d.qe, .int .i64 d.cost, .slice d.As d.stack.length d.qs, .int .i64 d.disks, .int .i64 d.sends, .bool d.fault, .string ByteArray.empty, .slice none 0 0, .slice none 0 0, .string ByteArray.empty, .slice none 0 0, .slice none 0 0, .slice none 0 0, .int .i64 0] 106, rows encI 2 1 d.Av d.qv d.vars, rows Tb.cells 44 1 d.At d.qt d.tabs, rosS encEn (d.tabs.map Tb.ar), ros encEn d.dk.A d.dk.l, rows Ef.rcells 92 8 d.Ae d.qe d.effs, rosS encI (d.effs.map Ef.ar), rows encI 2 1 d.As d.qs d.stack, ros encI s.Af s.fail] (fun r Γ' => r = .bool (decide (s.dsk + d.disks ∈ s.fail)) ∧ ∃ d' : Dm, Γ' = [box b [.slice s.Aa s.args.length s.qa, .int .i64 s.now, .slice s.Ag s.flags.length s.qg, .int .i64 s.dsk, .slice s.Af s.fail.length s.qf, .slice d'.Av d'.vars.length d'.qv, .slice d'.At d'.tabs.length d'.qt, .slice d'.dk.A d'.dk.l.length d'.dk.q, .slice d'.Ae d'.effs.length d'.qe, .int .i64 d'.cost, .slice d'.As d'.stack.length d'.qs, .int .i64 d'.disks, .int .i64 d'.sends, .bool d'.fault, .string ByteArray.empty, .slice none 0 0, .slice none 0 0, .string ByteArray.empty, .slice none 0 0, .slice none 0 0, .slice none 0 0, .int .i64 0] 106, rows encI 2 1 d'.Av d'.qv d'.vars, rows Tb.cells 44 1 d'.At d'.qt d'.tabs, rosS encEn (d'.tabs.map Tb.ar), ros encEn d'.dk.A d'.dk.l, rows Ef.rcells 92 8 d'.Ae d'.qe d'.effs, rosS encI (d'.effs.map Ef.ar), rows encI 2 1 d'.As d'.qs d'.stack] ∧ d'.val = fetchV s j k d.val) := by
  have hjl : j < d.vars.length := (List.getElem?_eq_some_iff.1 hx).1
  refine Does.enter Tryz.func49 rfl Tryz.ntmps49 rfl (fun w0 => ?_)
  refine To.seq (To.reg (To.a (To.nil (To.thenN (To.seq (To.seq (To.reg ?_)))))))
  refine To.m ?_
  refine To.call [0, 0, 0, 0, 0, 0, 0, 0, 0] rfl rfl rfl (Ent.fn rfl rfl ca75) rfl (fails_fn b s d hd hk hfl) ?_
  rintro _ _ ⟨rfl, _, rfl, rfl⟩
  refine To.nil (To.thenN ?_)
  refine To.cond rfl (fun c10 => ?_) (fun c10 => ?_)
  ·
   refine To.seq ?_
   refine To.free (c := ros encI none []) rfl rfl (fun w => .inl rfl) ?_
   refine To.reg (To.m ?_)
   refine To.m ?_
   refine To.r (Rd.nilCheck rfl rfl) ?_
   refine To.f fl106_1 ?_
   refine To.f fl68_1 ?_
   refine To.lo 1 c66 ?_
   refine To.m ?_
   refine To.r (Rd.build (vs := [(0, .int .i64 4), (4, .int .i64 k), (6, .bool true)]) (cells := [.int .i64 4, .int .i64 0, .int .i64 0, .int .i64 0, .int .i64 k, .int .i64 0, .bool true, .slice none 0 0]) rfl rfl rfl (by kernel_rfl)) ?_
   refine To.mk rfl rfl rfl (Mk.sliceN (us := [.int .i64 4, .int .i64 0, .int .i64 0, .int .i64 0, .int .i64 k, .int .i64 0, .bool true, .slice none 0 0]) rfl s66 rfl rfl rfl rfl rfl rfl) ?_
   rintro _ _ ⟨b19, rfl, rfl⟩
   refine To.ge rfl rfl rfl (Ge.append1 encRe (i := 7) (j := 0) (el := (⟨4, 0, 0, 0, k, 0, true, none, 0, ([] : List Int)⟩ : Ef)) rfl s66 rfl rfl rfl rfl rfl (by first | omega | (simp only [List.length_append, List.length_cons, List.length_nil]; omega)) (by first | omega | (simp only [List.length_append, List.length_cons, List.length_nil]; omega))) ?_
   rintro _ _ ⟨A20, q20, rfl, rfl⟩
   refine To.r (Rd.nilCheck rfl rfl) ?_
   refine To.f fl106_1 ?_
   refine To.f fl68_1 ?_
   refine To.u (Up.store (i := 2) rfl rfl rfl c66 rfl rfl (box_takes1 rfl)) ?_
   refine To.nil (To.thenN (To.seq (To.reg (To.a (To.nil (To.thenN (To.ret (To.thenR ?_))))))))
   refine To.famS ((d.effs ++ [(⟨4, 0, 0, 0, k, 0, true, none, 0, ([] : List Int)⟩ : Ef)]).map Ef.ar) 8 rfl (famE_snoc (List.mem_of_getElem? (i := 1) rfl)) ?_
   refine To.del9 ?_
   refine To.del2 ?_
   refine To.del1 ?_
   refine To.up6 ?_
   refine To.up6 ?_
   refine To.up6 ?_
   refine To.up6 ?_
   refine To.up6 ?_
   refine To.up6 ?_
   refine To.end1 (.inl rfl) Tryz.results49 rfl ?_
   have hb : decide (s.dsk + d.val.disks ∈ s.fail) = true := c10
   exact ⟨congrArg Value.bool c10.symm, (⟨d.Av, d.qv, d.vars, d.At, d.qt, d.tabs, ⟨d.dk.A, d.dk.q, d.dk.l⟩, A20, q20, (d.effs ++ [(⟨4, 0, 0, 0, k, 0, true, none, 0, ([] : List Int)⟩ : Ef)]), d.cost, d.As, d.qs, d.stack, d.next, d.sends, d.disks + 1, d.fault⟩ : Dm), rfl, by unfold fetchV; rw [if_pos hb]; simp [Dm.val, Ef.val]⟩
  refine To.skip (To.thenN (To.seq (To.reg (To.m ?_))))
  refine To.r (Rd.nilCheck rfl rfl) ?_
  refine To.f fl106_1 ?_
  refine To.f fl68_0 ?_
  refine To.f fl46_2 ?_
  refine To.lo 0 c44 ?_
  refine To.m ?_
  refine To.callV rfl rfl rfl (Ent.fn rfl rfl ca74) (rget_fn d.dk.A d.dk.q d.dk.l k (by have := hg.len; omega)) rfl (oks_cons (oks_at 4 rfl) (oks_nil _)) ?_
  refine To.m ?_
  refine To.r (Rd.extract rfl rfl rfl) ?_
  refine To.r (Rd.extract rfl rfl rfl) ?_
  refine To.a ?_
  refine To.a (To.nil (To.thenN (To.seq (To.reg ?_))))
  refine To.m ?_
  refine To.r (Rd.nilCheck rfl rfl) ?_
  refine To.f fl106_1 ?_
  refine To.f fl68_0 ?_
  refine To.f fl46_0 ?_
  refine To.lo 0 c24 ?_
  refine To.m ?_
  refine To.m ?_
  refine To.r (Rd.indexRows (i := 1) (j := j) rfl rfl rfl s24 rfl hx) ?_
  refine To.u (Up.store (i := 1) rfl rfl rfl c2 rfl rfl (rows_takes encI_ok (y := ((getT d.dk.l k).getD 0)) (by decide) (by omega))) ?_
  refine To.nil (To.thenN (To.seq ?_))
  refine To.free (c := ros encI none []) rfl rfl (fun w => .inl rfl) ?_
  refine To.reg (To.m ?_)
  refine To.m ?_
  refine To.r (Rd.nilCheck rfl rfl) ?_
  refine To.f fl106_1 ?_
  refine To.f fl68_1 ?_
  refine To.lo 1 c66 ?_
  refine To.m ?_
  refine To.m ?_
  refine To.r (Rd.build (vs := [(0, .int .i64 4), (4, .int .i64 k), (5, .int .i64 ((getT d.dk.l k).getD 0))]) (cells := [.int .i64 4, .int .i64 0, .int .i64 0, .int .i64 0, .int .i64 k, .int .i64 ((getT d.dk.l k).getD 0), .bool false, .slice none 0 0]) rfl rfl rfl (by kernel_rfl)) ?_
  refine To.mk rfl rfl rfl (Mk.sliceN (us := [.int .i64 4, .int .i64 0, .int .i64 0, .int .i64 0, .int .i64 k, .int .i64 ((getT d.dk.l k).getD 0), .bool false, .slice none 0 0]) rfl s66 rfl rfl rfl rfl rfl rfl) ?_
  rintro _ _ ⟨b53, rfl, rfl⟩
  refine To.ge rfl rfl rfl (Ge.append1 encRe (i := 7) (j := 0) (el := (⟨4, 0, 0, 0, k, (getT d.dk.l k).getD 0, false, none, 0, ([] : List Int)⟩ : Ef)) rfl s66 rfl rfl rfl rfl rfl (by first | omega | (simp only [List.length_append, List.length_cons, List.length_nil]; omega)) (by first | omega | (simp only [List.length_append, List.length_cons, List.length_nil]; omega))) ?_
  rintro _ _ ⟨A54, q54, rfl, rfl⟩
  refine To.r (Rd.nilCheck rfl rfl) ?_
  refine To.f fl106_1 ?_
  refine To.f fl68_1 ?_
  refine To.u (Up.store (i := 2) rfl rfl rfl c66 rfl rfl (box_takes1 rfl)) ?_
  refine To.nil (To.thenN (To.seq (To.reg (To.a (To.nil (To.thenN (To.ret ?_)))))))
  refine To.as [row 92 8 (some ⟨b53, 0, none⟩) 1 1 [.int .i64 4, .int .i64 0, .int .i64 0, .int .i64 0, .int .i64 k, .int .i64 ((getT d.dk.l k).getD 0), .bool false, .slice none 0 0], ros encI none ([] : List Int), box b [.slice s.Aa s.args.length s.qa, .int .i64 s.now, .slice s.Ag s.flags.length s.qg, .int .i64 s.dsk, .slice s.Af s.fail.length s.qf, .slice d.Av ((d.vars.set j ((getT d.dk.l k).getD 0)).length) d.qv, .slice d.At d.tabs.length d.qt, .slice d.dk.A d.dk.l.length d.dk.q, .slice A54 ((d.effs ++ [(⟨4, 0, 0, 0, k, (getT d.dk.l k).getD 0, false, none, 0, ([] : List Int)⟩ : Ef)]).length) q54, .int .i64 d.cost, .slice d.As d.stack.length d.qs, .int .i64 (d.disks + 1), .int .i64 d.sends, .bool d.fault, .string ByteArray.empty, .slice none 0 0, .slice none 0 0, .string ByteArray.empty, .slice none 0 0, .slice none 0 0, .slice none 0 0, .int .i64 0] 106, rows encI 2 1 d.Av d.qv (d.vars.set j ((getT d.dk.l k).getD 0)), rows Tb.cells 44 1 d.At d.qt d.tabs, rosS encEn (d.tabs.map Tb.ar), ros encEn d.dk.A d.dk.l, rows Ef.rcells 92 8 A54 q54 (d.effs ++ [(⟨4, 0, 0, 0, k, (getT d.dk.l k).getD 0, false, none, 0, ([] : List Int)⟩ : Ef)]), rosS encI (d.effs.map Ef.ar), rows encI 2 1 d.As d.qs d.stack] (by rw [List.length_set] <;> rfl) ?_
  refine To.famS ((d.effs ++ [(⟨4, 0, 0, 0, k, (getT d.dk.l k).getD 0, false, none, 0, ([] : List Int)⟩ : Ef)]).map Ef.ar) 8 rfl (famE_snoc (List.mem_of_getElem? (i := 1) rfl)) ?_
  refine To.del9 ?_
  refine To.del2 ?_
  refine To.del1 ?_
  refine To.up6 ?_
  refine To.up6 ?_
  refine To.up6 ?_
  refine To.up6 ?_
  refine To.up6 ?_
  refine To.up6 ?_
  refine To.end1 (.inl rfl) Tryz.results49 rfl ?_
  have hb : decide (s.dsk + d.val.disks ∈ s.fail) = false := c10
  exact ⟨congrArg Value.bool c10.symm, (⟨d.Av, d.qv, (d.vars.set j ((getT d.dk.l k).getD 0)), d.At, d.qt, d.tabs, ⟨d.dk.A, d.dk.q, d.dk.l⟩, A54, q54, (d.effs ++ [(⟨4, 0, 0, 0, k, (getT d.dk.l k).getD 0, false, none, 0, ([] : List Int)⟩ : Ef)]), d.cost, d.As, d.qs, d.stack, d.next, d.sends, d.disks + 1, d.fault⟩ : Dm), rfl, by unfold fetchV; rw [if_neg (by rw [hb]; decide)]; simp [Dm.val, Ef.val]⟩
end Go.Proofs.YtoehnbacbobhiaaGreatDoor
