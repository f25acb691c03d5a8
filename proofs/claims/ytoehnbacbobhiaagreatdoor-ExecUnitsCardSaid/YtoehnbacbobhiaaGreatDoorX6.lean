/- The machine runs. Own text (walks printed by sx.py). -/
import Derived.Test.YtoehnbacbobhiaaGreatDoorL1
import Derived.Test.YtoehnbacbobhiaaGreatDoorX5
set_option linter.unusedVariables false
set_option linter.unusedSimpArgs false
namespace Go.Proofs.YtoehnbacbobhiaaGreatDoor
open Go.RowKit Go.Flow Go.Mem Go.Sep
def faultE : EfV := ⟨5, 0, 0, 0, 0, 0, false, []⟩
def stopV (d : Dv) : Dv := { d with effs := d.effs ++ [faultE] }
def runV (s : Sm) : Nat → Dv → Dv
  | 0, d => if d.next < s.code.length then stopV { d with fault := true } else d
  | f + 1, d => if d.next < s.code.length then
      (let d' := stepV s (s.code.getD d.next.toNat ⟨0, 0, 0, 0⟩) { d with next := d.next + 1 }
       if d'.fault = true then stopV d' else runV s f d') else d
def Simple (x : Ins) : Prop := ((x.op : Nat) : Int) ≠ 6 ∧ ((x.op : Nat) : Int) ≠ 7 ∧ ((x.op : Nat) : Int) ≠ 8 ∧ ((x.op : Nat) : Int) ≠ 25 ∧ ((x.op : Nat) : Int) ≠ 26 ∧ ((x.op : Nat) : Int) ≠ 30 ∧ ((x.op : Nat) : Int) ≠ 31 ∧ ((x.op : Nat) : Int) ≠ 32 ∧ ((x.op : Nat) : Int) ≠ 33
structure Runs (s : Sm) (I : Dv → Prop) : Prop where
  next : ∀ d, I d → 0 ≤ d.next
  fit : ∀ d x, I d → s.code[d.next.toNat]? = some x → Fit s x { d with next := d.next + 1 } ∧ Simple x
  step : ∀ d x, I d → s.code[d.next.toNat]? = some x → (stepV s x { d with next := d.next + 1 }).fault = false → I (stepV s x { d with next := d.next + 1 })
  effs : ∀ d, I d → d.effs.length ≤ 1000
theorem runV_end {s : Sm} {d : Dv} (h : ¬ d.next < s.code.length) : ∀ f, runV s f d = d
  | 0 => by rw [runV, if_neg h]
  | f + 1 => by rw [runV, if_neg h]
theorem runV_step {s : Sm} {d : Dv} {x : Ins} (h : d.next < s.code.length) (hx : s.code[d.next.toNat]? = some x) (f : Nat) : runV s (f + 1) d = if (stepV s x { d with next := d.next + 1 }).fault = true then stopV (stepV s x { d with next := d.next + 1 }) else runV s f (stepV s x { d with next := d.next + 1 }) := by
  rw [runV, if_pos h, show s.code.getD d.next.toNat ⟨0, 0, 0, 0⟩ = x from by rw [List.getD_eq_getElem?_getD, hx]; rfl]
set_option maxHeartbeats 2000000 in
set_option maxRecDepth 100000 in
theorem run0_fn (b : Nat) (s : Sm) (I : Dv → Prop) (hR : Runs s I) (hc : s.code.length ≤ 4000) (d0 : Dm) (hI0 : I d0.val) :
    Does Tryz.prog 20 [.pointer (some ⟨b, 0, none⟩)] [box b [.slice d0.Av d0.vars.length d0.qv, .slice d0.At d0.tabs.length d0.qt, .slice d0.dk.A d0.dk.l.length d0.dk.q, .slice d0.Ae d0.effs.length d0.qe, .int .i64 d0.cost, .slice s.Ac s.code.length s.qc, .slice s.Aa s.args.length s.qa, .int .i64 s.now, .slice s.Ag s.flags.length s.qg, .int .i64 s.dsk, .slice s.Af s.fail.length s.qf, .slice d0.As d0.stack.length d0.qs, .int .i64 d0.next, .int .i64 d0.sends, .int .i64 d0.disks, .bool d0.fault] 77, rows encI 2 1 d0.Av d0.qv d0.vars, rows encI 2 1 d0.As d0.qs d0.stack, rows Ef.cells 84 8 d0.Ae d0.qe d0.effs, ros encI s.Aa s.args, ros encB s.Ag s.flags, ros Ins.cells s.Ac s.code] (fun v Γ' => v = .tuple #[] ∧ ∃ d', (d'.At = d0.At ∧ d'.qt = d0.qt ∧ d'.tabs = d0.tabs ∧ d'.dk = d0.dk) ∧ Γ' = [box b (mc s d') 77, rows encI 2 1 d'.Av d'.qv d'.vars, rows encI 2 1 d'.As d'.qs d'.stack, rows Ef.cells 84 8 d'.Ae d'.qe d'.effs] ∧ d'.val = runV s 1048576 d0.val) := by
  refine Does.enter Tryz.func20 rfl Tryz.ntmps20 rfl (fun w0 => ?_)
  refine To.seq (To.reg (To.a (To.nil (To.thenN (To.block ?_)))))
  refine To.sub [(0, .pointer (some ⟨b, 0, none⟩)), (2, .int .i64 ((0 : Nat) : Int))] ⟨rfl, rfl, trivial⟩ ?_
  refine To.only [0, 0, 0, 0, 0, 0, 0] rfl ?_
  refine To.loop (fun mz ρ Γ => ∃ (d : Dm) (k : Nat), ρ = [(0, .pointer (some ⟨b, 0, none⟩)), (2, .int .i64 ((k : Nat) : Int))] ∧ Γ = [box b [.slice d.Av d.vars.length d.qv, .slice d.At d.tabs.length d.qt, .slice d.dk.A d.dk.l.length d.dk.q, .slice d.Ae d.effs.length d.qe, .int .i64 d.cost, .slice s.Ac s.code.length s.qc, .slice s.Aa s.args.length s.qa, .int .i64 s.now, .slice s.Ag s.flags.length s.qg, .int .i64 s.dsk, .slice s.Af s.fail.length s.qf, .slice d.As d.stack.length d.qs, .int .i64 d.next, .int .i64 d.sends, .int .i64 d.disks, .bool d.fault] 77, rows encI 2 1 d.Av d.qv d.vars, rows encI 2 1 d.As d.qs d.stack, rows Ef.cells 84 8 d.Ae d.qe d.effs, ros encI s.Aa s.args, ros encB s.Ag s.flags, ros Ins.cells s.Ac s.code] ∧ mz = 1048576 - k ∧ (k ≤ 1048576) ∧ (I d.val) ∧ (runV s 1048576 d0.val = runV s (1048576 - k) d.val) ∧ (d.At = d0.At ∧ d.qt = d0.qt ∧ d.tabs = d0.tabs ∧ d.dk = d0.dk)) (1048576 - 0) ⟨d0, 0, rfl, rfl, rfl, (by omega), hI0, rfl, ⟨rfl, rfl, rfl, rfl⟩⟩ ?_
  rintro mz _ _ ⟨d, k, rfl, rfl, rfl, hk, hI, hV, hT⟩
  have hlen : ∀ p : Prop, p → p := fun _ h => h
  refine To.seq (To.seq ?_)
  refine To.flow [] [⟨0, [], 0⟩, ⟨1, [], 0⟩, ⟨2, [], 0⟩, ⟨4, [], 0⟩, ⟨5, [], 0⟩, ⟨6, [], 0⟩, ⟨3, [], 1⟩, ⟨7, [], 1⟩, ⟨8, [], 0⟩, ⟨9, [], 0⟩] mixed (by kernel_rfl) (oks_nil _) ?_
  refine FlowS.mo ?_
  refine FlowS.f rfl (Rd.nilCheck rfl rfl) ?_
  refine FlowS.fi fl77_4 ?_
  refine FlowS.mo ?_
  refine FlowS.f rfl (Rd.nilCheck rfl rfl) ?_
  refine FlowS.fi fl77_1 ?_
  refine FlowS.lo 0 c3 ?_
  refine FlowS.lo 0 c29 ?_
  refine FlowS.f rfl (Rd.len rfl rfl Tryz.underlying29) ?_
  refine FlowS.f rfl (Rd.lss rfl rfl rfl) ?_
  refine FlowS.fin ?_
  refine To.thenN ?_
  refine To.condP rfl (fun c13 => ?_) (fun c13 => ?_)
  ·
   have hlt : d.val.next < s.code.length := c13
   refine To.skip (To.thenN (To.seq (To.block (To.seq (To.seq (To.reg (To.m ?_)))))))
   refine To.r (Rd.eql rfl rfl rfl) ?_
   refine To.nil (To.thenN ?_)
   refine To.condP rfl (fun c17 => ?_) (fun c17 => ?_)
   ·
    refine To.reg (To.m ?_)
    refine To.r (Rd.nilCheck rfl rfl) ?_
    refine To.f fl77_7 ?_
    refine To.u (Up.store (i := 0) rfl rfl rfl c4 rfl rfl (box_takes1 rfl)) ?_
    refine To.nil (To.thenN (To.seq (To.reg (To.m ?_))))
    refine To.r (Rd.nilCheck rfl rfl) ?_
    refine To.f fl77_7 ?_
    refine To.lo 0 c4 ?_
    refine To.nil (To.thenN ?_)
    refine To.condT rfl ?_
    refine To.seq ?_
    have hel := hR.effs _ hI
    have hel2 : d.effs.length ≤ 1000 := by have : (d.effs.map Ef.val).length ≤ 1000 := hel; simpa using this
    refine To.reg (To.m ?_)
    refine To.m ?_
    refine To.r (Rd.nilCheck rfl rfl) ?_
    refine To.f fl77_0 ?_
    refine To.f fl56_1 ?_
    refine To.lo 0 c54 ?_
    refine To.r (Rd.build (vs := [(0, .int .u8 5)]) (cells := [.int .u8 5, .int .i64 0, .int .i64 0, .int .i64 0, .int .i64 0, .int .i64 0, .bool false, .slice none 0 0]) rfl rfl rfl (by kernel_rfl)) ?_
    refine To.mk rfl rfl rfl (Mk.sliceN (us := [.int .u8 5, .int .i64 0, .int .i64 0, .int .i64 0, .int .i64 0, .int .i64 0, .bool false, .slice none 0 0]) rfl s54 rfl rfl rfl rfl rfl rfl) ?_
    rintro _ _ ⟨b52, rfl, rfl⟩
    refine To.ge rfl rfl rfl (Ge.append1 encEf (i := 4) (j := 0) (el := (⟨5, 0, 0, 0, 0, 0, false, none, 0, []⟩ : Ef)) rfl s54 rfl rfl rfl rfl rfl (by first | omega | (simp only [List.length_append, List.length_cons, List.length_nil]; omega)) (by first | omega | (simp only [List.length_append, List.length_cons, List.length_nil]; omega))) ?_
    rintro _ _ ⟨A53, q53, rfl, rfl⟩
    refine To.r (Rd.nilCheck rfl rfl) ?_
    refine To.f fl77_0 ?_
    refine To.f fl56_1 ?_
    refine To.u (Up.store (i := 1) rfl rfl rfl c54 rfl rfl (box_takes1 rfl)) ?_
    refine To.nil (To.thenN (To.ret (To.blockR (To.thenR (To.thenR (To.blockR ?_))))))
    refine To.only [1, 1, 1, 1] rfl ?_
    refine To.end0 (.inl rfl) Tryz.results20 ?_
    exact ⟨rfl, (⟨d.Av, d.qv, d.vars, d.At, d.qt, d.tabs, ⟨d.dk.A, d.dk.q, d.dk.l⟩, A53, q53, (d.effs ++ [(⟨5, 0, 0, 0, 0, 0, false, none, 0, []⟩ : Ef)]), d.cost, d.As, d.qs, d.stack, d.next, d.sends, d.disks, true⟩ : Dm), hT, rfl, by rw [hV, show 1048576 - k = 0 from by omega, runV, if_pos (by assumption)]; simp [Dm.val, stopV, faultE, Ef.val]⟩
   refine To.seq ?_
   have hn0 := hR.next _ hI
   obtain ⟨nx, hnx⟩ : ∃ nx : Nat, d.next = ((nx : Nat) : Int) := ⟨d.next.toNat, by have : 0 ≤ d.next := hn0; omega⟩
   have hnl : nx < s.code.length := by omega
   obtain ⟨x, hx⟩ : ∃ z0, s.code[nx]? = some z0 := ⟨s.code[nx]'(by omega), List.getElem?_eq_getElem _⟩
   have hx2 : s.code[d.val.next.toNat]? = some x := by show s.code[d.next.toNat]? = some x; rw [hnx, Int.toNat_natCast]; exact hx
   obtain ⟨hfit, hsim⟩ := hR.fit _ x hI hx2
   refine To.flow [] [⟨0, [], 0⟩, ⟨1, [], 0⟩, ⟨2, [], 0⟩, ⟨4, [], 0⟩, ⟨5, [], 0⟩, ⟨6, [], 0⟩, ⟨3, [], 1⟩, ⟨7, [], 1⟩, ⟨8, [], 1⟩, ⟨9, [], 1⟩, ⟨10, [], 2⟩, ⟨11, [10], 5⟩] mixed (by kernel_rfl) (oks_nil _) ?_
   refine FlowS.mo ?_
   refine FlowS.f rfl (Rd.nilCheck rfl rfl) ?_
   refine FlowS.fi fl77_1 ?_
   refine FlowS.mo ?_
   refine FlowS.f rfl (Rd.nilCheck rfl rfl) ?_
   refine FlowS.fi fl77_4 ?_
   refine FlowS.lo 0 c29 ?_
   refine FlowS.lo 0 c3 ?_
   refine FlowS.r rfl (Rd.indexRosI encIn (i := 6) (j := nx) rfl rfl rfl hnx s29 rfl hx) ?_
   refine FlowS.r rfl (Rd.loadS (i := 6) rfl rfl r36 rfl (ros_gives encIn hx) (encIn.len _)) ?_
   refine FlowS.mk rfl rfl rfl rfl rfl (Mk.alloc rfl z36) ?_
   rintro _ _ ⟨b3, rfl, rfl⟩
   refine FlowS.up rfl rfl rfl (Up.storeS (i := 0) rfl rfl rfl r36 rfl rfl rfl (box_takesAll rfl)) (oks_nil _) ?_
   refine FlowS.fin ?_
   refine To.thenN (To.seq (To.reg (To.m ?_)))
   refine To.r (Rd.nilCheck rfl rfl) ?_
   refine To.f fl77_4 ?_
   refine To.lo 1 c3 ?_
   refine To.r (Rd.add64 rfl rfl rfl (by omega)) ?_
   refine To.r (Rd.nilCheck rfl rfl) ?_
   refine To.f fl77_4 ?_
   refine To.u (Up.store (i := 1) rfl rfl rfl c3 rfl rfl (box_takes1 rfl)) ?_
   refine To.nil (To.thenN ?_)
   refine To.dup 5 rfl rfl ?_
   refine To.dup 7 rfl rfl ?_
   refine To.reg (To.m ?_)
   refine To.r (Rd.loadS (i := 2) rfl rfl r36 rfl box_whole rfl) ?_
   refine To.call [3, 3, 3, 1, 0] rfl rfl rfl (Ent.fn rfl rfl ca34) rfl (step0_fn b s (⟨d.Av, d.qv, d.vars, d.At, d.qt, d.tabs, ⟨d.dk.A, d.dk.q, d.dk.l⟩, d.Ae, d.qe, d.effs, d.cost, d.As, d.qs, d.stack, d.next + 1, d.sends, d.disks, d.fault⟩ : Dm) x hfit hsim) ?_
   rintro _ _ ⟨rfl, d', rfl, ⟨k1, k2, k3, k4, k5, k6, k7⟩, hv⟩
   refine To.nil (To.thenN (To.seq ?_))
   have k5 : d'.Ae = d.Ae := k5
   have k6 : d'.qe = d.qe := k6
   have k7 : d'.effs = d.effs := k7
   rw [← k5, ← k6, ← k7]
   refine To.reg (To.m ?_)
   refine To.r (Rd.nilCheck rfl rfl) ?_
   refine To.f fl77_7 ?_
   refine To.lo 0 c4 ?_
   refine To.nil (To.thenN ?_)
   refine To.cond rfl (fun c44 => ?_) (fun c44 => ?_)
   ·
    refine To.seq ?_
    have hel := hR.effs _ hI
    have hel2 : d.effs.length ≤ 1000 := by have : (d.effs.map Ef.val).length ≤ 1000 := hel; simpa using this
    have hel3 : d'.effs.length ≤ 1000 := by rw [k7]; exact hel2
    refine To.reg (To.m ?_)
    refine To.m ?_
    refine To.r (Rd.nilCheck rfl rfl) ?_
    refine To.f fl77_0 ?_
    refine To.f fl56_1 ?_
    refine To.lo 0 c54 ?_
    refine To.r (Rd.build (vs := [(0, .int .u8 5)]) (cells := [.int .u8 5, .int .i64 0, .int .i64 0, .int .i64 0, .int .i64 0, .int .i64 0, .bool false, .slice none 0 0]) rfl rfl rfl (by kernel_rfl)) ?_
    refine To.mk rfl rfl rfl (Mk.sliceN (us := [.int .u8 5, .int .i64 0, .int .i64 0, .int .i64 0, .int .i64 0, .int .i64 0, .bool false, .slice none 0 0]) rfl s54 rfl rfl rfl rfl rfl rfl) ?_
    rintro _ _ ⟨b52_2, rfl, rfl⟩
    refine To.ge rfl rfl rfl (Ge.append1 encEf (i := 5) (j := 0) (el := (⟨5, 0, 0, 0, 0, 0, false, none, 0, []⟩ : Ef)) rfl s54 rfl rfl rfl rfl rfl (by first | omega | (simp only [List.length_append, List.length_cons, List.length_nil]; omega)) (by first | omega | (simp only [List.length_append, List.length_cons, List.length_nil]; omega))) ?_
    rintro _ _ ⟨A53_2, q53_2, rfl, rfl⟩
    refine To.r (Rd.nilCheck rfl rfl) ?_
    refine To.f fl77_0 ?_
    refine To.f fl56_1 ?_
    refine To.u (Up.store (i := 1) rfl rfl rfl c54 rfl rfl (box_takes1 rfl)) ?_
    refine To.nil (To.thenN (To.ret (To.blockR (To.thenR (To.thenR (To.blockR ?_))))))
    refine To.only [1, 1, 1, 2] rfl ?_
    refine To.end0 (.inl rfl) Tryz.results20 ?_
    have hv : d'.val = stepV s x { d.val with next := d.val.next + 1 } := hv
    exact ⟨rfl, (⟨d'.Av, d'.qv, d'.vars, d'.At, d'.qt, d'.tabs, ⟨d'.dk.A, d'.dk.q, d'.dk.l⟩, A53_2, q53_2, (d'.effs ++ [(⟨5, 0, 0, 0, 0, 0, false, none, 0, []⟩ : Ef)]), d'.cost, d'.As, d'.qs, d'.stack, d'.next, d'.sends, d'.disks, d'.fault⟩ : Dm), ⟨k1.trans hT.1, k2.trans hT.2.1, k3.trans hT.2.2.1, k4.trans hT.2.2.2⟩, rfl, by rw [hV, show 1048576 - k = (1048576 - (k + 1)) + 1 from by omega, runV_step (by assumption) hx2, ← hv, if_pos (show d'.val.fault = true from c44)]; simp [Dm.val, stopV, faultE, Ef.val]⟩
   refine To.skip (To.blockN (To.thenN (To.reg (To.m ?_))))
   refine To.r (Rd.inc rfl rfl rfl (by omega)) ?_
   refine To.a (To.nil (To.thenN ?_))
   have hv : d'.val = stepV s x { d.val with next := d.val.next + 1 } := hv
   refine To.sub [(0, .pointer (some ⟨b, 0, none⟩)), (2, .int .i64 (((k + 1) : Nat) : Int))] ⟨rfl, rfl, trivial⟩ ?_
   refine To.only [0, 0, 0, 1, 1, 1, 1] rfl ?_
   refine To.again (1048576 - (k + 1)) (by omega) ⟨d', k + 1, rfl, rfl, rfl, (by omega), (by rw [hv]; exact hR.step _ x hI hx2 (by rw [← hv]; exact c44)), (by rw [hV, show 1048576 - k = (1048576 - (k + 1)) + 1 from by omega, runV_step (by assumption) hx2, ← hv, if_neg (by rw [show d'.val.fault = d'.fault from rfl, c44]; decide)]), ⟨k1.trans hT.1, k2.trans hT.2.1, k3.trans hT.2.2.1, k4.trans hT.2.2.2⟩⟩
  have hlt : ¬ d.val.next < s.code.length := c13
  refine To.exit (To.thenX (To.thenX (To.blockX ?_)))
  refine To.only [0, 0, 0, 0] rfl ?_
  refine To.end0 (.inr rfl) Tryz.results20 ?_
  exact ⟨rfl, d, hT, rfl, by rw [hV, runV_end (by assumption)]⟩
end Go.Proofs.YtoehnbacbobhiaaGreatDoor
