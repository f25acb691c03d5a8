/- The example, and the law ExecLoops. Own text (walks printed by sx.py). -/
import Derived.Test.YtoehnbacbobhiaaDoorX11
namespace Go.Proofs.YtoehnbacbobhiaaDoor
open Go.RowKit Go.Flow Go.Mem Go.Sep
theorem he2 : exC0[2]? = some ⟨28, 8, 0, 0⟩ := rfl
theorem one_of {l : List Ef} {e : EfV} (h : l.map Ef.val = [e]) : ∃ e0, l = [e0] ∧ e0.k = e.k := by
  cases l with
  | nil => simp at h
  | cons e0 l => cases l with
    | nil => simp at h; exact ⟨e0, rfl, by rw [← h]; rfl⟩
    | cons e1 l => simp at h
set_option maxHeartbeats 2000000 in
set_option maxRecDepth 100000 in
theorem awake_fn  :
    Does Tryd.prog 6 [] [tabC] (fun v _ => v = .bool true) := by
  refine Does.enter Tryd.func6 rfl Tryd.ntmps6 rfl (fun w0 => ?_)
  refine To.seq ?_
  refine To.reg ?_
  refine To.rd rfl rfl rfl (Rd.assign rfl rfl) ?_
  refine To.nil ?_
  refine To.thenN ?_
  refine To.seq ?_
  refine To.reg ?_
  refine To.rd rfl rfl rfl (Rd.build (vs := [(0, .int .u8 29)]) (cells := [.int .u8 29, .int .i64 0, .int .i64 0, .int .i64 0]) rfl rfl rfl (by kernel_rfl)) ?_
  refine To.rd rfl rfl rfl (Rd.build (vs := [(0, .int .u8 1), (3, .int .i64 1)]) (cells := [.int .u8 1, .int .i64 0, .int .i64 0, .int .i64 1]) rfl rfl rfl (by kernel_rfl)) ?_
  refine To.rd rfl rfl rfl (Rd.build (vs := [(0, .int .u8 28), (1, .int .i64 8)]) (cells := [.int .u8 28, .int .i64 8, .int .i64 0, .int .i64 0]) rfl rfl rfl (by kernel_rfl)) ?_
  refine To.rd rfl rfl rfl (Rd.build (vs := [(0, .int .u8 29)]) (cells := [.int .u8 29, .int .i64 0, .int .i64 0, .int .i64 0]) rfl rfl rfl (by kernel_rfl)) ?_
  refine To.rd rfl rfl rfl (Rd.build (vs := [(0, .int .u8 2)]) (cells := [.int .u8 2, .int .i64 0, .int .i64 0, .int .i64 0]) rfl rfl rfl (by kernel_rfl)) ?_
  refine To.rd rfl rfl rfl (Rd.build (vs := [(0, .int .u8 1), (3, .int .i64 1)]) (cells := [.int .u8 1, .int .i64 0, .int .i64 0, .int .i64 1]) rfl rfl rfl (by kernel_rfl)) ?_
  refine To.rd rfl rfl rfl (Rd.build (vs := [(0, .int .u8 14)]) (cells := [.int .u8 14, .int .i64 0, .int .i64 0, .int .i64 0]) rfl rfl rfl (by kernel_rfl)) ?_
  refine To.rd rfl rfl rfl (Rd.build (vs := [(0, .int .u8 24)]) (cells := [.int .u8 24, .int .i64 0, .int .i64 0, .int .i64 0]) rfl rfl rfl (by kernel_rfl)) ?_
  refine To.rd rfl rfl rfl (Rd.build (vs := [(0, .int .u8 27)]) (cells := [.int .u8 27, .int .i64 0, .int .i64 0, .int .i64 0]) rfl rfl rfl (by kernel_rfl)) ?_
  refine To.mk rfl rfl rfl (Mk.sliceN (us := [.int .u8 29, .int .i64 0, .int .i64 0, .int .i64 0, .int .u8 1, .int .i64 0, .int .i64 0, .int .i64 1, .int .u8 28, .int .i64 8, .int .i64 0, .int .i64 0, .int .u8 29, .int .i64 0, .int .i64 0, .int .i64 0, .int .u8 2, .int .i64 0, .int .i64 0, .int .i64 0, .int .u8 1, .int .i64 0, .int .i64 0, .int .i64 1, .int .u8 14, .int .i64 0, .int .i64 0, .int .i64 0, .int .u8 24, .int .i64 0, .int .i64 0, .int .i64 0, .int .u8 27, .int .i64 0, .int .i64 0, .int .i64 0]) rfl s25 rfl rfl rfl rfl rfl rfl) ?_
  rintro _ _ ⟨b13, rfl, rfl⟩
  refine To.as [row 24 4 (some ⟨b13, 0, none⟩) 9 9 [.int .u8 29, .int .i64 0, .int .i64 0, .int .i64 0, .int .u8 1, .int .i64 0, .int .i64 0, .int .i64 1, .int .u8 28, .int .i64 8, .int .i64 0, .int .i64 0, .int .u8 29, .int .i64 0, .int .i64 0, .int .i64 0, .int .u8 2, .int .i64 0, .int .i64 0, .int .i64 0, .int .u8 1, .int .i64 0, .int .i64 0, .int .i64 1, .int .u8 14, .int .i64 0, .int .i64 0, .int .i64 0, .int .u8 24, .int .i64 0, .int .i64 0, .int .i64 0, .int .u8 27, .int .i64 0, .int .i64 0, .int .i64 0], tabC] rfl ?_
  refine To.as [rows Ins.cells 24 4 (some ⟨b13, 0, none⟩) 9 exC0, tabC] rfl ?_
  refine To.rd rfl rfl rfl (Rd.build (vs := [(1, .int .i64 2), (2, .slice (some ⟨b13, 0, none⟩) 9 9)]) (cells := [.int .i64 0, .int .i64 2, .slice (some ⟨b13, 0, none⟩) 9 9]) rfl rfl rfl (by kernel_rfl)) ?_
  refine To.alloc rfl rfl rfl rfl z27 (fun b1 => ?_)
  refine To.up rfl rfl (Up.storeS (i := 0) rfl rfl rfl r27 rfl rfl rfl (box_takesAll rfl)) ?_
  refine To.nil ?_
  refine To.thenN ?_
  refine To.seq ?_
  refine To.reg ?_
  refine To.rd rfl rfl rfl (Rd.field rfl rfl fl27_2) ?_
  refine To.rd rfl rfl rfl (Rd.load (i := 0) rfl rfl c25 rfl (box_gives1 rfl)) ?_
  refine To.rd rfl rfl rfl (Rd.indexRows (l := exC0) (i := 1) (j := 2) rfl rfl rfl s25 rfl he2) ?_
  refine To.rd rfl rfl rfl (Rd.field rfl rfl fl24_1) ?_
  refine To.up rfl rfl (Up.store (i := 1) rfl rfl rfl c3 rfl rfl (row_takes (size := 4) (n := 9) (off := 9) (xs := exC0.flatMap Ins.cells) (ds := exC.flatMap Ins.cells) (by decide) (by simp) rfl)) ?_
  refine To.nil ?_
  refine To.sub [(0, .bool false), (1, .pointer (some ⟨b1, 0, none⟩))] ⟨rfl, rfl, trivial⟩ ?_
  refine To.thenN ?_
  refine To.seq ?_
  refine To.as [box b1 [.int .i64 0, .int .i64 2, .slice (some ⟨b13, 0, none⟩) 9 9] 27, rows Ins.cells 24 4 (some ⟨b13, 0, none⟩) 9 exC, tabC] rfl ?_
  have hver := ex_verify
  have href := ex_refers
  obtain ⟨I, hR, hI⟩ := simple_run (A := (some ⟨b13, 0, none⟩)) (Av := none) (q := 9) (qv := 0) (V := [5]) ex_verify ex_refers ex_simple
  refine To.reg ?_
  refine To.rd rfl rfl rfl (Rd.loadS (i := 0) rfl rfl r27 rfl box_whole rfl) ?_
  refine To.mk rfl rfl rfl (Mk.sliceN (us := [.int .i64 5]) rfl s28 rfl rfl rfl rfl rfl rfl) ?_
  rintro _ _ ⟨b21, rfl, rfl⟩
  refine To.as [row 2 1 (some ⟨b21, 0, none⟩) 1 1 [.int .i64 5], box b1 [.int .i64 0, .int .i64 2, .slice (some ⟨b13, 0, none⟩) 9 9] 27, rows Ins.cells 24 4 (some ⟨b13, 0, none⟩) 9 exC, tabC] rfl ?_
  refine To.rd rfl rfl rfl (Rd.build (vs := [(0, .slice (some ⟨b21, 0, none⟩) 1 1)]) (cells := [.slice (some ⟨b21, 0, none⟩) 1 1, .slice none 0 0, .slice none 0 0]) rfl rfl rfl (by kernel_rfl)) ?_
  refine To.rd rfl rfl rfl (Rd.build (vs := []) (cells := [.slice none 0 0, .int .i64 0, .slice none 0 0, .int .i64 0, .slice none 0 0]) rfl rfl rfl (by kernel_rfl)) ?_
  refine To.callQ rfl rfl rfl (Ent.fn rfl rfl ca5) (run1_fn 2 (some ⟨b13, 0, none⟩) (some ⟨b21, 0, none⟩) 9 1 exC [5] (show 1 ≤ 1000000 by decide) hver (by first | decide | omega) href I hR hI) rfl (oks_cons (oks_row 2 rfl) (oks_cons (oks_row 0 rfl) (oks_cons (oks_at 3 rfl) (oks_nil _)))) ?_
  rintro _ _ ⟨d', rfl, rfl, hv⟩
  refine ⟨rfl, ?_⟩
  refine To.as [rows encI 2 1 d'.Av d'.qv d'.vars, rows Ef.cells 48 8 d'.Ae d'.qe d'.effs, row 2 1 (some ⟨b21, 0, none⟩) 1 1 [.int .i64 5], box b1 [.int .i64 0, .int .i64 2, .slice (some ⟨b13, 0, none⟩) 9 9] 27, rows Ins.cells 24 4 (some ⟨b13, 0, none⟩) 9 exC, tabC] rfl ?_
  refine To.rd rfl rfl rfl (Rd.move rfl rfl) ?_
  refine To.rd rfl rfl rfl (Rd.extract rfl rfl rfl) ?_
  refine To.rd rfl rfl rfl (Rd.extract rfl rfl rfl) ?_
  refine To.alloc rfl rfl rfl rfl z37 (fun b2 => ?_)
  refine To.up rfl rfl (Up.storeS (i := 0) rfl rfl rfl r37 rfl rfl rfl (box_takesAll rfl)) ?_
  refine To.rd rfl rfl rfl (Rd.assign rfl rfl) ?_
  refine To.nil ?_
  refine To.thenN ?_
  refine To.seq ?_
  rw [runV_addr, ex_run] at hv
  have hr1 : (⟨[105], [], [], [faultE], 200, [], 1, 0, 0, true⟩ : Dv).vars = [105] := rfl
  have hr2 : (⟨[105], [], [], [faultE], 200, [], 1, 0, 0, true⟩ : Dv).cost = 200 := rfl
  have hr3 : (⟨[105], [], [], [faultE], 200, [], 1, 0, 0, true⟩ : Dv).effs = [faultE] := rfl
  have hvars : d'.vars = [105] := by have := congrArg Dv.vars hv; simpa [Dm.val] using this.trans hr1
  have hcost : d'.cost = 200 := by have := congrArg Dv.cost hv; simpa [Dm.val] using this.trans hr2
  obtain ⟨e0, hef, hk⟩ := one_of (by have := congrArg Dv.effs hv; exact this.trans hr3)
  have hk : e0.k = 5 := hk
  rw [hvars, hcost, hef]
  refine To.reg ?_
  refine To.rd rfl rfl rfl (Rd.move rfl rfl) ?_
  refine To.rd rfl rfl rfl (Rd.eql rfl rfl rfl) ?_
  refine To.rd rfl rfl rfl (Rd.move rfl rfl) ?_
  refine To.rd rfl rfl rfl (Rd.field rfl rfl fl37_2) ?_
  refine To.rd rfl rfl rfl (Rd.load (i := 0) rfl rfl c3 rfl (box_gives1 rfl)) ?_
  refine To.rd rfl rfl rfl (Rd.eql rfl rfl rfl) ?_
  refine To.rd rfl rfl rfl (Rd.pickT rfl rfl rfl) ?_
  refine To.rd rfl rfl rfl (Rd.move rfl rfl) ?_
  refine To.rd rfl rfl rfl (Rd.field rfl rfl fl37_0) ?_
  refine To.rd rfl rfl rfl (Rd.field rfl rfl fl34_0) ?_
  refine To.rd rfl rfl rfl (Rd.load (i := 0) rfl rfl c28 rfl (box_gives1 rfl)) ?_
  refine To.rd rfl rfl rfl (Rd.len rfl rfl Tryd.underlying28) ?_
  refine To.rd rfl rfl rfl (Rd.eql rfl rfl rfl) ?_
  refine To.rd rfl rfl rfl (Rd.pickT rfl rfl rfl) ?_
  refine To.rd rfl rfl rfl (Rd.move rfl rfl) ?_
  refine To.rd rfl rfl rfl (Rd.field rfl rfl fl37_0) ?_
  refine To.rd rfl rfl rfl (Rd.field rfl rfl fl34_0) ?_
  refine To.rd rfl rfl rfl (Rd.load (i := 0) rfl rfl c28 rfl (box_gives1 rfl)) ?_
  refine To.rd rfl rfl rfl (Rd.indexRows (i := 1) (j := 0) rfl rfl rfl s28 rfl (show [(105 : Int)][0]? = some 105 from rfl)) ?_
  refine To.rd rfl rfl rfl (Rd.load (i := 1) rfl rfl c2 rfl (gives_1 (rows_gives encI_ok (show [(105 : Int)][0]? = some 105 from rfl)) rfl)) ?_
  refine To.rd rfl rfl rfl (Rd.eql rfl rfl rfl) ?_
  refine To.rd rfl rfl rfl (Rd.pickT rfl rfl rfl) ?_
  refine To.rd rfl rfl rfl (Rd.move rfl rfl) ?_
  refine To.rd rfl rfl rfl (Rd.field rfl rfl fl37_1) ?_
  refine To.rd rfl rfl rfl (Rd.load (i := 0) rfl rfl c35 rfl (box_gives1 rfl)) ?_
  refine To.rd rfl rfl rfl (Rd.len rfl rfl Tryd.underlying35) ?_
  refine To.rd rfl rfl rfl (Rd.eql rfl rfl rfl) ?_
  refine To.rd rfl rfl rfl (Rd.pickT rfl rfl rfl) ?_
  refine To.rd rfl rfl rfl (Rd.move rfl rfl) ?_
  refine To.rd rfl rfl rfl (Rd.field rfl rfl fl37_1) ?_
  refine To.rd rfl rfl rfl (Rd.load (i := 0) rfl rfl c35 rfl (box_gives1 rfl)) ?_
  refine To.rd rfl rfl rfl (Rd.indexRows (i := 2) (j := 0) rfl rfl rfl s35 rfl (show [e0][0]? = some e0 from rfl)) ?_
  refine To.rd rfl rfl rfl (Rd.field rfl rfl fl48_0) ?_
  refine To.rd rfl rfl rfl (Rd.load (i := 2) rfl rfl c46 rfl (gives_at (f := 0) (rows_gives encEf (show [e0][0]? = some e0 from rfl)) rfl)) ?_
  refine To.rd rfl rfl rfl (Rd.eql rfl rfl rfl) ?_
  refine To.rd rfl rfl rfl (Rd.pickT rfl rfl rfl) ?_
  refine To.rd rfl rfl rfl (Rd.assign rfl rfl) ?_
  refine To.nil ?_
  refine To.sub [(0, .bool (decide (e0.k = 5))), (1, .pointer (some ⟨b1, 0, none⟩)), (2, .pointer (some ⟨b2, 0, none⟩)), (3, .int .i64 0)] ⟨rfl, rfl, rfl, rfl, trivial⟩ ?_
  refine To.thenN ?_
  refine To.ret ?_
  refine To.end1 (.inl rfl) Tryd.results6 rfl ?_
  exact congrArg Value.bool (decide_eq_true hk)
set_option maxHeartbeats 2000000 in
set_option maxRecDepth 100000 in
theorem loops_fn (j : Nat) (v : Int) :
    Does Tryd.prog 3 [.int .u8 ((j : Nat) : Int), .int .i64 v] [tabC] (fun r _ => r = .bool true) := by
  refine Does.enter Tryd.func3 rfl Tryd.ntmps3 rfl (fun w0 => ?_)
  refine To.seq ?_
  refine To.reg ?_
  refine To.rd rfl rfl rfl (Rd.assign rfl rfl) ?_
  refine To.nil ?_
  refine To.thenN ?_
  refine To.seq ?_
  refine To.reg ?_
  refine To.rd rfl rfl rfl (Rd.move rfl rfl) ?_
  refine To.rd rfl rfl rfl (Rd.remN (a := j) (b := 6) rfl rfl rfl (by omega)) ?_
  refine To.rd rfl rfl rfl (Rd.conv rfl rfl Tryd.underlying5 Tryd.underlying3 (IntWalk.i64_in _ (by omega))) ?_
  refine To.rd rfl rfl rfl (Rd.assign rfl rfl) ?_
  refine To.nil ?_
  refine To.thenN ?_
  refine To.seq ?_
  refine To.reg ?_
  refine To.rd rfl rfl rfl (Rd.move rfl rfl) ?_
  refine To.rd rfl rfl rfl (Rd.build (vs := [(0, .int .u8 1), (3, .int .i64 v)]) (cells := [.int .u8 1, .int .i64 0, .int .i64 0, .int .i64 v]) rfl rfl rfl (by kernel_rfl)) ?_
  refine To.rd rfl rfl rfl (Rd.build (vs := [(0, .int .u8 24)]) (cells := [.int .u8 24, .int .i64 0, .int .i64 0, .int .i64 0]) rfl rfl rfl (by kernel_rfl)) ?_
  refine To.mk rfl rfl rfl (Mk.sliceN (us := [.int .u8 1, .int .i64 0, .int .i64 0, .int .i64 v, .int .u8 24, .int .i64 0, .int .i64 0, .int .i64 0]) rfl s25 rfl rfl rfl rfl rfl rfl) ?_
  rintro _ _ ⟨b15, rfl, rfl⟩
  refine To.as [row 24 4 (some ⟨b15, 0, none⟩) 2 2 [.int .u8 1, .int .i64 0, .int .i64 0, .int .i64 v, .int .u8 24, .int .i64 0, .int .i64 0, .int .i64 0], tabC] rfl ?_
  refine To.as [rows Ins.cells 24 4 (some ⟨b15, 0, none⟩) 2 (loopP 0 v), tabC] rfl ?_
  refine To.rd rfl rfl rfl (Rd.build (vs := [(1, .int .i64 1), (2, .slice (some ⟨b15, 0, none⟩) 2 2)]) (cells := [.int .i64 0, .int .i64 1, .slice (some ⟨b15, 0, none⟩) 2 2]) rfl rfl rfl (by kernel_rfl)) ?_
  refine To.alloc rfl rfl rfl rfl z27 (fun b6 => ?_)
  refine To.up rfl rfl (Up.storeS (i := 0) rfl rfl rfl r27 rfl rfl rfl (box_takesAll rfl)) ?_
  refine To.nil ?_
  refine To.thenN ?_
  refine To.seq ?_
  refine To.seq ?_
  refine To.reg ?_
  refine To.rd rfl rfl rfl (Rd.move rfl rfl) ?_
  refine To.rd rfl rfl rfl (Rd.move rfl rfl) ?_
  refine To.nil ?_
  refine To.thenN ?_
  refine To.block ?_
  refine To.sub [(1, .int .i64 v), (6, .pointer (some ⟨b6, 0, none⟩)), (17, .int .i64 ((j % 6 : Nat) : Int)), (18, .int .i64 ((0 : Nat) : Int))] ⟨rfl, rfl, rfl, rfl, trivial⟩ ?_
  refine To.only [0, 0, 0] rfl ?_
  refine To.loop (fun mz ρ Γ => ∃ (Ac : Option Addr) (qc : Nat) (k : Nat), ρ = [(1, .int .i64 v), (6, .pointer (some ⟨b6, 0, none⟩)), (17, .int .i64 ((j % 6 : Nat) : Int)), (18, .int .i64 ((k : Nat) : Int))] ∧ Γ = [box b6 [.int .i64 0, .int .i64 1, .slice Ac ((loopP k v).length) qc] 27, rows Ins.cells 24 4 Ac qc (loopP k v), tabC] ∧ mz = j % 6 - k ∧ (k ≤ j % 6)) (j % 6 - 0) ⟨(some ⟨b15, 0, none⟩), 2, 0, rfl, rfl, rfl, (Nat.zero_le _)⟩ ?_
  rintro mz _ _ ⟨Ac, qc, k, rfl, rfl, rfl, hk⟩
  have hpl := loopP_len k v
  have hj6 : j % 6 < 6 := Nat.mod_lt _ (by decide)
  refine To.seq ?_
  refine To.reg ?_
  refine To.rd rfl rfl rfl (Rd.lss rfl rfl rfl) ?_
  refine To.nil ?_
  refine To.thenN ?_
  refine To.seq ?_
  refine To.condP rfl (fun k19 => ?_) (fun k19 => ?_)
  ·
    refine To.skip ?_
    refine To.thenN ?_
    refine To.seq ?_
    refine To.block ?_
    refine To.reg ?_
    refine To.rd rfl rfl rfl (Rd.field rfl rfl fl27_2) ?_
    refine To.rd rfl rfl rfl (Rd.load (i := 0) rfl rfl c25 rfl (box_gives1 rfl)) ?_
    refine To.rd rfl rfl rfl (Rd.build (vs := [(0, .int .u8 1), (3, .int .i64 1)]) (cells := [.int .u8 1, .int .i64 0, .int .i64 0, .int .i64 1]) rfl rfl rfl (by kernel_rfl)) ?_
    refine To.rd rfl rfl rfl (Rd.build (vs := [(0, .int .u8 28)]) (cells := [.int .u8 28, .int .i64 0, .int .i64 0, .int .i64 0]) rfl rfl rfl (by kernel_rfl)) ?_
    refine To.mk rfl rfl rfl (Mk.sliceN (us := [.int .u8 1, .int .i64 0, .int .i64 0, .int .i64 1, .int .u8 28, .int .i64 0, .int .i64 0, .int .i64 0]) rfl s25 rfl rfl rfl rfl rfl rfl) ?_
    rintro _ _ ⟨b24, rfl, rfl⟩
    refine To.as [row 24 4 (some ⟨b24, 0, none⟩) 2 2 [.int .u8 1, .int .i64 0, .int .i64 0, .int .i64 1, .int .u8 28, .int .i64 0, .int .i64 0, .int .i64 0], box b6 [.int .i64 0, .int .i64 1, .slice Ac ((loopP k v).length) qc] 27, rows Ins.cells 24 4 Ac qc (loopP k v), tabC] rfl ?_
    refine To.as [rows Ins.cells 24 4 (some ⟨b24, 0, none⟩) 2 [(⟨1, 0, 0, 1⟩ : Ins), ⟨28, 0, 0, 0⟩], box b6 [.int .i64 0, .int .i64 1, .slice Ac ((loopP k v).length) qc] 27, rows Ins.cells 24 4 Ac qc (loopP k v), tabC] rfl ?_
    refine To.ge rfl rfl rfl (Ge.appendL encIn (i := 2) (m := [(⟨1, 0, 0, 1⟩ : Ins), ⟨28, 0, 0, 0⟩]) rfl s25 rfl rfl rfl (src_row (i := 0) rfl) (by first | omega | (simp only [List.length_append, List.length_cons, List.length_nil]; omega)) (by first | omega | (simp only [List.length_append, List.length_cons, List.length_nil]; omega))) ?_
    rintro _ _ ⟨A25, q25, rfl, rfl⟩
    refine To.as [rows Ins.cells 24 4 (some ⟨b24, 0, none⟩) 2 [(⟨1, 0, 0, 1⟩ : Ins), ⟨28, 0, 0, 0⟩], box b6 [.int .i64 0, .int .i64 1, .slice Ac ((loopP k v).length) qc] 27, rows Ins.cells 24 4 A25 q25 ((loopP k v) ++ [(⟨1, 0, 0, 1⟩ : Ins), ⟨28, 0, 0, 0⟩]), tabC] rfl ?_
    refine To.rd rfl rfl rfl (Rd.field rfl rfl fl27_2) ?_
    refine To.up rfl rfl (Up.store (i := 1) rfl rfl rfl c25 rfl rfl (box_takes1 rfl)) ?_
    refine To.nil ?_
    refine To.blockN ?_
    refine To.thenN ?_
    refine To.reg ?_
    refine To.rd rfl rfl rfl (Rd.inc rfl rfl rfl (by omega)) ?_
    refine To.rd rfl rfl rfl (Rd.move rfl rfl) ?_
    refine To.nil ?_
    refine To.thenN ?_
    refine To.sub [(1, .int .i64 v), (6, .pointer (some ⟨b6, 0, none⟩)), (17, .int .i64 ((j % 6 : Nat) : Int)), (18, .int .i64 (((k + 1) : Nat) : Int))] ⟨rfl, rfl, rfl, rfl, trivial⟩ ?_
    refine To.only [1, 1, 1] rfl ?_
    refine To.as [box b6 [.int .i64 0, .int .i64 1, .slice A25 ((loopP (k + 1) v).length) q25] 27, rows Ins.cells 24 4 A25 q25 (loopP (k + 1) v), tabC] (by rw [loopP_succ]; rfl) ?_
    refine To.again (j % 6 - (k + 1)) (by omega) ⟨A25, q25, k + 1, rfl, rfl, rfl, (by omega)⟩
  ·
    refine To.exit ?_
    refine To.thenX ?_
    refine To.thenX ?_
    refine To.blockX ?_
    refine To.thenN ?_
    refine To.seq ?_
    refine To.sub [(1, .int .i64 v), (6, .pointer (some ⟨b6, 0, none⟩))] ⟨rfl, rfl, trivial⟩ ?_
    obtain rfl : k = j % 6 := by omega
    refine To.reg ?_
    refine To.rd rfl rfl rfl (Rd.field rfl rfl fl27_2) ?_
    refine To.rd rfl rfl rfl (Rd.load (i := 0) rfl rfl c25 rfl (box_gives1 rfl)) ?_
    refine To.rd rfl rfl rfl (Rd.build (vs := [(0, .int .u8 27)]) (cells := [.int .u8 27, .int .i64 0, .int .i64 0, .int .i64 0]) rfl rfl rfl (by kernel_rfl)) ?_
    refine To.mk rfl rfl rfl (Mk.sliceN (us := [.int .u8 27, .int .i64 0, .int .i64 0, .int .i64 0]) rfl s25 rfl rfl rfl rfl rfl rfl) ?_
    rintro _ _ ⟨b31, rfl, rfl⟩
    refine To.as [row 24 4 (some ⟨b31, 0, none⟩) 1 1 [.int .u8 27, .int .i64 0, .int .i64 0, .int .i64 0], box b6 [.int .i64 0, .int .i64 1, .slice Ac ((loopP (j % 6) v).length) qc] 27, rows Ins.cells 24 4 Ac qc (loopP (j % 6) v), tabC] rfl ?_
    refine To.ge rfl rfl rfl (Ge.append1 encIn (i := 2) (j := 0) (el := (⟨27, 0, 0, 0⟩ : Ins)) rfl s25 rfl rfl rfl rfl rfl (by first | omega | (simp only [List.length_append, List.length_cons, List.length_nil]; omega)) (by first | omega | (simp only [List.length_append, List.length_cons, List.length_nil]; omega))) ?_
    rintro _ _ ⟨A32, q32, rfl, rfl⟩
    refine To.as [row 24 4 (some ⟨b31, 0, none⟩) 1 1 [.int .u8 27, .int .i64 0, .int .i64 0, .int .i64 0], box b6 [.int .i64 0, .int .i64 1, .slice Ac ((loopP (j % 6) v).length) qc] 27, rows Ins.cells 24 4 A32 q32 ((loopP (j % 6) v) ++ [(⟨27, 0, 0, 0⟩ : Ins)]), tabC] rfl ?_
    refine To.rd rfl rfl rfl (Rd.field rfl rfl fl27_2) ?_
    refine To.up rfl rfl (Up.store (i := 1) rfl rfl rfl c25 rfl rfl (box_takes1 rfl)) ?_
    refine To.nil ?_
    refine To.thenN ?_
    refine To.seq ?_
    refine To.as [row 24 4 (some ⟨b31, 0, none⟩) 1 1 [.int .u8 27, .int .i64 0, .int .i64 0, .int .i64 0], box b6 [.int .i64 0, .int .i64 1, .slice A32 ((loopC (j % 6) v).length) q32] 27, rows Ins.cells 24 4 A32 q32 (loopC (j % 6) v), tabC] rfl ?_
    obtain ⟨hver, href, hsim⟩ := loop_facts (j % 6) hj6 v
    have hcl : (loopC (j % 6) v).length ≤ 4000 := by unfold loopC; rw [List.length_append, hpl]; simp; omega
    obtain ⟨I, hR, hI⟩ := simple_run (A := A32) (Av := none) (q := q32) (qv := 0) (V := [W64 (v - 1)]) hver href hsim
    refine To.reg ?_
    refine To.rd rfl rfl rfl (Rd.loadS (i := 1) rfl rfl r27 rfl box_whole rfl) ?_
    refine To.rd rfl rfl rfl (Rd.move rfl rfl) ?_
    refine To.rd rfl rfl rfl (Rd.subW rfl rfl rfl) ?_
    refine To.mk rfl rfl rfl (Mk.sliceN (us := [.int .i64 (W64 (v - 1))]) rfl s28 rfl rfl rfl rfl rfl rfl) ?_
    rintro _ _ ⟨b38, rfl, rfl⟩
    refine To.as [row 2 1 (some ⟨b38, 0, none⟩) 1 1 [.int .i64 (W64 (v - 1))], row 24 4 (some ⟨b31, 0, none⟩) 1 1 [.int .u8 27, .int .i64 0, .int .i64 0, .int .i64 0], box b6 [.int .i64 0, .int .i64 1, .slice A32 ((loopC (j % 6) v).length) q32] 27, rows Ins.cells 24 4 A32 q32 (loopC (j % 6) v), tabC] rfl ?_
    refine To.rd rfl rfl rfl (Rd.build (vs := [(0, .slice (some ⟨b38, 0, none⟩) 1 1)]) (cells := [.slice (some ⟨b38, 0, none⟩) 1 1, .slice none 0 0, .slice none 0 0]) rfl rfl rfl (by kernel_rfl)) ?_
    refine To.rd rfl rfl rfl (Rd.build (vs := []) (cells := [.slice none 0 0, .int .i64 0, .slice none 0 0, .int .i64 0, .slice none 0 0]) rfl rfl rfl (by kernel_rfl)) ?_
    refine To.callQ rfl rfl rfl (Ent.fn rfl rfl ca5) (run1_fn 1 A32 (some ⟨b38, 0, none⟩) q32 1 (loopC (j % 6) v) [W64 (v - 1)] (show 1 ≤ 1000000 by decide) hver (by first | decide | omega) href I hR hI) rfl (oks_cons (oks_row 3 rfl) (oks_cons (oks_row 0 rfl) (oks_cons (oks_at 4 rfl) (oks_nil _)))) ?_
    rintro _ _ ⟨d', rfl, rfl, hv⟩
    refine ⟨rfl, ?_⟩
    refine To.as [rows encI 2 1 d'.Av d'.qv d'.vars, rows Ef.cells 48 8 d'.Ae d'.qe d'.effs, row 2 1 (some ⟨b38, 0, none⟩) 1 1 [.int .i64 (W64 (v - 1))], row 24 4 (some ⟨b31, 0, none⟩) 1 1 [.int .u8 27, .int .i64 0, .int .i64 0, .int .i64 0], box b6 [.int .i64 0, .int .i64 1, .slice A32 ((loopC (j % 6) v).length) q32] 27, rows Ins.cells 24 4 A32 q32 (loopC (j % 6) v), tabC] rfl ?_
    refine To.rd rfl rfl rfl (Rd.move rfl rfl) ?_
    refine To.rd rfl rfl rfl (Rd.extract rfl rfl rfl) ?_
    refine To.rd rfl rfl rfl (Rd.extract rfl rfl rfl) ?_
    refine To.alloc rfl rfl rfl rfl z37 (fun b7 => ?_)
    refine To.up rfl rfl (Up.storeS (i := 0) rfl rfl rfl r37 rfl rfl rfl (box_takesAll rfl)) ?_
    refine To.rd rfl rfl rfl (Rd.assign rfl rfl) ?_
    refine To.nil ?_
    refine To.sub [(1, .int .i64 v), (6, .pointer (some ⟨b6, 0, none⟩)), (7, .pointer (some ⟨b7, 0, none⟩)), (8, .int .i64 0)] ⟨rfl, rfl, rfl, rfl, trivial⟩ ?_
    refine To.thenN ?_
    refine To.seq ?_
    rw [runV_addr] at hv
    obtain ⟨hr1, hr2, hr3⟩ := loop_run (j % 6) hj6 v (W64 (v - 1))
    have hvars : d'.vars = [v] := by have := congrArg Dv.vars hv; simpa [Dm.val] using this.trans hr1
    have hcost : d'.cost = 0 := by have := congrArg Dv.cost hv; simpa [Dm.val] using this.trans hr2
    obtain ⟨e0, hef, hk⟩ := one_of (by have := congrArg Dv.effs hv; exact this.trans hr3)
    have hk : e0.k = 5 := hk
    rw [hvars, hcost, hef]
    refine To.reg ?_
    refine To.callV rfl rfl rfl (Ent.fn rfl rfl ca6) (awake_fn) rfl (oks_cons (oks_at 7 rfl) (oks_nil _)) ?_
    refine To.rd rfl rfl rfl (Rd.move rfl rfl) ?_
    refine To.rd rfl rfl rfl (Rd.move rfl rfl) ?_
    refine To.rd rfl rfl rfl (Rd.eql rfl rfl rfl) ?_
    refine To.rd rfl rfl rfl (Rd.pickT rfl rfl rfl) ?_
    refine To.rd rfl rfl rfl (Rd.move rfl rfl) ?_
    refine To.rd rfl rfl rfl (Rd.field rfl rfl fl37_2) ?_
    refine To.rd rfl rfl rfl (Rd.load (i := 0) rfl rfl c3 rfl (box_gives1 rfl)) ?_
    refine To.rd rfl rfl rfl (Rd.eql rfl rfl rfl) ?_
    refine To.rd rfl rfl rfl (Rd.pickT rfl rfl rfl) ?_
    refine To.rd rfl rfl rfl (Rd.move rfl rfl) ?_
    refine To.rd rfl rfl rfl (Rd.field rfl rfl fl37_1) ?_
    refine To.rd rfl rfl rfl (Rd.load (i := 0) rfl rfl c35 rfl (box_gives1 rfl)) ?_
    refine To.rd rfl rfl rfl (Rd.len rfl rfl Tryd.underlying35) ?_
    refine To.rd rfl rfl rfl (Rd.eql rfl rfl rfl) ?_
    refine To.rd rfl rfl rfl (Rd.pickT rfl rfl rfl) ?_
    refine To.rd rfl rfl rfl (Rd.move rfl rfl) ?_
    refine To.rd rfl rfl rfl (Rd.field rfl rfl fl37_1) ?_
    refine To.rd rfl rfl rfl (Rd.load (i := 0) rfl rfl c35 rfl (box_gives1 rfl)) ?_
    refine To.rd rfl rfl rfl (Rd.indexRows (i := 2) (j := 0) rfl rfl rfl s35 rfl (show [e0][0]? = some e0 from rfl)) ?_
    refine To.rd rfl rfl rfl (Rd.field rfl rfl fl48_0) ?_
    refine To.rd rfl rfl rfl (Rd.load (i := 2) rfl rfl c46 rfl (gives_at (f := 0) (rows_gives encEf (show [e0][0]? = some e0 from rfl)) rfl)) ?_
    refine To.rd rfl rfl rfl (Rd.eql rfl rfl rfl) ?_
    refine To.rd rfl rfl rfl (Rd.pickT rfl rfl rfl) ?_
    refine To.rdP rfl rfl rfl (Rd.move rfl rfl) (fun g68 => ?_) (fun g68 => ?_)
    ·
      refine To.rd rfl rfl rfl (Rd.field rfl rfl fl37_0) ?_
      refine To.rd rfl rfl rfl (Rd.field rfl rfl fl34_0) ?_
      refine To.rd rfl rfl rfl (Rd.load (i := 0) rfl rfl c28 rfl (box_gives1 rfl)) ?_
      refine To.rd rfl rfl rfl (Rd.indexRows (i := 1) (j := 0) rfl rfl rfl s28 rfl (show [v][0]? = some v from rfl)) ?_
      refine To.rd rfl rfl rfl (Rd.load (i := 1) rfl rfl c2 rfl (gives_1 (rows_gives encI_ok (show [v][0]? = some v from rfl)) rfl)) ?_
      refine To.rd rfl rfl rfl (Rd.move rfl rfl) ?_
      refine To.rd rfl rfl rfl (Rd.eql rfl rfl rfl) ?_
      refine To.rd rfl rfl rfl (Rd.pickT rfl rfl rfl) ?_
      refine To.rd rfl rfl rfl (Rd.assign rfl rfl) ?_
      refine To.nil ?_
      refine To.sub [(1, .int .i64 v), (6, .pointer (some ⟨b6, 0, none⟩)), (7, .pointer (some ⟨b7, 0, none⟩)), (8, .int .i64 0), (4, .bool (decide (v = v)))] ⟨rfl, rfl, rfl, rfl, rfl, trivial⟩ ?_
      refine To.thenN ?_
      refine To.ret ?_
      refine To.end1 (.inl rfl) Tryd.results3 rfl ?_
      simp
    ·
      exact absurd hk g68
end Go.Proofs.YtoehnbacbobhiaaDoor
