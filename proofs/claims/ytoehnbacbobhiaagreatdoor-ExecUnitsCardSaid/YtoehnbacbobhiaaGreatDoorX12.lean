/- The example, and the law ExecLoops. Own text (walks printed by sx.py). -/
import Derived.Test.YtoehnbacbobhiaaGreatDoorL1
import Derived.Test.YtoehnbacbobhiaaGreatDoorX11
set_option linter.unusedVariables false
set_option linter.unusedSimpArgs false
namespace Go.Proofs.YtoehnbacbobhiaaGreatDoor
open Go.RowKit Go.Flow Go.Mem Go.Sep
theorem he2 : exC0[2]? = some ⟨28, 8, 0, 0⟩ := rfl
theorem one_of {l : List Ef} {e : EfV} (h : l.map Ef.val = [e]) : ∃ e0, l = [e0] ∧ e0.k = e.k := by
  cases l with
  | nil => simp at h
  | cons e0 l => cases l with
    | nil => simp at h; exact ⟨e0, rfl, by rw [← h]; rfl⟩
    | cons e1 l => simp at h
set_option maxHeartbeats 2000000 in
set_option maxRecDepth 100000 in
theorem awake_fn  :
    Does Tryz.prog 6 [] [tabC] (fun v _ => v = .bool true) := by
  refine Does.enter Tryz.func6 rfl Tryz.ntmps6 rfl (fun w0 => ?_)
  refine To.seq (To.reg (To.a (To.nil (To.thenN (To.seq (To.reg ?_))))))
  refine To.r (Rd.build (vs := [(0, .int .u8 29)]) (cells := [.int .u8 29, .int .i64 0, .int .i64 0, .int .i64 0]) rfl rfl rfl (by kernel_rfl)) ?_
  refine To.r (Rd.build (vs := [(0, .int .u8 1), (3, .int .i64 1)]) (cells := [.int .u8 1, .int .i64 0, .int .i64 0, .int .i64 1]) rfl rfl rfl (by kernel_rfl)) ?_
  refine To.r (Rd.build (vs := [(0, .int .u8 28), (1, .int .i64 8)]) (cells := [.int .u8 28, .int .i64 8, .int .i64 0, .int .i64 0]) rfl rfl rfl (by kernel_rfl)) ?_
  refine To.r (Rd.build (vs := [(0, .int .u8 29)]) (cells := [.int .u8 29, .int .i64 0, .int .i64 0, .int .i64 0]) rfl rfl rfl (by kernel_rfl)) ?_
  refine To.r (Rd.build (vs := [(0, .int .u8 2)]) (cells := [.int .u8 2, .int .i64 0, .int .i64 0, .int .i64 0]) rfl rfl rfl (by kernel_rfl)) ?_
  refine To.r (Rd.build (vs := [(0, .int .u8 1), (3, .int .i64 1)]) (cells := [.int .u8 1, .int .i64 0, .int .i64 0, .int .i64 1]) rfl rfl rfl (by kernel_rfl)) ?_
  refine To.r (Rd.build (vs := [(0, .int .u8 14)]) (cells := [.int .u8 14, .int .i64 0, .int .i64 0, .int .i64 0]) rfl rfl rfl (by kernel_rfl)) ?_
  refine To.r (Rd.build (vs := [(0, .int .u8 24)]) (cells := [.int .u8 24, .int .i64 0, .int .i64 0, .int .i64 0]) rfl rfl rfl (by kernel_rfl)) ?_
  refine To.r (Rd.build (vs := [(0, .int .u8 27)]) (cells := [.int .u8 27, .int .i64 0, .int .i64 0, .int .i64 0]) rfl rfl rfl (by kernel_rfl)) ?_
  refine To.mk rfl rfl rfl (Mk.sliceN (us := [.int .u8 29, .int .i64 0, .int .i64 0, .int .i64 0, .int .u8 1, .int .i64 0, .int .i64 0, .int .i64 1, .int .u8 28, .int .i64 8, .int .i64 0, .int .i64 0, .int .u8 29, .int .i64 0, .int .i64 0, .int .i64 0, .int .u8 2, .int .i64 0, .int .i64 0, .int .i64 0, .int .u8 1, .int .i64 0, .int .i64 0, .int .i64 1, .int .u8 14, .int .i64 0, .int .i64 0, .int .i64 0, .int .u8 24, .int .i64 0, .int .i64 0, .int .i64 0, .int .u8 27, .int .i64 0, .int .i64 0, .int .i64 0]) rfl s29 rfl rfl rfl rfl rfl rfl) ?_
  rintro _ _ ⟨b13, rfl, rfl⟩
  refine To.as [rows Ins.cells 36 4 (some ⟨b13, 0, none⟩) 9 exC0, tabC] rfl ?_
  refine To.r (Rd.build (vs := [(1, .int .i64 2), (2, .slice (some ⟨b13, 0, none⟩) 9 9)]) (cells := [.int .i64 0, .int .i64 2, .slice (some ⟨b13, 0, none⟩) 9 9]) rfl rfl rfl (by kernel_rfl)) ?_
  refine To.alloc rfl rfl rfl rfl z31 (fun b1 => ?_)
  refine To.u (Up.storeS (i := 0) rfl rfl rfl r31 rfl rfl rfl (box_takesAll rfl)) ?_
  refine To.nil (To.thenN (To.seq (To.reg ?_)))
  refine To.f fl31_2 ?_
  refine To.lo 0 c29 ?_
  refine To.r (Rd.indexRows (l := exC0) (i := 1) (j := 2) rfl rfl rfl s29 rfl he2) ?_
  refine To.f fl36_1 ?_
  refine To.u (Up.store (i := 1) rfl rfl rfl c3 rfl rfl (row_takes (size := 4) (n := 9) (off := 9) (xs := exC0.flatMap Ins.cells) (ds := exC.flatMap Ins.cells) (by decide) (by simp) rfl)) ?_
  refine To.nil (To.thenN (To.seq ?_))
  refine To.as [box b1 [.int .i64 0, .int .i64 2, .slice (some ⟨b13, 0, none⟩) 9 9] 31, rows Ins.cells 36 4 (some ⟨b13, 0, none⟩) 9 exC, tabC] rfl ?_
  have hver := ex_verify
  have href := ex_refers
  obtain ⟨I, hR, hI⟩ := simple_run (A := (some ⟨b13, 0, none⟩)) (Av := none) (q := 9) (qv := 0) (V := [5]) ex_verify ex_refers ex_simple
  refine To.reg ?_
  refine To.r (Rd.loadS (i := 0) rfl rfl r31 rfl box_whole rfl) ?_
  refine To.mk rfl rfl rfl (Mk.sliceN (us := [.int .i64 5]) rfl s24 rfl rfl rfl rfl rfl rfl) ?_
  rintro _ _ ⟨b21, rfl, rfl⟩
  refine To.r (Rd.build (vs := [(0, .slice (some ⟨b21, 0, none⟩) 1 1)]) (cells := [.slice (some ⟨b21, 0, none⟩) 1 1, .slice none 0 0, .slice none 0 0]) rfl rfl rfl (by kernel_rfl)) ?_
  refine To.r (Rd.build (vs := []) (cells := [.slice none 0 0, .int .i64 0, .slice none 0 0, .int .i64 0, .slice none 0 0]) rfl rfl rfl (by kernel_rfl)) ?_
  refine To.callQ rfl rfl rfl (Ent.fn rfl rfl ca5) (run1_fn 2 (some ⟨b13, 0, none⟩) (some ⟨b21, 0, none⟩) 9 1 exC [5] (show 1 ≤ 1000000 by decide) hver (by first | decide | omega) href I hR hI) rfl (oks_cons (oks_row 2 rfl) (oks_cons (oks_row 0 rfl) (oks_cons (oks_at 3 rfl) (oks_nil _)))) ?_
  rintro _ _ ⟨d', rfl, rfl, hv⟩
  refine ⟨rfl, ?_⟩
  refine To.m ?_
  refine To.r (Rd.extract rfl rfl rfl) ?_
  refine To.r (Rd.extract rfl rfl rfl) ?_
  refine To.alloc rfl rfl rfl rfl z56 (fun b2 => ?_)
  refine To.u (Up.storeS (i := 0) rfl rfl rfl r56 rfl rfl rfl (box_takesAll rfl)) ?_
  refine To.a (To.nil (To.thenN (To.seq ?_)))
  rw [runV_addr, ex_run] at hv
  have hr1 : (⟨[105], [], [], [faultE], 200, [], 1, 0, 0, true⟩ : Dv).vars = [105] := rfl
  have hr2 : (⟨[105], [], [], [faultE], 200, [], 1, 0, 0, true⟩ : Dv).cost = 200 := rfl
  have hr3 : (⟨[105], [], [], [faultE], 200, [], 1, 0, 0, true⟩ : Dv).effs = [faultE] := rfl
  have hvars : d'.vars = [105] := by have := congrArg Dv.vars hv; simpa [Dm.val] using this.trans hr1
  have hcost : d'.cost = 200 := by have := congrArg Dv.cost hv; simpa [Dm.val] using this.trans hr2
  obtain ⟨e0, hef, hk⟩ := one_of (by have := congrArg Dv.effs hv; exact this.trans hr3)
  have hk : e0.k = 5 := hk
  rw [hvars, hcost, hef]
  refine To.reg (To.m ?_)
  refine To.r (Rd.eql rfl rfl rfl) ?_
  refine To.m ?_
  refine To.f fl56_2 ?_
  refine To.lo 0 c3 ?_
  refine To.r (Rd.eql rfl rfl rfl) ?_
  refine To.r (Rd.pickT rfl rfl rfl) ?_
  refine To.m ?_
  refine To.f fl56_0 ?_
  refine To.f fl42_0 ?_
  refine To.lo 0 c24 ?_
  refine To.r (Rd.len rfl rfl Tryz.underlying24) ?_
  refine To.r (Rd.eql rfl rfl rfl) ?_
  refine To.r (Rd.pickT rfl rfl rfl) ?_
  refine To.m ?_
  refine To.f fl56_0 ?_
  refine To.f fl42_0 ?_
  refine To.lo 0 c24 ?_
  refine To.r (Rd.indexRows (i := 1) (j := 0) rfl rfl rfl s24 rfl (show [(105 : Int)][0]? = some 105 from rfl)) ?_
  refine To.r (Rd.load (i := 1) rfl rfl c2 rfl (gives_1 (rows_gives encI_ok (show [(105 : Int)][0]? = some 105 from rfl)) rfl)) ?_
  refine To.r (Rd.eql rfl rfl rfl) ?_
  refine To.r (Rd.pickT rfl rfl rfl) ?_
  refine To.m ?_
  refine To.f fl56_1 ?_
  refine To.lo 0 c54 ?_
  refine To.r (Rd.len rfl rfl Tryz.underlying54) ?_
  refine To.r (Rd.eql rfl rfl rfl) ?_
  refine To.r (Rd.pickT rfl rfl rfl) ?_
  refine To.m ?_
  refine To.f fl56_1 ?_
  refine To.lo 0 c54 ?_
  refine To.r (Rd.indexRows (i := 2) (j := 0) rfl rfl rfl s54 rfl (show [e0][0]? = some e0 from rfl)) ?_
  refine To.f fl84_0 ?_
  refine To.r (Rd.load (i := 2) rfl rfl c82 rfl (gives_at (f := 0) (rows_gives encEf (show [e0][0]? = some e0 from rfl)) rfl)) ?_
  refine To.r (Rd.eql rfl rfl rfl) ?_
  refine To.r (Rd.pickT rfl rfl rfl) ?_
  refine To.a (To.nil (To.thenN (To.ret ?_)))
  refine To.end1 (.inl rfl) Tryz.results6 rfl ?_
  exact congrArg Value.bool (decide_eq_true hk)
end Go.Proofs.YtoehnbacbobhiaaGreatDoor
