/- The reference runs. Own text (walks printed by sx.py). -/
import Derived.Test.YtoehnbacbobhiaaGreatDoorL1
import Derived.Test.YtoehnbacbobhiaaGreatDoorX39
set_option linter.unusedVariables false
set_option linter.unusedSimpArgs false
namespace Go.Proofs.YtoehnbacbobhiaaGreatDoor
open Go.RowKit Go.Flow Go.Mem Go.Sep
set_option maxHeartbeats 2000000 in
set_option maxRecDepth 100000 in
theorem copy00_fn (Av At Ad : Option Addr) (qv qt qd nd : Nat) (V : List Int) (T : List Tb) (hv : 0 < V.length ∧ V.length ≤ 1000000) (ht : 0 < T.length ∧ T.length ≤ 1000000) :
    Does Tryz.prog 25 [.agg #[.slice Av V.length qv, .slice At T.length qt, .slice Ad nd qd]] [ros encI Av V, ros Tb.cells At T] (fun r Γ' => ∃ Bv pv Bt pt, r = .agg #[.slice Bv V.length pv, .slice Bt T.length pt, .slice Ad nd qd] ∧ Γ' = [rows encI 2 1 Bv pv V, rows Tb.cells 44 1 Bt pt T]) := by
  refine Does.enter Tryz.func25 rfl Tryz.ntmps25 rfl (fun w0 => ?_)
  refine To.seq (To.reg ?_)
  refine To.boxed rfl rfl rfl rfl rfl rfl (fun b1 => ?_)
  refine To.alloc rfl rfl rfl rfl z46 (fun b2 => ?_)
  refine To.nil (To.thenN (To.seq ?_))
  refine To.flow [box b1 [.slice Av V.length qv, .slice At T.length qt, .slice Ad nd qd] 46] [⟨1, [], 0⟩, ⟨2, [], 0⟩, ⟨5, [], 0⟩, ⟨6, [], 0⟩, ⟨8, [], 0⟩, ⟨9, [], 0⟩, ⟨0, [], 2⟩, ⟨3, [0], 2⟩, ⟨4, [], 2⟩, ⟨7, [0, 3, 4], 2⟩, ⟨10, [0, 3, 4, 7], 0⟩, ⟨11, [0, 3, 4, 7], 5⟩] mixed (by kernel_rfl) (oks_cons (oks_at 1 rfl) (oks_nil _)) ?_
  refine FlowS.fi fl46_0 ?_
  refine FlowS.th 0 c24 ?_
  refine FlowS.fi fl46_1 ?_
  refine FlowS.th 0 c43 ?_
  refine FlowS.fi fl46_2 ?_
  refine FlowS.th 0 c44 ?_
  refine FlowS.mk rfl rfl rfl rfl rfl (Mk.slice0R (α := Int) (enc := encI) rfl s24) ?_
  rintro _ _ ⟨A3, rfl, rfl⟩
  refine FlowS.mk rfl rfl rfl rfl rfl (Mk.appendNew encI_ok (m := V) rfl s24 rfl rfl (fun w hw => oks_at 3 rfl w hw) (by omega) (by omega) (by omega)) ?_
  rintro _ _ ⟨A3n, A3q, rfl, rfl⟩
  refine FlowS.mk rfl rfl rfl rfl rfl (Mk.slice0R (α := Tb) (enc := Tb.cells) rfl s43) ?_
  rintro _ _ ⟨A7, rfl, rfl⟩
  refine FlowS.mk rfl rfl rfl rfl rfl (Mk.appendNew encTb (m := T) rfl s43 rfl rfl (fun w hw => oks_at 6 rfl w hw) (by omega) (by omega) (by omega)) ?_
  rintro _ _ ⟨A7n, A7q, rfl, rfl⟩
  refine FlowS.f rfl (Rd.build (vs := [(0, .slice A3n V.length A3q), (1, .slice A7n T.length A7q), (2, .slice Ad nd qd)]) (cells := [.slice A3n V.length A3q, .slice A7n T.length A7q, .slice Ad nd qd]) rfl rfl rfl (by kernel_rfl)) ?_
  refine FlowS.up rfl rfl rfl (Up.storeS (i := 4) rfl rfl rfl r46 rfl rfl rfl (box_takesAll rfl)) (oks_cons (oks_at 5 rfl) (oks_nil _)) ?_
  refine FlowS.fin ?_
  refine To.thenN (To.ret ?_)
  refine To.endC [2, 0] rfl (.inl rfl) Tryz.results25 rfl (i := 4) rfl r46 rfl ?_
  exact ⟨_, _, _, _, rfl, rfl⟩
set_option maxHeartbeats 2000000 in
set_option maxRecDepth 100000 in
theorem copy01_fn (Av At Ad : Option Addr) (qv qt qd nd : Nat) (V : List Int) (T : List Tb) (hv : 0 < V.length ∧ V.length ≤ 1000000) (ht : T.length ≤ 1000000) :
    Does Tryz.prog 25 [.agg #[.slice Av V.length qv, .slice At (([] : List Tb).length) qt, .slice Ad nd qd]] [ros encI Av V, ros Tb.cells At ([] : List Tb)] (fun r Γ' => ∃ Bv pv Bt pt, r = .agg #[.slice Bv V.length pv, .slice Bt ([] : List Tb).length pt, .slice Ad nd qd] ∧ Γ' = [rows encI 2 1 Bv pv V, rows Tb.cells 44 1 Bt pt ([] : List Tb)]) := by
  refine Does.enter Tryz.func25 rfl Tryz.ntmps25 rfl (fun w0 => ?_)
  refine To.seq (To.reg ?_)
  refine To.boxed rfl rfl rfl rfl rfl rfl (fun b1 => ?_)
  refine To.alloc rfl rfl rfl rfl z46 (fun b2 => ?_)
  refine To.nil (To.thenN (To.seq ?_))
  refine To.flow [box b1 [.slice Av V.length qv, .slice At (([] : List Tb).length) qt, .slice Ad nd qd] 46] [⟨1, [], 0⟩, ⟨2, [], 0⟩, ⟨5, [], 0⟩, ⟨6, [], 0⟩, ⟨8, [], 0⟩, ⟨9, [], 0⟩, ⟨0, [], 2⟩, ⟨3, [0], 2⟩, ⟨4, [], 2⟩, ⟨7, [0, 3, 4], 1⟩, ⟨10, [0, 3, 4], 0⟩, ⟨11, [0, 3, 4], 5⟩] mixed (by kernel_rfl) (oks_cons (oks_at 1 rfl) (oks_nil _)) ?_
  refine FlowS.fi fl46_0 ?_
  refine FlowS.th 0 c24 ?_
  refine FlowS.fi fl46_1 ?_
  refine FlowS.th 0 c43 ?_
  refine FlowS.fi fl46_2 ?_
  refine FlowS.th 0 c44 ?_
  refine FlowS.mk rfl rfl rfl rfl rfl (Mk.slice0R (α := Int) (enc := encI) rfl s24) ?_
  rintro _ _ ⟨A3, rfl, rfl⟩
  refine FlowS.mk rfl rfl rfl rfl rfl (Mk.appendNew encI_ok (m := V) rfl s24 rfl rfl (fun w hw => oks_at 3 rfl w hw) (by omega) (by omega) (by omega)) ?_
  rintro _ _ ⟨A3n, A3q, rfl, rfl⟩
  refine FlowS.mk rfl rfl rfl rfl rfl (Mk.slice0R (α := Tb) (enc := Tb.cells) rfl s43) ?_
  rintro _ _ ⟨A7, rfl, rfl⟩
  refine FlowS.r rfl (Rd.append0 rfl s43 rfl rfl rfl (Nat.le_refl _)) ?_
  refine FlowS.f rfl (Rd.build (vs := [(0, .slice A3n V.length A3q), (1, .slice A7 0 0), (2, .slice Ad nd qd)]) (cells := [.slice A3n V.length A3q, .slice A7 0 0, .slice Ad nd qd]) rfl rfl rfl (by kernel_rfl)) ?_
  refine FlowS.up rfl rfl rfl (Up.storeS (i := 3) rfl rfl rfl r46 rfl rfl rfl (box_takesAll rfl)) (oks_cons (oks_at 4 rfl) (oks_nil _)) ?_
  refine FlowS.fin ?_
  refine To.thenN (To.ret ?_)
  refine To.endC [1, 0] rfl (.inl rfl) Tryz.results25 rfl (i := 3) rfl r46 rfl ?_
  exact ⟨_, _, _, _, rfl, rfl⟩
set_option maxHeartbeats 2000000 in
set_option maxRecDepth 100000 in
theorem copy10_fn (Av At Ad : Option Addr) (qv qt qd nd : Nat) (V : List Int) (T : List Tb) (hv : V.length ≤ 1000000) (ht : 0 < T.length ∧ T.length ≤ 1000000) :
    Does Tryz.prog 25 [.agg #[.slice Av (([] : List Int).length) qv, .slice At T.length qt, .slice Ad nd qd]] [ros encI Av ([] : List Int), ros Tb.cells At T] (fun r Γ' => ∃ Bv pv Bt pt, r = .agg #[.slice Bv ([] : List Int).length pv, .slice Bt T.length pt, .slice Ad nd qd] ∧ Γ' = [rows encI 2 1 Bv pv ([] : List Int), rows Tb.cells 44 1 Bt pt T]) := by
  refine Does.enter Tryz.func25 rfl Tryz.ntmps25 rfl (fun w0 => ?_)
  refine To.seq (To.reg ?_)
  refine To.boxed rfl rfl rfl rfl rfl rfl (fun b1 => ?_)
  refine To.alloc rfl rfl rfl rfl z46 (fun b2 => ?_)
  refine To.nil (To.thenN (To.seq ?_))
  refine To.flow [box b1 [.slice Av (([] : List Int).length) qv, .slice At T.length qt, .slice Ad nd qd] 46] [⟨1, [], 0⟩, ⟨2, [], 0⟩, ⟨5, [], 0⟩, ⟨6, [], 0⟩, ⟨8, [], 0⟩, ⟨9, [], 0⟩, ⟨0, [], 2⟩, ⟨3, [0], 1⟩, ⟨4, [], 2⟩, ⟨7, [0, 4], 2⟩, ⟨10, [0, 4, 7], 0⟩, ⟨11, [0, 4, 7], 5⟩] mixed (by kernel_rfl) (oks_cons (oks_at 1 rfl) (oks_nil _)) ?_
  refine FlowS.fi fl46_0 ?_
  refine FlowS.th 0 c24 ?_
  refine FlowS.fi fl46_1 ?_
  refine FlowS.th 0 c43 ?_
  refine FlowS.fi fl46_2 ?_
  refine FlowS.th 0 c44 ?_
  refine FlowS.mk rfl rfl rfl rfl rfl (Mk.slice0R (α := Int) (enc := encI) rfl s24) ?_
  rintro _ _ ⟨A3, rfl, rfl⟩
  refine FlowS.r rfl (Rd.append0 rfl s24 rfl rfl rfl (Nat.le_refl _)) ?_
  refine FlowS.mk rfl rfl rfl rfl rfl (Mk.slice0R (α := Tb) (enc := Tb.cells) rfl s43) ?_
  rintro _ _ ⟨A7, rfl, rfl⟩
  refine FlowS.mk rfl rfl rfl rfl rfl (Mk.appendNew encTb (m := T) rfl s43 rfl rfl (fun w hw => oks_at 5 rfl w hw) (by omega) (by omega) (by omega)) ?_
  rintro _ _ ⟨A7n, A7q, rfl, rfl⟩
  refine FlowS.f rfl (Rd.build (vs := [(0, .slice A3 0 0), (1, .slice A7n T.length A7q), (2, .slice Ad nd qd)]) (cells := [.slice A3 0 0, .slice A7n T.length A7q, .slice Ad nd qd]) rfl rfl rfl (by kernel_rfl)) ?_
  refine FlowS.up rfl rfl rfl (Up.storeS (i := 3) rfl rfl rfl r46 rfl rfl rfl (box_takesAll rfl)) (oks_cons (oks_at 4 rfl) (oks_nil _)) ?_
  refine FlowS.fin ?_
  refine To.thenN (To.ret ?_)
  refine To.endC [2, 0] rfl (.inl rfl) Tryz.results25 rfl (i := 3) rfl r46 rfl ?_
  exact ⟨_, _, _, _, rfl, rfl⟩
set_option maxHeartbeats 2000000 in
set_option maxRecDepth 100000 in
theorem copy11_fn (Av At Ad : Option Addr) (qv qt qd nd : Nat) (V : List Int) (T : List Tb) (hv : V.length ≤ 1000000) (ht : T.length ≤ 1000000) :
    Does Tryz.prog 25 [.agg #[.slice Av (([] : List Int).length) qv, .slice At (([] : List Tb).length) qt, .slice Ad nd qd]] [ros encI Av ([] : List Int), ros Tb.cells At ([] : List Tb)] (fun r Γ' => ∃ Bv pv Bt pt, r = .agg #[.slice Bv ([] : List Int).length pv, .slice Bt ([] : List Tb).length pt, .slice Ad nd qd] ∧ Γ' = [rows encI 2 1 Bv pv ([] : List Int), rows Tb.cells 44 1 Bt pt ([] : List Tb)]) := by
  refine Does.enter Tryz.func25 rfl Tryz.ntmps25 rfl (fun w0 => ?_)
  refine To.seq (To.reg ?_)
  refine To.boxed rfl rfl rfl rfl rfl rfl (fun b1 => ?_)
  refine To.alloc rfl rfl rfl rfl z46 (fun b2 => ?_)
  refine To.nil (To.thenN (To.seq ?_))
  refine To.flow [box b1 [.slice Av (([] : List Int).length) qv, .slice At (([] : List Tb).length) qt, .slice Ad nd qd] 46] [⟨1, [], 0⟩, ⟨2, [], 0⟩, ⟨5, [], 0⟩, ⟨6, [], 0⟩, ⟨8, [], 0⟩, ⟨9, [], 0⟩, ⟨0, [], 2⟩, ⟨3, [0], 1⟩, ⟨4, [], 2⟩, ⟨7, [0, 4], 1⟩, ⟨10, [0, 4], 0⟩, ⟨11, [0, 4], 5⟩] mixed (by kernel_rfl) (oks_cons (oks_at 1 rfl) (oks_nil _)) ?_
  refine FlowS.fi fl46_0 ?_
  refine FlowS.th 0 c24 ?_
  refine FlowS.fi fl46_1 ?_
  refine FlowS.th 0 c43 ?_
  refine FlowS.fi fl46_2 ?_
  refine FlowS.th 0 c44 ?_
  refine FlowS.mk rfl rfl rfl rfl rfl (Mk.slice0R (α := Int) (enc := encI) rfl s24) ?_
  rintro _ _ ⟨A3, rfl, rfl⟩
  refine FlowS.r rfl (Rd.append0 rfl s24 rfl rfl rfl (Nat.le_refl _)) ?_
  refine FlowS.mk rfl rfl rfl rfl rfl (Mk.slice0R (α := Tb) (enc := Tb.cells) rfl s43) ?_
  rintro _ _ ⟨A7, rfl, rfl⟩
  refine FlowS.r rfl (Rd.append0 rfl s43 rfl rfl rfl (Nat.le_refl _)) ?_
  refine FlowS.f rfl (Rd.build (vs := [(0, .slice A3 0 0), (1, .slice A7 0 0), (2, .slice Ad nd qd)]) (cells := [.slice A3 0 0, .slice A7 0 0, .slice Ad nd qd]) rfl rfl rfl (by kernel_rfl)) ?_
  refine FlowS.up rfl rfl rfl (Up.storeS (i := 2) rfl rfl rfl r46 rfl rfl rfl (box_takesAll rfl)) (oks_cons (oks_at 3 rfl) (oks_nil _)) ?_
  refine FlowS.fin ?_
  refine To.thenN (To.ret ?_)
  refine To.endC [1, 0] rfl (.inl rfl) Tryz.results25 rfl (i := 2) rfl r46 rfl ?_
  exact ⟨_, _, _, _, rfl, rfl⟩
theorem copy_fn (Av At Ad : Option Addr) (qv qt qd nd : Nat) (V : List Int) (T : List Tb) (hv : V.length ≤ 1000000) (ht : T.length ≤ 1000000) :
    Does Tryz.prog 25 [.agg #[.slice Av V.length qv, .slice At T.length qt, .slice Ad nd qd]] [ros encI Av V, ros Tb.cells At T] (fun r Γ' => ∃ Bv pv Bt pt, r = .agg #[.slice Bv V.length pv, .slice Bt T.length pt, .slice Ad nd qd] ∧ Γ' = [rows encI 2 1 Bv pv V, rows Tb.cells 44 1 Bt pt T]) := by
  cases V with
  | nil =>
    cases T with
    | nil => exact copy11_fn Av At Ad qv qt qd nd [] [] hv ht
    | cons t T => exact copy10_fn Av At Ad qv qt qd nd [] (t :: T) hv ⟨by simp, ht⟩
  | cons y V =>
    cases T with
    | nil => exact copy01_fn Av At Ad qv qt qd nd (y :: V) [] ⟨by simp, hv⟩ ht
    | cons t T => exact copy00_fn Av At Ad qv qt qd nd (y :: V) (t :: T) ⟨by simp, hv⟩ ⟨by simp, ht⟩
end Go.Proofs.YtoehnbacbobhiaaGreatDoor
