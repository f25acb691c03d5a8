/- Lists compared; states compared. Own text (walks printed by sx.py). -/
import Derived.Test.YtoehnbacbobhiaaDoorX13
import Derived.Test.YtoehnbacbobhiaaDoorSepu
namespace Go.Proofs.YtoehnbacbobhiaaDoor
open Go.RowKit Go.Flow Go.Mem Go.Sep
theorem flatEn : FlatTy Tryd.prog 89 [.i64, .i64] := ⟨⟨_, Tryd.underlying89, by kernel_rfl⟩, by kernel_rfl, by kernel_rfl⟩
theorem arrPr : Arr2 Tryd.prog 77 := by
  obtain ⟨i, hi⟩ : ∃ i, Tryd.prog.info? 2 = some i := Option.isSome_iff_exists.1 (by kernel_rfl)
  exact ⟨⟨2, i, Tryd.underlying77, Tryd.underlying2, hi, by kernel_rfl⟩, by kernel_rfl⟩
theorem pair_iff {x y : Int × Int} : [x.1, x.2] = [y.1, y.2] ↔ x = y := by cases x; cases y; simp
theorem eq_len {α : Type} {l m : List α} {i : Nat} (h1 : l.length = m.length) (h2 : l.length ≤ i) (h : l.take i = m.take i) : l = m := by
  rwa [List.take_of_length_le h2, List.take_of_length_le (by omega)] at h
theorem eq_ne {α : Type} {l m : List α} {i : Nat} {x y : α} (hx : l[i]? = some x) (hy : m[i]? = some y) (h : x ≠ y) : l ≠ m := fun e => h (by rw [e, hy] at hx; exact (Option.some.inj hx).symm)
set_option maxHeartbeats 2000000 in
set_option maxRecDepth 100000 in
theorem sameArgs_fn (A B : Option Addr) (ca cb : Nat) (l m : List Int) (hl : l.length ≤ 1000000000000) :
    Does Tryd.prog 8 [.slice A l.length ca, .slice B m.length cb] [ros encI A l, ros encI B m] (fun v _ => v = .bool (decide (l = m))) := by
  refine Does.enter Tryd.func8 rfl Tryd.ntmps8 rfl (fun w0 => ?_)
  refine To.seq ?_
  refine To.reg ?_
  refine To.rd rfl rfl rfl (Rd.assign rfl rfl) ?_
  refine To.nil ?_
  refine To.thenN ?_
  refine To.seq ?_
  refine To.seq ?_
  refine To.reg ?_
  refine To.rd rfl rfl rfl (Rd.move rfl rfl) ?_
  refine To.rd rfl rfl rfl (Rd.len rfl rfl Tryd.underlying28) ?_
  refine To.rd rfl rfl rfl (Rd.move rfl rfl) ?_
  refine To.rd rfl rfl rfl (Rd.len rfl rfl Tryd.underlying28) ?_
  refine To.rd rfl rfl rfl (Rd.neq rfl rfl rfl) ?_
  refine To.nil ?_
  refine To.thenN ?_
  refine To.condP rfl (fun c10 => ?_) (fun c10 => ?_)
  ·
    refine To.seq ?_
    refine To.reg ?_
    refine To.rd rfl rfl rfl (Rd.assign rfl rfl) ?_
    refine To.nil ?_
    refine To.thenN ?_
    refine To.ret ?_
    refine To.thenR ?_
    refine To.end1 (.inl rfl) Tryd.results8 rfl ?_
    exact congrArg Value.bool (decide_eq_false (fun e => c10 (by rw [e]))).symm
  ·
    refine To.skip ?_
    refine To.thenN ?_
    refine To.seq ?_
    refine To.seq ?_
    refine To.reg ?_
    refine To.rd rfl rfl rfl (Rd.move rfl rfl) ?_
    refine To.rd rfl rfl rfl (Rd.len rfl rfl Tryd.underlying28) ?_
    refine To.rd rfl rfl rfl (Rd.move rfl rfl) ?_
    refine To.nil ?_
    refine To.thenN ?_
    refine To.block ?_
    refine To.sub [(0, .slice A l.length ca), (1, .slice B m.length cb), (11, .slice A l.length ca), (12, .int .i64 ((l.length : Nat) : Int)), (13, .int .i64 ((0 : Nat) : Int))] ⟨rfl, rfl, rfl, rfl, rfl, trivial⟩ ?_
    refine To.only [0, 0] rfl ?_
    refine To.loop (fun mz ρ Γ => ∃ (i : Nat), ρ = [(0, .slice A l.length ca), (1, .slice B m.length cb), (11, .slice A l.length ca), (12, .int .i64 ((l.length : Nat) : Int)), (13, .int .i64 ((i : Nat) : Int))] ∧ Γ = [ros encI A l, ros encI B m] ∧ mz = l.length - i ∧ (i ≤ l.length) ∧ (l.take i = m.take i)) (l.length - 0) ⟨0, rfl, rfl, rfl, (Nat.zero_le _), rfl⟩ ?_
    rintro mz _ _ ⟨i, rfl, rfl, rfl, hi, hI⟩
    refine To.seq ?_
    refine To.reg ?_
    refine To.rd rfl rfl rfl (Rd.lss rfl rfl rfl) ?_
    refine To.nil ?_
    refine To.thenN ?_
    refine To.seq ?_
    refine To.condP rfl (fun c14 => ?_) (fun c14 => ?_)
    ·
      obtain ⟨x, hx⟩ : ∃ z0, l[i]? = some z0 := ⟨l[i]'(by omega), List.getElem?_eq_getElem _⟩
      obtain ⟨y, hy⟩ : ∃ z0, m[i]? = some z0 := ⟨m[i]'(by omega), List.getElem?_eq_getElem _⟩
      refine To.skip ?_
      refine To.thenN ?_
      refine To.seq ?_
      refine To.block ?_
      refine To.seq ?_
      refine To.reg ?_
      refine To.rd rfl rfl rfl (Rd.move rfl rfl) ?_
      refine To.rd rfl rfl rfl (Rd.assign rfl rfl) ?_
      refine To.nil ?_
      refine To.thenN ?_
      refine To.seq ?_
      refine To.flow [ros encI A l, ros encI B m] [⟨0, [], 0⟩, ⟨1, [], 0⟩, ⟨4, [], 0⟩, ⟨5, [], 0⟩, ⟨2, [], 1⟩, ⟨3, [], 1⟩, ⟨6, [], 1⟩, ⟨7, [], 1⟩, ⟨8, [], 0⟩] mixed (by kernel_rfl) (oks_cons (oks_at 0 rfl) (oks_cons (oks_at 1 rfl) (oks_nil _))) ?_
      refine FlowS.free rfl rfl rfl rfl (Rd.move rfl rfl) ?_
      refine FlowS.free rfl rfl rfl rfl (Rd.move rfl rfl) ?_
      refine FlowS.free rfl rfl rfl rfl (Rd.move rfl rfl) ?_
      refine FlowS.free rfl rfl rfl rfl (Rd.move rfl rfl) ?_
      refine FlowS.rd rfl rfl rfl rfl (Rd.indexRos encI_ok (i := 0) (j := i) rfl rfl rfl s28 rfl hx) ?_
      refine FlowS.rd rfl rfl rfl rfl (Rd.load (i := 0) rfl rfl c2 rfl (gives_1 (ros_gives encI_ok hx) rfl)) ?_
      refine FlowS.rd rfl rfl rfl rfl (Rd.indexRos encI_ok (i := 1) (j := i) rfl rfl rfl s28 rfl hy) ?_
      refine FlowS.rd rfl rfl rfl rfl (Rd.load (i := 1) rfl rfl c2 rfl (gives_1 (ros_gives encI_ok hy) rfl)) ?_
      refine FlowS.free rfl rfl rfl rfl (Rd.neq rfl rfl rfl) ?_
      refine FlowS.fin ?_
      refine To.as [ros encI A l, ros encI B m] rfl ?_
      refine To.thenN ?_
      refine To.condP rfl (fun c24 => ?_) (fun c24 => ?_)
      ·
        refine To.seq ?_
        refine To.reg ?_
        refine To.rd rfl rfl rfl (Rd.assign rfl rfl) ?_
        refine To.nil ?_
        refine To.thenN ?_
        refine To.ret ?_
        refine To.blockR ?_
        refine To.thenR ?_
        refine To.thenR ?_
        refine To.blockR ?_
        refine To.thenR ?_
        refine To.end1 (.inl rfl) Tryd.results8 rfl ?_
        exact congrArg Value.bool (decide_eq_false (eq_ne hx hy c24)).symm
      ·
        refine To.skip ?_
        refine To.blockN ?_
        refine To.thenN ?_
        refine To.reg ?_
        refine To.rd rfl rfl rfl (Rd.inc rfl rfl rfl (by omega)) ?_
        refine To.rd rfl rfl rfl (Rd.move rfl rfl) ?_
        refine To.nil ?_
        refine To.thenN ?_
        refine To.sub [(0, .slice A l.length ca), (1, .slice B m.length cb), (11, .slice A l.length ca), (12, .int .i64 ((l.length : Nat) : Int)), (13, .int .i64 (((i + 1) : Nat) : Int))] ⟨rfl, rfl, rfl, rfl, rfl, trivial⟩ ?_
        refine To.only [0, 0] rfl ?_
        refine To.again (l.length - (i + 1)) (by omega) ⟨i + 1, rfl, rfl, rfl, (by omega), (by rw [take_of_get hx, take_of_get hy, hI, show x = y from Decidable.of_not_not c24])⟩
    ·
      refine To.exit ?_
      refine To.thenX ?_
      refine To.thenX ?_
      refine To.blockX ?_
      refine To.thenN ?_
      refine To.seq ?_
      refine To.reg ?_
      refine To.rd rfl rfl rfl (Rd.assign rfl rfl) ?_
      refine To.nil ?_
      refine To.thenN ?_
      refine To.ret ?_
      refine To.end1 (.inl rfl) Tryd.results8 rfl ?_
      exact congrArg Value.bool (decide_eq_true (eq_len (by omega) (by omega) hI)).symm
set_option maxHeartbeats 2000000 in
set_option maxRecDepth 100000 in
theorem rsame_fn (A B : Option Addr) (ca cb : Nat) (l m : List (Int × Int)) (hl : l.length ≤ 1000000000000) :
    Does Tryd.prog 9 [.slice A l.length ca, .slice B m.length cb] [ros encEn A l, ros encEn B m] (fun v _ => v = .bool (decide (l = m))) := by
  refine Does.enter Tryd.func9 rfl Tryd.ntmps9 rfl (fun w0 => ?_)
  refine To.seq ?_
  refine To.reg ?_
  refine To.rd rfl rfl rfl (Rd.assign rfl rfl) ?_
  refine To.nil ?_
  refine To.thenN ?_
  refine To.seq ?_
  refine To.seq ?_
  refine To.reg ?_
  refine To.rd rfl rfl rfl (Rd.move rfl rfl) ?_
  refine To.rd rfl rfl rfl (Rd.len rfl rfl Tryd.underlying55) ?_
  refine To.rd rfl rfl rfl (Rd.move rfl rfl) ?_
  refine To.rd rfl rfl rfl (Rd.len rfl rfl Tryd.underlying55) ?_
  refine To.rd rfl rfl rfl (Rd.neq rfl rfl rfl) ?_
  refine To.nil ?_
  refine To.thenN ?_
  refine To.condP rfl (fun c10 => ?_) (fun c10 => ?_)
  ·
    refine To.seq ?_
    refine To.reg ?_
    refine To.rd rfl rfl rfl (Rd.assign rfl rfl) ?_
    refine To.nil ?_
    refine To.thenN ?_
    refine To.ret ?_
    refine To.thenR ?_
    refine To.end1 (.inl rfl) Tryd.results9 rfl ?_
    exact congrArg Value.bool (decide_eq_false (fun e => c10 (by rw [e]))).symm
  ·
    refine To.skip ?_
    refine To.thenN ?_
    refine To.seq ?_
    refine To.seq ?_
    refine To.reg ?_
    refine To.rd rfl rfl rfl (Rd.move rfl rfl) ?_
    refine To.rd rfl rfl rfl (Rd.len rfl rfl Tryd.underlying55) ?_
    refine To.rd rfl rfl rfl (Rd.move rfl rfl) ?_
    refine To.nil ?_
    refine To.thenN ?_
    refine To.block ?_
    refine To.sub [(0, .slice A l.length ca), (1, .slice B m.length cb), (11, .slice A l.length ca), (12, .int .i64 ((l.length : Nat) : Int)), (13, .int .i64 ((0 : Nat) : Int))] ⟨rfl, rfl, rfl, rfl, rfl, trivial⟩ ?_
    refine To.only [0, 0] rfl ?_
    refine To.loop (fun mz ρ Γ => ∃ (i : Nat), ρ = [(0, .slice A l.length ca), (1, .slice B m.length cb), (11, .slice A l.length ca), (12, .int .i64 ((l.length : Nat) : Int)), (13, .int .i64 ((i : Nat) : Int))] ∧ Γ = [ros encEn A l, ros encEn B m] ∧ mz = l.length - i ∧ (i ≤ l.length) ∧ (l.take i = m.take i)) (l.length - 0) ⟨0, rfl, rfl, rfl, (Nat.zero_le _), rfl⟩ ?_
    rintro mz _ _ ⟨i, rfl, rfl, rfl, hi, hI⟩
    refine To.seq ?_
    refine To.reg ?_
    refine To.rd rfl rfl rfl (Rd.lss rfl rfl rfl) ?_
    refine To.nil ?_
    refine To.thenN ?_
    refine To.seq ?_
    refine To.condP rfl (fun c14 => ?_) (fun c14 => ?_)
    ·
      obtain ⟨x, hx⟩ : ∃ z0, l[i]? = some z0 := ⟨l[i]'(by omega), List.getElem?_eq_getElem _⟩
      obtain ⟨y, hy⟩ : ∃ z0, m[i]? = some z0 := ⟨m[i]'(by omega), List.getElem?_eq_getElem _⟩
      refine To.skip ?_
      refine To.thenN ?_
      refine To.seq ?_
      refine To.block ?_
      refine To.seq ?_
      refine To.reg ?_
      refine To.rd rfl rfl rfl (Rd.move rfl rfl) ?_
      refine To.rd rfl rfl rfl (Rd.assign rfl rfl) ?_
      refine To.nil ?_
      refine To.thenN ?_
      refine To.seq ?_
      refine To.flow [ros encEn A l, ros encEn B m] [⟨0, [], 0⟩, ⟨1, [], 0⟩, ⟨4, [], 0⟩, ⟨5, [], 0⟩, ⟨2, [], 1⟩, ⟨3, [], 1⟩, ⟨6, [], 1⟩, ⟨7, [], 1⟩, ⟨8, [], 0⟩] mixed (by kernel_rfl) (oks_cons (oks_at 0 rfl) (oks_cons (oks_at 1 rfl) (oks_nil _))) ?_
      refine FlowS.free rfl rfl rfl rfl (Rd.move rfl rfl) ?_
      refine FlowS.free rfl rfl rfl rfl (Rd.move rfl rfl) ?_
      refine FlowS.free rfl rfl rfl rfl (Rd.move rfl rfl) ?_
      refine FlowS.free rfl rfl rfl rfl (Rd.move rfl rfl) ?_
      refine FlowS.rd rfl rfl rfl rfl (Rd.indexRos encEn_ok (i := 0) (j := i) rfl rfl rfl s55 rfl hx) ?_
      refine FlowS.rd rfl rfl rfl rfl (Rd.loadS (i := 0) rfl rfl r77 rfl (ros_gives encEn_ok hx) (encEn_ok.len _)) ?_
      refine FlowS.rd rfl rfl rfl rfl (Rd.indexRos encEn_ok (i := 1) (j := i) rfl rfl rfl s55 rfl hy) ?_
      refine FlowS.rd rfl rfl rfl rfl (Rd.loadS (i := 1) rfl rfl r77 rfl (ros_gives encEn_ok hy) (encEn_ok.len _)) ?_
      refine FlowS.free rfl rfl rfl rfl (Rd.neqA2 (p := x) (q := y) arrPr rfl rfl rfl) ?_
      refine FlowS.fin ?_
      refine To.as [ros encEn A l, ros encEn B m] rfl ?_
      refine To.thenN ?_
      refine To.condP rfl (fun c24 => ?_) (fun c24 => ?_)
      ·
        refine To.seq ?_
        refine To.reg ?_
        refine To.rd rfl rfl rfl (Rd.assign rfl rfl) ?_
        refine To.nil ?_
        refine To.thenN ?_
        refine To.ret ?_
        refine To.blockR ?_
        refine To.thenR ?_
        refine To.thenR ?_
        refine To.blockR ?_
        refine To.thenR ?_
        refine To.end1 (.inl rfl) Tryd.results9 rfl ?_
        exact congrArg Value.bool (decide_eq_false (eq_ne hx hy c24)).symm
      ·
        refine To.skip ?_
        refine To.blockN ?_
        refine To.thenN ?_
        refine To.reg ?_
        refine To.rd rfl rfl rfl (Rd.inc rfl rfl rfl (by omega)) ?_
        refine To.rd rfl rfl rfl (Rd.move rfl rfl) ?_
        refine To.nil ?_
        refine To.thenN ?_
        refine To.sub [(0, .slice A l.length ca), (1, .slice B m.length cb), (11, .slice A l.length ca), (12, .int .i64 ((l.length : Nat) : Int)), (13, .int .i64 (((i + 1) : Nat) : Int))] ⟨rfl, rfl, rfl, rfl, rfl, trivial⟩ ?_
        refine To.only [0, 0] rfl ?_
        refine To.again (l.length - (i + 1)) (by omega) ⟨i + 1, rfl, rfl, rfl, (by omega), (by rw [take_of_get hx, take_of_get hy, hI, show x = y from Decidable.of_not_not c24])⟩
    ·
      refine To.exit ?_
      refine To.thenX ?_
      refine To.thenX ?_
      refine To.blockX ?_
      refine To.thenN ?_
      refine To.seq ?_
      refine To.reg ?_
      refine To.rd rfl rfl rfl (Rd.assign rfl rfl) ?_
      refine To.nil ?_
      refine To.thenN ?_
      refine To.ret ?_
      refine To.end1 (.inl rfl) Tryd.results9 rfl ?_
      exact congrArg Value.bool (decide_eq_true (eq_len (by omega) (by omega) hI)).symm
set_option maxHeartbeats 2000000 in
set_option maxRecDepth 100000 in
theorem eq64_fn (A B : Option Addr) (ca cb : Nat) (l m : List Int) (hl : l.length ≤ 1000000000000) :
    Does Tryd.prog 21 [.slice A l.length ca, .slice B m.length cb] [ros encI A l, ros encI B m] (fun v _ => v = .bool (decide (l = m))) := by
  refine Does.enter Tryd.func21 rfl Tryd.ntmps21 rfl (fun w0 => ?_)
  refine To.seq ?_
  refine To.reg ?_
  refine To.rd rfl rfl rfl (Rd.assign rfl rfl) ?_
  refine To.nil ?_
  refine To.thenN ?_
  refine To.seq ?_
  refine To.seq ?_
  refine To.reg ?_
  refine To.rd rfl rfl rfl (Rd.move rfl rfl) ?_
  refine To.rd rfl rfl rfl (Rd.len rfl rfl Tryd.underlying28) ?_
  refine To.rd rfl rfl rfl (Rd.move rfl rfl) ?_
  refine To.rd rfl rfl rfl (Rd.len rfl rfl Tryd.underlying28) ?_
  refine To.rd rfl rfl rfl (Rd.neq rfl rfl rfl) ?_
  refine To.nil ?_
  refine To.thenN ?_
  refine To.condP rfl (fun c10 => ?_) (fun c10 => ?_)
  ·
    refine To.seq ?_
    refine To.reg ?_
    refine To.rd rfl rfl rfl (Rd.assign rfl rfl) ?_
    refine To.nil ?_
    refine To.thenN ?_
    refine To.ret ?_
    refine To.thenR ?_
    refine To.end1 (.inl rfl) Tryd.results21 rfl ?_
    exact congrArg Value.bool (decide_eq_false (fun e => c10 (by rw [e]))).symm
  ·
    refine To.skip ?_
    refine To.thenN ?_
    refine To.seq ?_
    refine To.seq ?_
    refine To.reg ?_
    refine To.rd rfl rfl rfl (Rd.move rfl rfl) ?_
    refine To.rd rfl rfl rfl (Rd.len rfl rfl Tryd.underlying28) ?_
    refine To.rd rfl rfl rfl (Rd.move rfl rfl) ?_
    refine To.nil ?_
    refine To.thenN ?_
    refine To.block ?_
    refine To.sub [(0, .slice A l.length ca), (1, .slice B m.length cb), (11, .slice A l.length ca), (12, .int .i64 ((l.length : Nat) : Int)), (13, .int .i64 ((0 : Nat) : Int))] ⟨rfl, rfl, rfl, rfl, rfl, trivial⟩ ?_
    refine To.only [0, 0] rfl ?_
    refine To.loop (fun mz ρ Γ => ∃ (i : Nat), ρ = [(0, .slice A l.length ca), (1, .slice B m.length cb), (11, .slice A l.length ca), (12, .int .i64 ((l.length : Nat) : Int)), (13, .int .i64 ((i : Nat) : Int))] ∧ Γ = [ros encI A l, ros encI B m] ∧ mz = l.length - i ∧ (i ≤ l.length) ∧ (l.take i = m.take i)) (l.length - 0) ⟨0, rfl, rfl, rfl, (Nat.zero_le _), rfl⟩ ?_
    rintro mz _ _ ⟨i, rfl, rfl, rfl, hi, hI⟩
    refine To.seq ?_
    refine To.reg ?_
    refine To.rd rfl rfl rfl (Rd.lss rfl rfl rfl) ?_
    refine To.nil ?_
    refine To.thenN ?_
    refine To.seq ?_
    refine To.condP rfl (fun c14 => ?_) (fun c14 => ?_)
    ·
      obtain ⟨x, hx⟩ : ∃ z0, l[i]? = some z0 := ⟨l[i]'(by omega), List.getElem?_eq_getElem _⟩
      obtain ⟨y, hy⟩ : ∃ z0, m[i]? = some z0 := ⟨m[i]'(by omega), List.getElem?_eq_getElem _⟩
      refine To.skip ?_
      refine To.thenN ?_
      refine To.seq ?_
      refine To.block ?_
      refine To.seq ?_
      refine To.reg ?_
      refine To.rd rfl rfl rfl (Rd.move rfl rfl) ?_
      refine To.rd rfl rfl rfl (Rd.assign rfl rfl) ?_
      refine To.nil ?_
      refine To.thenN ?_
      refine To.seq ?_
      refine To.flow [ros encI A l, ros encI B m] [⟨0, [], 0⟩, ⟨1, [], 0⟩, ⟨4, [], 0⟩, ⟨5, [], 0⟩, ⟨2, [], 1⟩, ⟨3, [], 1⟩, ⟨6, [], 1⟩, ⟨7, [], 1⟩, ⟨8, [], 0⟩] mixed (by kernel_rfl) (oks_cons (oks_at 0 rfl) (oks_cons (oks_at 1 rfl) (oks_nil _))) ?_
      refine FlowS.free rfl rfl rfl rfl (Rd.move rfl rfl) ?_
      refine FlowS.free rfl rfl rfl rfl (Rd.move rfl rfl) ?_
      refine FlowS.free rfl rfl rfl rfl (Rd.move rfl rfl) ?_
      refine FlowS.free rfl rfl rfl rfl (Rd.move rfl rfl) ?_
      refine FlowS.rd rfl rfl rfl rfl (Rd.indexRos encI_ok (i := 0) (j := i) rfl rfl rfl s28 rfl hx) ?_
      refine FlowS.rd rfl rfl rfl rfl (Rd.load (i := 0) rfl rfl c2 rfl (gives_1 (ros_gives encI_ok hx) rfl)) ?_
      refine FlowS.rd rfl rfl rfl rfl (Rd.indexRos encI_ok (i := 1) (j := i) rfl rfl rfl s28 rfl hy) ?_
      refine FlowS.rd rfl rfl rfl rfl (Rd.load (i := 1) rfl rfl c2 rfl (gives_1 (ros_gives encI_ok hy) rfl)) ?_
      refine FlowS.free rfl rfl rfl rfl (Rd.neq rfl rfl rfl) ?_
      refine FlowS.fin ?_
      refine To.as [ros encI A l, ros encI B m] rfl ?_
      refine To.thenN ?_
      refine To.condP rfl (fun c24 => ?_) (fun c24 => ?_)
      ·
        refine To.seq ?_
        refine To.reg ?_
        refine To.rd rfl rfl rfl (Rd.assign rfl rfl) ?_
        refine To.nil ?_
        refine To.thenN ?_
        refine To.ret ?_
        refine To.blockR ?_
        refine To.thenR ?_
        refine To.thenR ?_
        refine To.blockR ?_
        refine To.thenR ?_
        refine To.end1 (.inl rfl) Tryd.results21 rfl ?_
        exact congrArg Value.bool (decide_eq_false (eq_ne hx hy c24)).symm
      ·
        refine To.skip ?_
        refine To.blockN ?_
        refine To.thenN ?_
        refine To.reg ?_
        refine To.rd rfl rfl rfl (Rd.inc rfl rfl rfl (by omega)) ?_
        refine To.rd rfl rfl rfl (Rd.move rfl rfl) ?_
        refine To.nil ?_
        refine To.thenN ?_
        refine To.sub [(0, .slice A l.length ca), (1, .slice B m.length cb), (11, .slice A l.length ca), (12, .int .i64 ((l.length : Nat) : Int)), (13, .int .i64 (((i + 1) : Nat) : Int))] ⟨rfl, rfl, rfl, rfl, rfl, trivial⟩ ?_
        refine To.only [0, 0] rfl ?_
        refine To.again (l.length - (i + 1)) (by omega) ⟨i + 1, rfl, rfl, rfl, (by omega), (by rw [take_of_get hx, take_of_get hy, hI, show x = y from Decidable.of_not_not c24])⟩
    ·
      refine To.exit ?_
      refine To.thenX ?_
      refine To.thenX ?_
      refine To.blockX ?_
      refine To.thenN ?_
      refine To.seq ?_
      refine To.reg ?_
      refine To.rd rfl rfl rfl (Rd.assign rfl rfl) ?_
      refine To.nil ?_
      refine To.thenN ?_
      refine To.ret ?_
      refine To.end1 (.inl rfl) Tryd.results21 rfl ?_
      exact congrArg Value.bool (decide_eq_true (eq_len (by omega) (by omega) hI)).symm
set_option maxHeartbeats 2000000 in
set_option maxRecDepth 100000 in
theorem eqEn_fn (A B : Option Addr) (ca cb : Nat) (l m : List (Int × Int)) (hl : l.length ≤ 1000000000000) :
    Does Tryd.prog 33 [.slice A l.length ca, .slice B m.length cb] [ros encEn A l, ros encEn B m] (fun v _ => v = .bool (decide (l = m))) := by
  refine Does.enter Tryd.func33 rfl Tryd.ntmps33 rfl (fun w0 => ?_)
  refine To.seq ?_
  refine To.reg ?_
  refine To.rd rfl rfl rfl (Rd.assign rfl rfl) ?_
  refine To.nil ?_
  refine To.thenN ?_
  refine To.seq ?_
  refine To.seq ?_
  refine To.reg ?_
  refine To.rd rfl rfl rfl (Rd.move rfl rfl) ?_
  refine To.rd rfl rfl rfl (Rd.len rfl rfl Tryd.underlying30) ?_
  refine To.rd rfl rfl rfl (Rd.move rfl rfl) ?_
  refine To.rd rfl rfl rfl (Rd.len rfl rfl Tryd.underlying30) ?_
  refine To.rd rfl rfl rfl (Rd.neq rfl rfl rfl) ?_
  refine To.nil ?_
  refine To.thenN ?_
  refine To.condP rfl (fun c10 => ?_) (fun c10 => ?_)
  ·
    refine To.seq ?_
    refine To.reg ?_
    refine To.rd rfl rfl rfl (Rd.assign rfl rfl) ?_
    refine To.nil ?_
    refine To.thenN ?_
    refine To.ret ?_
    refine To.thenR ?_
    refine To.end1 (.inl rfl) Tryd.results33 rfl ?_
    exact congrArg Value.bool (decide_eq_false (fun e => c10 (by rw [e]))).symm
  ·
    refine To.skip ?_
    refine To.thenN ?_
    refine To.seq ?_
    refine To.seq ?_
    refine To.reg ?_
    refine To.rd rfl rfl rfl (Rd.move rfl rfl) ?_
    refine To.rd rfl rfl rfl (Rd.len rfl rfl Tryd.underlying30) ?_
    refine To.rd rfl rfl rfl (Rd.move rfl rfl) ?_
    refine To.nil ?_
    refine To.thenN ?_
    refine To.block ?_
    refine To.sub [(0, .slice A l.length ca), (1, .slice B m.length cb), (11, .slice A l.length ca), (12, .int .i64 ((l.length : Nat) : Int)), (13, .int .i64 ((0 : Nat) : Int))] ⟨rfl, rfl, rfl, rfl, rfl, trivial⟩ ?_
    refine To.only [0, 0] rfl ?_
    refine To.loop (fun mz ρ Γ => ∃ (i : Nat), ρ = [(0, .slice A l.length ca), (1, .slice B m.length cb), (11, .slice A l.length ca), (12, .int .i64 ((l.length : Nat) : Int)), (13, .int .i64 ((i : Nat) : Int))] ∧ Γ = [ros encEn A l, ros encEn B m] ∧ mz = l.length - i ∧ (i ≤ l.length) ∧ (l.take i = m.take i)) (l.length - 0) ⟨0, rfl, rfl, rfl, (Nat.zero_le _), rfl⟩ ?_
    rintro mz _ _ ⟨i, rfl, rfl, rfl, hi, hI⟩
    refine To.seq ?_
    refine To.reg ?_
    refine To.rd rfl rfl rfl (Rd.lss rfl rfl rfl) ?_
    refine To.nil ?_
    refine To.thenN ?_
    refine To.seq ?_
    refine To.condP rfl (fun c14 => ?_) (fun c14 => ?_)
    ·
      obtain ⟨x, hx⟩ : ∃ z0, l[i]? = some z0 := ⟨l[i]'(by omega), List.getElem?_eq_getElem _⟩
      obtain ⟨y, hy⟩ : ∃ z0, m[i]? = some z0 := ⟨m[i]'(by omega), List.getElem?_eq_getElem _⟩
      refine To.skip ?_
      refine To.thenN ?_
      refine To.seq ?_
      refine To.block ?_
      refine To.seq ?_
      refine To.reg ?_
      refine To.rd rfl rfl rfl (Rd.move rfl rfl) ?_
      refine To.rd rfl rfl rfl (Rd.assign rfl rfl) ?_
      refine To.nil ?_
      refine To.thenN ?_
      refine To.seq ?_
      refine To.flow [ros encEn A l, ros encEn B m] [⟨0, [], 0⟩, ⟨1, [], 0⟩, ⟨4, [], 0⟩, ⟨5, [], 0⟩, ⟨2, [], 1⟩, ⟨3, [], 1⟩, ⟨6, [], 1⟩, ⟨7, [], 1⟩, ⟨8, [], 0⟩] mixed (by kernel_rfl) (oks_cons (oks_at 0 rfl) (oks_cons (oks_at 1 rfl) (oks_nil _))) ?_
      refine FlowS.free rfl rfl rfl rfl (Rd.move rfl rfl) ?_
      refine FlowS.free rfl rfl rfl rfl (Rd.move rfl rfl) ?_
      refine FlowS.free rfl rfl rfl rfl (Rd.move rfl rfl) ?_
      refine FlowS.free rfl rfl rfl rfl (Rd.move rfl rfl) ?_
      refine FlowS.rd rfl rfl rfl rfl (Rd.indexRos encEn_ok (i := 0) (j := i) rfl rfl rfl s30 rfl hx) ?_
      refine FlowS.rd rfl rfl rfl rfl (Rd.loadS (i := 0) rfl rfl r89 rfl (ros_gives encEn_ok hx) (encEn_ok.len _)) ?_
      refine FlowS.rd rfl rfl rfl rfl (Rd.indexRos encEn_ok (i := 1) (j := i) rfl rfl rfl s30 rfl hy) ?_
      refine FlowS.rd rfl rfl rfl rfl (Rd.loadS (i := 1) rfl rfl r89 rfl (ros_gives encEn_ok hy) (encEn_ok.len _)) ?_
      refine FlowS.free rfl rfl rfl rfl (Rd.as (v' := .bool (decide (x ≠ y))) (congrArg Value.bool (decide_eq_decide.2 (not_congr pair_iff))) (Rd.neqF (ks := [.i64, .i64]) (xs := [x.1, x.2]) (ys := [y.1, y.2]) flatEn rfl rfl rfl rfl rfl)) ?_
      refine FlowS.fin ?_
      refine To.as [ros encEn A l, ros encEn B m] rfl ?_
      refine To.thenN ?_
      refine To.condP rfl (fun c24 => ?_) (fun c24 => ?_)
      ·
        refine To.seq ?_
        refine To.reg ?_
        refine To.rd rfl rfl rfl (Rd.assign rfl rfl) ?_
        refine To.nil ?_
        refine To.thenN ?_
        refine To.ret ?_
        refine To.blockR ?_
        refine To.thenR ?_
        refine To.thenR ?_
        refine To.blockR ?_
        refine To.thenR ?_
        refine To.end1 (.inl rfl) Tryd.results33 rfl ?_
        exact congrArg Value.bool (decide_eq_false (eq_ne hx hy c24)).symm
      ·
        refine To.skip ?_
        refine To.blockN ?_
        refine To.thenN ?_
        refine To.reg ?_
        refine To.rd rfl rfl rfl (Rd.inc rfl rfl rfl (by omega)) ?_
        refine To.rd rfl rfl rfl (Rd.move rfl rfl) ?_
        refine To.nil ?_
        refine To.thenN ?_
        refine To.sub [(0, .slice A l.length ca), (1, .slice B m.length cb), (11, .slice A l.length ca), (12, .int .i64 ((l.length : Nat) : Int)), (13, .int .i64 (((i + 1) : Nat) : Int))] ⟨rfl, rfl, rfl, rfl, rfl, trivial⟩ ?_
        refine To.only [0, 0] rfl ?_
        refine To.again (l.length - (i + 1)) (by omega) ⟨i + 1, rfl, rfl, rfl, (by omega), (by rw [take_of_get hx, take_of_get hy, hI, show x = y from Decidable.of_not_not c24])⟩
    ·
      refine To.exit ?_
      refine To.thenX ?_
      refine To.thenX ?_
      refine To.blockX ?_
      refine To.thenN ?_
      refine To.seq ?_
      refine To.reg ?_
      refine To.rd rfl rfl rfl (Rd.assign rfl rfl) ?_
      refine To.nil ?_
      refine To.thenN ?_
      refine To.ret ?_
      refine To.end1 (.inl rfl) Tryd.results33 rfl ?_
      exact congrArg Value.bool (decide_eq_true (eq_len (by omega) (by omega) hI)).symm
end Go.Proofs.YtoehnbacbobhiaaDoor
