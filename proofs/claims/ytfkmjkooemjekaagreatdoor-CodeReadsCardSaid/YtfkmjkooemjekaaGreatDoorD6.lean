/- What is read, place by place: plain. Own text. -/
import Derived.Test.YtfkmjkooemjekaaGreatDoorD5
set_option linter.unusedVariables false
set_option linter.unusedSimpArgs false
namespace Go.Proofs.YtfkmjkooemjekaaGreatDoor
open Go.RowKit Go.Flow Go.Mem Go.Sep
theorem uint_ok {s : List Nat} (h : uE (uintV s) = 0) : uintV s = some (uV (uintV s), uL (uintV s)) := by
  cases hu : uintV s with
  | none => rw [hu] at h; exact absurd (show (6 : Int) = 0 from h) (by decide)
  | some x => rfl
theorem uint_bad {s : List Nat} (h : uE (uintV s) ≠ 0) : uintV s = none := by
  cases hu : uintV s with
  | none => rfl
  | some x => rw [hu] at h; exact absurd (show (0 : Int) = 0 from rfl) h
theorem natV_at {p : List Nat} {a a' : Nat} (h : uE (uintV (p.drop a)) = 0) (ha : a' = a + uL (uintV (p.drop a))) : natV (p.drop a) = some (uV (uintV (p.drop a)), p.drop a') := by
  unfold natV; rw [uint_ok h]; show some (_, (p.drop a).drop _) = _; rw [List.drop_drop, ha]; rfl
theorem natV_no {s : List Nat} (h : uE (uintV s) ≠ 0) : natV s = none := by unfold natV; rw [uint_bad h]; rfl
theorem intV_at {p : List Nat} {a a' : Nat} (h : uE (uintV (p.drop a)) = 0) (ha : a' = a + uL (uintV (p.drop a))) : intV (p.drop a) = some (zzV (uV (uintV (p.drop a))), p.drop a') := by
  unfold intV; rw [uint_ok h]; show some (_, (p.drop a).drop _) = _; rw [List.drop_drop, ha]; rfl
theorem intV_no {s : List Nat} (h : uE (uintV s) ≠ 0) : intV s = none := by unfold intV; rw [uint_bad h]; rfl
theorem smallV_at {p : List Nat} {a a' : Nat} (h : uE (uintV (p.drop a)) = 0) (hr : ¬ (zzV (uV (uintV (p.drop a))) < LO ∨ HI < zzV (uV (uintV (p.drop a))))) (ha : a' = a + uL (uintV (p.drop a))) : smallV (p.drop a) = some (zzV (uV (uintV (p.drop a))), p.drop a') := by
  unfold smallV; rw [uint_ok h]; show (if _ then none else some (_, (p.drop a).drop _)) = _; rw [List.drop_drop, ha]; exact if_neg hr
theorem smallV_no {s : List Nat} (h : uE (uintV s) ≠ 0) : smallV s = none := by unfold smallV; rw [uint_bad h]; rfl
theorem smallV_far {s : List Nat} (h : uE (uintV s) = 0) (hr : zzV (uV (uintV s)) < LO ∨ HI < zzV (uV (uintV s))) : smallV s = none := by
  unfold smallV; rw [uint_ok h]; exact if_pos hr
theorem instrV_at {p : List Nat} {a o : Nat} (ho : p[a]? = some o) : instrV (p.drop a) = if o < 1 ∨ 34 < o then none else (smallV (p.drop (a + 1))).bind fun x => (smallV x.2).bind fun y => (intV y.2).map fun z => (⟨o, x.1, y.1, z.1⟩, z.2) := by
  rw [drop_of_get ho]; rfl
theorem instrV_end {p : List Nat} {a : Nat} (h : p.length ≤ a) : instrV (p.drop a) = none := by rw [List.drop_eq_nil_of_le h]; rfl
theorem instrV_op {p : List Nat} {a o : Nat} (ho : p[a]? = some o) (h : o < 1 ∨ 34 < o) : instrV (p.drop a) = none := by rw [instrV_at ho, if_pos h]
theorem instrV_1 {p : List Nat} {a o : Nat} (ho : p[a]? = some o) (h : ¬ (o < 1 ∨ 34 < o)) (h1 : smallV (p.drop (a + 1)) = none) : instrV (p.drop a) = none := by rw [instrV_at ho, if_neg h, h1]; rfl
theorem instrV_2 {p s2 : List Nat} {a o : Nat} {x : Int} (ho : p[a]? = some o) (h : ¬ (o < 1 ∨ 34 < o)) (h1 : smallV (p.drop (a + 1)) = some (x, s2)) (h2 : smallV s2 = none) : instrV (p.drop a) = none := by
  rw [instrV_at ho, if_neg h, h1]; show (smallV s2).bind _ = _; rw [h2]; rfl
theorem instrV_3 {p s2 s3 : List Nat} {a o : Nat} {x y : Int} (ho : p[a]? = some o) (h : ¬ (o < 1 ∨ 34 < o)) (h1 : smallV (p.drop (a + 1)) = some (x, s2)) (h2 : smallV s2 = some (y, s3)) (h3 : intV s3 = none) : instrV (p.drop a) = none := by
  rw [instrV_at ho, if_neg h, h1]; show (smallV s2).bind _ = _; rw [h2]; show (intV s3).map _ = _; rw [h3]; rfl
theorem instrV_4 {p s2 s3 s4 : List Nat} {a o : Nat} {x y z : Int} (ho : p[a]? = some o) (h : ¬ (o < 1 ∨ 34 < o)) (h1 : smallV (p.drop (a + 1)) = some (x, s2)) (h2 : smallV s2 = some (y, s3)) (h3 : intV s3 = some (z, s4)) : instrV (p.drop a) = some (⟨o, x, y, z⟩, s4) := by
  rw [instrV_at ho, if_neg h, h1]; show (smallV s2).bind _ = _; rw [h2]; show (intV s3).map _ = _; rw [h3]; rfl
theorem headV_1 {p : List Nat} (h : natV p = none) : headV p = none := by unfold headV; rw [h]; rfl
theorem headV_2 {p s : List Nat} {a : Nat} (h : natV p = some (a, s)) (h2 : natV s = none) : headV p = none := by unfold headV; rw [h]; show (natV s).bind _ = _; rw [h2]; rfl
theorem headV_3 {p s s2 : List Nat} {a b : Nat} (h : natV p = some (a, s)) (h2 : natV s = some (b, s2)) (h3 : natV s2 = none) : headV p = none := by
  unfold headV; rw [h]; show (natV s).bind _ = _; rw [h2]; show (natV s2).map _ = _; rw [h3]; rfl
theorem headV_4 {p s s2 s3 : List Nat} {a b c : Nat} (h : natV p = some (a, s)) (h2 : natV s = some (b, s2)) (h3 : natV s2 = some (c, s3)) : headV p = some (a, b, c, s3) := by
  unfold headV; rw [h]; show (natV s).bind _ = _; rw [h2]; show (natV s2).map _ = _; rw [h3]; rfl
theorem readV_head {p : List Nat} (h : headV p = none) : readV p = ((0, 0, []), 0, 6) := by rw [readV, h]
theorem readV_limit {p s : List Nat} {a b n : Nat} (h : headV p = some (a, b, n, s)) (hl : 255 < a ∨ 255 < b ∨ 4000 < n) : readV p = ((0, 0, []), 0, 3) := by rw [readV, h]; exact if_pos hl
theorem readV_bad {p s : List Nat} {a b n : Nat} (h : headV p = some (a, b, n, s)) (hl : ¬ (255 < a ∨ 255 < b ∨ 4000 < n)) (h2 : instrsV n s = none) : readV p = ((0, 0, []), 0, 6) := by
  rw [readV, h]; show (if _ then _ else _) = _; rw [if_neg hl, h2]
theorem readV_ok {p s r : List Nat} {a b n : Nat} {l : List Ins} (h : headV p = some (a, b, n, s)) (hl : ¬ (255 < a ∨ 255 < b ∨ 4000 < n)) (h2 : instrsV n s = some (l, r)) : readV p = ((a, b, l), p.length - r.length, 0) := by
  rw [readV, h]; show (if _ then _ else _) = _; rw [if_neg hl, h2]
end Go.Proofs.YtfkmjkooemjekaaGreatDoor
