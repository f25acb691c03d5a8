/- What is read: plain. Own text. -/
import Derived.Test.YtfkmjkooemjekaaGreatDoorD3
set_option linter.unusedVariables false
set_option linter.unusedSimpArgs false
namespace Go.Proofs.YtfkmjkooemjekaaGreatDoor
open Go.RowKit Go.Flow Go.Mem Go.Sep
abbrev LO : Int := -2147483648
abbrev HI : Int := 2147483647
def natV (s : List Nat) : Option (Nat × List Nat) := (uintV s).map fun x => (x.1, s.drop x.2)
def intV (s : List Nat) : Option (Int × List Nat) := (uintV s).map fun x => (zzV x.1, s.drop x.2)
def smallV (s : List Nat) : Option (Int × List Nat) := (uintV s).bind fun x => if zzV x.1 < LO ∨ HI < zzV x.1 then none else some (zzV x.1, s.drop x.2)
def instrV : List Nat → Option (Ins × List Nat)
  | [] => none
  | o :: r => if o < 1 ∨ 34 < o then none else (smallV r).bind fun x => (smallV x.2).bind fun y => (intV y.2).map fun z => (⟨o, x.1, y.1, z.1⟩, z.2)
def instrsV : Nat → List Nat → Option (List Ins × List Nat)
  | 0, s => some ([], s)
  | n + 1, s => (instrV s).bind fun x => (instrsV n x.2).map fun y => (x.1 :: y.1, y.2)
def headV (p : List Nat) : Option (Nat × Nat × Nat × List Nat) := (natV p).bind fun x => (natV x.2).bind fun y => (natV y.2).map fun z => (x.1, y.1, z.1, z.2)
def readV (p : List Nat) : (Nat × Nat × List Ins) × Nat × Int := match headV p with
  | none => ((0, 0, []), 0, 6)
  | some (a, b, n, s) => if 255 < a ∨ 255 < b ∨ 4000 < n then ((0, 0, []), 0, 3) else match instrsV n s with
    | none => ((0, 0, []), 0, 6)
    | some (l, r) => ((a, b, l), p.length - r.length, 0)
theorem rdU_ok (s : List Nat) : rdU s 0 = match natV s with | none => (0, s, 6) | some (v, r) => (v, r, 0) := by
  unfold rdU natV
  rw [if_neg (by decide)]
  cases h : uintV s with
  | none => rfl
  | some x => rfl
theorem rdI_ok (s : List Nat) : rdI s 0 = match intV s with | none => (0, s, 6) | some (v, r) => (v, r, 0) := by
  unfold rdI intV
  rw [if_neg (by decide)]
  cases h : uintV s with
  | none => rfl
  | some x => rfl
theorem rdS_ok (s : List Nat) : (∀ v r, smallV s = some (v, r) → rdS s 0 LO HI = (v, r, 0)) ∧ (smallV s = none → (rdS s 0 LO HI).2.2 ≠ 0) := by
  unfold rdS smallV
  rw [if_neg (by decide)]
  cases h : uintV s with
  | none => exact ⟨fun v r e => by (cases e), fun _ => show (6 : Int) ≠ 0 by decide⟩
  | some x =>
    have e0 : uE (some x) = 0 := rfl
    rw [if_neg (by rw [e0]; decide)]
    show (∀ v r, (if zzV x.1 < LO ∨ HI < zzV x.1 then none else some (zzV x.1, s.drop x.2)) = some (v, r) → (if zzV x.1 < LO ∨ HI < zzV x.1 then ((0 : Int), s, (2 : Int)) else (zzV x.1, s.drop x.2, 0)) = (v, r, 0)) ∧ ((if zzV x.1 < LO ∨ HI < zzV x.1 then none else some (zzV x.1, s.drop x.2)) = none → (if zzV x.1 < LO ∨ HI < zzV x.1 then ((0 : Int), s, (2 : Int)) else (zzV x.1, s.drop x.2, 0)).2.2 ≠ 0)
    by_cases hc : zzV x.1 < LO ∨ HI < zzV x.1
    · rw [if_pos hc, if_pos hc]; exact ⟨fun v r e => by (cases e), fun _ => show (2 : Int) ≠ 0 by decide⟩
    · rw [if_neg hc, if_neg hc]; exact ⟨fun v r e => by simp only [Option.some.injEq, Prod.mk.injEq] at e; rw [e.1, e.2], fun e => by (cases e)⟩
theorem rdI_err {s : List Nat} {e : Int} (h : e ≠ 0) : rdI s e = (0, s, e) := by unfold rdI; rw [if_pos h]
theorem rdU_err {s : List Nat} {e : Int} (h : e ≠ 0) : rdU s e = (0, s, e) := by unfold rdU; rw [if_pos h]
theorem rdS_err {s : List Nat} {e lo hi : Int} (h : e ≠ 0) : rdS s e lo hi = (0, s, e) := by unfold rdS; rw [if_pos h]
def cB (s : List Nat) := rdB s 0
def cA (s : List Nat) := rdS (cB s).2.1 (cB s).2.2 LO HI
def cA2 (s : List Nat) := rdS (cA s).2.1 (cA s).2.2 LO HI
def cN (s : List Nat) := rdI (cA2 s).2.1 (cA2 s).2.2
theorem instr_eq (s : List Nat) : instrV s = if (cN s).2.2 = 0 ∧ 1 ≤ (cB s).1 ∧ (cB s).1 ≤ 34 then some (⟨(cB s).1, (cA s).1, (cA2 s).1, (cN s).1⟩, (cN s).2.1) else none := by
  cases s with
  | nil => rw [if_neg (by rintro ⟨_, h, _⟩; exact absurd h (by decide))]; rfl
  | cons o r =>
    have eb : cB (o :: r) = (o, r, 0) := by unfold cB rdB; rw [if_neg (by decide), if_neg (by simp)]; rfl
    show (if o < 1 ∨ 34 < o then none else (smallV r).bind fun x => (smallV x.2).bind fun y => (intV y.2).map fun z => ((⟨o, x.1, y.1, z.1⟩ : Ins), z.2)) = _
    by_cases ho : o < 1 ∨ 34 < o
    · rw [if_pos ho, if_neg (by rw [eb]; rintro ⟨_, h1, h2⟩; simp only at h1 h2; omega)]
    · rw [if_neg ho]
      have ea : cA (o :: r) = rdS r 0 LO HI := by unfold cA; rw [eb]
      have h1 := rdS_ok r
      cases hs : smallV r with
      | none =>
        have hn := h1.2 hs
        have ea2 : (cA2 (o :: r)).2.2 ≠ 0 := by unfold cA2; rw [ea, rdS_err hn]; exact hn
        have en : (cN (o :: r)).2.2 ≠ 0 := by unfold cN; rw [rdI_err ea2]; exact ea2
        rw [if_neg (fun h => en h.1)]; rfl
      | some x =>
        obtain ⟨a, s2⟩ := x
        have e1 := h1.1 a s2 hs
        have ea2 : cA2 (o :: r) = rdS s2 0 LO HI := by unfold cA2; rw [ea, e1]
        have h2 := rdS_ok s2
        show (smallV s2).bind _ = _
        cases hs2 : smallV s2 with
        | none =>
          have hn := h2.2 hs2
          have en : (cN (o :: r)).2.2 ≠ 0 := by unfold cN; rw [ea2, rdI_err hn]; exact hn
          rw [if_neg (fun h => en h.1)]; rfl
        | some y =>
          obtain ⟨b, s3⟩ := y
          have e2 := h2.1 b s3 hs2
          have en : cN (o :: r) = rdI s3 0 := by unfold cN; rw [ea2, e2]
          have h3 := rdI_ok s3
          show (intV s3).map _ = _
          cases hi : intV s3 with
          | none =>
            rw [hi] at h3
            rw [if_neg (by rw [en, h3]; rintro ⟨h, _⟩; exact absurd (show (6 : Int) = 0 from h) (by decide))]; rfl
          | some z =>
            obtain ⟨n, s4⟩ := z
            rw [hi] at h3
            rw [if_pos (by rw [en, h3, eb]; exact ⟨rfl, by show 1 ≤ o; omega, by show o ≤ 34; omega⟩), en, h3, eb, ea, e1, ea2, e2]
            rfl
def hd1 (p : List Nat) := rdU p 0
def hd2 (p : List Nat) := rdU (hd1 p).2.1 (hd1 p).2.2
def hd3 (p : List Nat) := rdU (hd2 p).2.1 (hd2 p).2.2
theorem head_eq (p : List Nat) : ((hd3 p).2.2 = 0 → headV p = some ((hd1 p).1, (hd2 p).1, (hd3 p).1, (hd3 p).2.1)) ∧ ((hd3 p).2.2 ≠ 0 → headV p = none ∧ (hd3 p).2.2 = 6) := by
  unfold headV
  have h1 := rdU_ok p
  cases hp : natV p with
  | none =>
    rw [hp] at h1
    have e2 : hd2 p = (0, p, 6) := by unfold hd2 hd1; rw [h1]; exact rdU_err (e := 6) (by decide)
    have e3 : hd3 p = (0, p, 6) := by unfold hd3; rw [e2]; exact rdU_err (show (6 : Int) ≠ 0 by decide)
    rw [e3]
    exact ⟨fun h => absurd (show (6 : Int) = 0 from h) (by decide), fun _ => ⟨rfl, rfl⟩⟩
  | some x =>
    obtain ⟨a, s1⟩ := x
    rw [hp] at h1
    have e1 : hd1 p = (a, s1, 0) := h1
    have h2 := rdU_ok s1
    show (_ → (natV s1).bind _ = _) ∧ (_ → (natV s1).bind _ = _ ∧ _)
    cases hp2 : natV s1 with
    | none =>
      rw [hp2] at h2
      have e2 : hd2 p = (0, s1, 6) := by unfold hd2; rw [e1]; exact h2
      have e3 : hd3 p = (0, s1, 6) := by unfold hd3; rw [e2]; exact rdU_err (show (6 : Int) ≠ 0 by decide)
      rw [e3]
      exact ⟨fun h => absurd (show (6 : Int) = 0 from h) (by decide), fun _ => ⟨rfl, rfl⟩⟩
    | some y =>
      obtain ⟨b, s2⟩ := y
      rw [hp2] at h2
      have e2 : hd2 p = (b, s2, 0) := by unfold hd2; rw [e1]; exact h2
      have h3 := rdU_ok s2
      show (_ → (natV s2).map _ = _) ∧ (_ → (natV s2).map _ = _ ∧ _)
      cases hp3 : natV s2 with
      | none =>
        rw [hp3] at h3
        have e3 : hd3 p = (0, s2, 6) := by unfold hd3; rw [e2]; exact h3
        rw [e3]
        exact ⟨fun h => absurd (show (6 : Int) = 0 from h) (by decide), fun _ => ⟨rfl, rfl⟩⟩
      | some z =>
        obtain ⟨n, s3⟩ := z
        rw [hp3] at h3
        have e3 : hd3 p = (n, s3, 0) := by unfold hd3; rw [e2]; exact h3
        rw [e3, e2, e1]
        exact ⟨fun _ => rfl, fun h => absurd rfl h⟩
theorem instrs_step {m : Nat} {s s' : List Nat} {x : Ins} (h : instrV s = some (x, s')) : instrsV (m + 1) s = (instrsV m s').map fun y => (x :: y.1, y.2) := by rw [instrsV, h]; rfl
theorem instrs_bad {m : Nat} {s : List Nat} (h : instrV s = none) : instrsV (m + 1) s = none := by rw [instrsV, h]; rfl
theorem acc_step {O : List Ins} {x : Ins} (z : Option (List Ins × List Nat)) : ((z.map fun y => (x :: y.1, y.2)).map fun y => (O ++ y.1, y.2)) = z.map fun y => ((O ++ [x]) ++ y.1, y.2) := by
  cases z with
  | none => rfl
  | some y => simp
end Go.Proofs.YtfkmjkooemjekaaGreatDoor
