/- Counting the orders: the numbers that both programs make. Own text. -/
import Derived.Test.YtneimfacccgaeaaV12
import Derived.Test.YtneimfacccgaeaaL4
namespace Go.Proofs.Ytneimfacccgaeaa
open Go.RowKit Go.Flow Go.Mem Go.Sep

def encM (n : Nat) : List Value := [.int .i64 n]
theorem encM_ok : Enc encM 1 := ⟨fun _ => rfl, fun x u hu => by simp [encM] at hu; subst hu; rfl⟩
def encN (n : Nat) : List Value := [.int .u64 n]
theorem encN_ok : Enc encN 1 := ⟨fun _ => rfl, fun x u hu => by simp [encN] at hu; subst hu; rfl⟩
theorem rl_cases (x : Ev) : x.rl = 0 ∨ x.rl = 1 ∨ x.rl = 2 := by
  unfold Ev.rl; split
  · exact .inr (.inl rfl)
  · split
    · exact .inr (.inr rfl)
    · exact .inl rfl
theorem dep_iff (x y : Ev) : x.dep y = true ↔ x.c = y.c ∨ (y.rl = 1 ∧ x.rl = 2 ∧ x.key = y.key) ∨ (x.rl = 1 ∧ y.rl = 2 ∧ y.key = x.key) := by
  unfold Ev.dep
  simp only [Bool.or_eq_true, decide_eq_true_eq, arr_iff, or_assoc]
theorem ind_dep (x y : Ev) : x.ind y = !x.dep y := by
  have h : x.ind y = true ↔ ¬ x.dep y = true := by
    rw [dep_iff]
    unfold Ev.ind
    simp only [decide_eq_true_eq]
    by_cases hc : x.c = y.c
    · simp [hc]
    · by_cases hk : x.key = y.key
      · rcases rl_cases x with h1 | h1 | h1 <;> rcases rl_cases y with h2 | h2 | h2 <;> simp [hc, hk, h1, h2]
      · have hk2 : ¬ y.key = x.key := fun e => hk e.symm
        simp [hc, hk, hk2]
  cases h1 : x.ind y <;> cases h2 : x.dep y <;> simp_all
theorem dep_comm (x y : Ev) : x.dep y = y.dep x := by
  have h : x.dep y = true ↔ y.dep x = true := by
    rw [dep_iff, dep_iff]
    constructor
    · rintro (h | h | h)
      · exact .inl h.symm
      · exact .inr (.inr h)
      · exact .inr (.inl h)
    · rintro (h | h | h)
      · exact .inl h.symm
      · exact .inr (.inr h)
      · exact .inr (.inl h)
  cases h1 : x.dep y <;> cases h2 : y.dep x <;> simp_all
def depAt (l : List Ev) (i j : Nat) : Bool := match l[i]?, l[j]? with
  | some x, some y => x.dep y
  | _, _ => false
theorem depAt_of {l : List Ev} {i j : Nat} {x y : Ev} (hx : l[i]? = some x) (hy : l[j]? = some y) : depAt l i j = x.dep y := by simp [depAt, hx, hy]
/-- The set of the first i places that j depends on. -/
def befI (l : List Ev) (j : Nat) : Nat → Nat
  | 0 => 0
  | i + 1 => if depAt l i j then befI l j i ||| 2 ^ i else befI l j i
theorem befI_bit (l : List Ev) (j : Nat) : ∀ i k, (befI l j i).testBit k = (decide (k < i) && depAt l k j)
  | 0, k => by simp [befI]
  | i + 1, k => by
    unfold befI
    by_cases h : depAt l i j = true
    · rw [if_pos h, Nat.testBit_or, befI_bit l j i k, Nat.testBit_two_pow]
      by_cases e : i = k
      · subst e; simp [h]
      · have : decide (k < i + 1) = decide (k < i) := by simp; omega
        simp [e, this]
    · rw [if_neg h, befI_bit l j i k]
      by_cases e : i = k
      · subst e; simp at h; simp [h]
      · have : decide (k < i + 1) = decide (k < i) := by simp; omega
        rw [this]
theorem befI_lt (l : List Ev) (j : Nat) : ∀ i, befI l j i < 2 ^ i
  | 0 => by simp [befI]
  | i + 1 => by
    have h := befI_lt l j i
    have h1 : (2 : Nat) ^ i < 2 ^ (i + 1) := Nat.pow_lt_pow_right (by decide) (by omega)
    unfold befI
    split
    · exact Nat.or_lt_two_pow (by omega) h1
    · omega
theorem pow16 {i : Nat} (h : i ≤ 16) : (2 : Nat) ^ i ≤ 65536 := Nat.pow_le_pow_right (n := 2) (by decide) h
theorem and_pow_zero (s j : Nat) : s &&& 2 ^ j = 0 ↔ s.testBit j = false := by
  constructor
  · intro h
    have h1 : (s &&& 2 ^ j).testBit j = false := by rw [h]; simp
    simpa [Nat.testBit_and, Nat.testBit_two_pow] using h1
  · intro h
    apply Nat.eq_of_testBit_eq
    intro k
    rw [Nat.testBit_and, Nat.testBit_two_pow]
    by_cases e : j = k
    · subst e; simp [h]
    · simp [e]
theorem or_pow {s j : Nat} (h : s.testBit j = false) : s ||| 2 ^ j = s + 2 ^ j := by
  have h0 : s / 2 ^ j % 2 = 0 := by
    have := Nat.testBit_eq_decide_div_mod_eq (x := s) (i := j)
    rw [h] at this
    have h2 := of_decide_eq_false this.symm
    omega
  have hr : s % 2 ^ j < 2 ^ j := Nat.mod_lt _ (Nat.two_pow_pos j)
  obtain ⟨q, hq⟩ : ∃ q, s / 2 ^ j = 2 * q := ⟨s / 2 ^ j / 2, by omega⟩
  have hs : s = 2 ^ (j + 1) * q + s % 2 ^ j := by
    have := Nat.div_add_mod s (2 ^ j)
    rw [hq] at this
    rw [Nat.pow_succ, Nat.mul_assoc]; exact this.symm
  have hlt : s % 2 ^ j < 2 ^ (j + 1) := Nat.lt_of_lt_of_le hr (Nat.pow_le_pow_right (by decide) (by omega))
  have hlt2 : 2 ^ j * 1 + s % 2 ^ j < 2 ^ (j + 1) := by rw [Nat.pow_succ]; omega
  have e1 := Nat.two_pow_add_eq_or_of_lt hlt q
  have e2 := Nat.two_pow_add_eq_or_of_lt hlt2 q
  have e3 := Nat.two_pow_add_eq_or_of_lt hr 1
  generalize s % 2 ^ j = r at *
  rw [hs, e1, Nat.or_assoc, Nat.or_comm r, ← Nat.mul_one (2 ^ j), ← e3, ← e2, ← e1]
  omega
/-- j may stand next, behind the set s. -/
def okj (l : List Ev) (s j : Nat) : Bool := !s.testBit j && (List.range j).all fun i => s.testBit i || !depAt l i j
theorem bef_zero {l : List Ev} {s j : Nat} (hs : s < 9223372036854775808) (hj : j ≤ 63) : befI l j j &&& (18446744073709551615 - s) = 0 ↔ ((List.range j).all fun i => s.testBit i || !depAt l i j) = true := by
  have hb : ∀ k, (befI l j j &&& (18446744073709551615 - s)).testBit k = (decide (k < j) && depAt l k j && (decide (k < 64) && !s.testBit k)) := fun k => by
    rw [Nat.testBit_and, befI_bit]
    have := Nat.testBit_two_pow_sub_succ (x := s) (n := 64) (by omega) k
    rw [show 18446744073709551615 - s = 2 ^ 64 - (s + 1) by omega, this]
  rw [List.all_eq_true]
  constructor
  · intro h i hi
    have hi := List.mem_range.1 hi
    have h1 := hb i
    rw [h] at h1
    have h2 : i < 64 := by omega
    cases h3 : s.testBit i <;> cases h4 : depAt l i j <;> simp_all
  · intro h
    apply Nat.eq_of_testBit_eq
    intro k
    rw [hb k, Nat.zero_testBit]
    by_cases hk : k < j
    · have := h k (List.mem_range.2 hk)
      cases h3 : s.testBit k <;> cases h4 : depAt l k j <;> simp_all
    · simp [hk]
def stepJ (l : List Ev) (s c : Nat) (W : List Nat) (j : Nat) : List Nat := if 0 < c ∧ okj l s j = true then W.set (s + 2 ^ j) (((W[s + 2 ^ j]?).getD 0 + c) % 18446744073709551616) else W
def stepS (l : List Ev) (W : List Nat) (s : Nat) : List Nat := (List.range l.length).foldl (stepJ l s ((W[s]?).getD 0)) W
def dpS (l : List Ev) (s : Nat) : List Nat := (List.range s).foldl (stepS l) ((List.replicate (2 ^ l.length) 0).set 0 1)
def dpJ (l : List Ev) (s j : Nat) : List Nat := (List.range j).foldl (stepJ l s (((dpS l s)[s]?).getD 0)) (dpS l s)
def cntV (l : List Ev) : Nat := ((dpS l (2 ^ l.length))[2 ^ l.length - 1]?).getD 0
theorem dpS_succ (l : List Ev) (s : Nat) : dpJ l s l.length = dpS l (s + 1) := by
  unfold dpJ; conv => rhs; unfold dpS
  rw [List.range_succ, List.foldl_append]; rfl
theorem dpJ_succ (l : List Ev) (s j : Nat) : dpJ l s (j + 1) = stepJ l s (((dpS l s)[s]?).getD 0) (dpJ l s j) j := by
  unfold dpJ; rw [List.range_succ, List.foldl_append]; rfl
theorem len_stepJ (l : List Ev) (s c : Nat) (W : List Nat) (j : Nat) : (stepJ l s c W j).length = W.length := by unfold stepJ; split <;> simp
theorem len_foldJ (l : List Ev) (s c : Nat) : ∀ (r : List Nat) (W : List Nat), (r.foldl (stepJ l s c) W).length = W.length
  | [], _ => rfl
  | j :: r, W => by rw [List.foldl_cons, len_foldJ l s c r, len_stepJ]
theorem len_foldS (l : List Ev) : ∀ (r : List Nat) (W : List Nat), (r.foldl (stepS l) W).length = W.length
  | [], _ => rfl
  | j :: r, W => by rw [List.foldl_cons, len_foldS l r]; exact len_foldJ ..
theorem lenS (l : List Ev) (s : Nat) : (dpS l s).length = 2 ^ l.length := by unfold dpS; rw [len_foldS]; simp
theorem lenJ (l : List Ev) (s j : Nat) : (dpJ l s j).length = 2 ^ l.length := by unfold dpJ; rw [len_foldJ, lenS]
theorem ok_lt {l : List Ev} {s j : Nat} (hs : s < 2 ^ l.length) (hj : j < l.length) (h : s.testBit j = false) : s + 2 ^ j < 2 ^ l.length := by
  rw [← or_pow h]
  exact Nat.or_lt_two_pow hs (Nat.pow_lt_pow_right (by decide) hj)
theorem okj_iff {l : List Ev} {s j : Nat} (hs : s < 9223372036854775808) (hj : j ≤ 63) : okj l s j = true ↔ s &&& 2 ^ j = 0 ∧ befI l j j &&& (18446744073709551615 - s) = 0 := by
  unfold okj
  rw [Bool.and_eq_true, and_pow_zero, bef_zero hs hj]
  simp
theorem dpJ_yes {l : List Ev} {s j c z : Nat} (hc : (dpS l s)[s]? = some c) (h0 : 0 < c) (hok : okj l s j = true) (hz : (dpJ l s j)[s + 2 ^ j]? = some z) : dpJ l s (j + 1) = (dpJ l s j).set (s + 2 ^ j) ((z + c) % 18446744073709551616) := by
  rw [dpJ_succ, hc]
  unfold stepJ
  rw [if_pos ⟨h0, hok⟩, hz]; rfl
theorem dpJ_no {l : List Ev} {s j c : Nat} (hc : (dpS l s)[s]? = some c) (h : ¬ (0 < c ∧ okj l s j = true)) : dpJ l s (j + 1) = dpJ l s j := by
  rw [dpJ_succ, hc]
  unfold stepJ
  exact if_neg h
theorem dpS_skip {l : List Ev} {s : Nat} (hc : (dpS l s)[s]? = some 0) : dpS l (s + 1) = dpS l s := by
  rw [← dpS_succ]
  have : ∀ j, dpJ l s j = dpS l s := by
    intro j
    induction j with
    | zero => rfl
    | succ j ih => rw [dpJ_no hc (by simp), ih]
  exact this _
theorem bef_lt {l : List Ev} {j i : Nat} (h : i ≤ 16) : befI l j i < 65536 := Nat.lt_of_lt_of_le (befI_lt l j i) (pow16 h)
end Go.Proofs.Ytneimfacccgaeaa
