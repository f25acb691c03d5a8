/- Counting backwards: what the numbers of the sets add up to. Own text. -/
import Derived.Test.YtneimfacccgaeaaV24
namespace Go.Proofs.Ytneimfacccgaeaa
open Go.RowKit Go.Flow Go.Mem Go.Sep

def sumR (f : Nat → Nat) : Nat → Nat
  | 0 => 0
  | n + 1 => sumR f n + f n
theorem sumR_succ (f : Nat → Nat) (n : Nat) : sumR f (n + 1) = sumR f n + f n := rfl
theorem sumR_congr {f g : Nat → Nat} : ∀ n, (∀ i, i < n → f i = g i) → sumR f n = sumR g n
  | 0, _ => rfl
  | n + 1, h => by unfold sumR; rw [sumR_congr n fun i hi => h i (by omega), h n (by omega)]
theorem sumR_zero {f : Nat → Nat} : ∀ n, (∀ i, i < n → f i = 0) → sumR f n = 0
  | 0, _ => rfl
  | n + 1, h => by unfold sumR; rw [sumR_zero n fun i hi => h i (by omega), h n (by omega)]
theorem sumR_one {f : Nat → Nat} {k : Nat} : ∀ n, k < n → (∀ i, i < n → i ≠ k → f i = 0) → sumR f n = f k
  | 0, h, _ => absurd h (by omega)
  | n + 1, h, h0 => by
    unfold sumR
    by_cases e : k = n
    · subst e; rw [sumR_zero k fun i hi => h0 i (by omega) (by omega)]; omega
    · rw [sumR_one n (by omega) fun i hi => h0 i (by omega), h0 n (by omega) (fun h => e h.symm)]; omega
theorem sumR_add (f : Nat → Nat) (a : Nat) : ∀ b, sumR f (a + b) = sumR f a + sumR (fun i => f (a + i)) b
  | 0 => by simp [sumR]
  | b + 1 => by rw [← Nat.add_assoc, sumR_succ, sumR_succ, sumR_add f a b]; omega
theorem sumR_mul (f : Nat → Nat) (c : Nat) : ∀ n, sumR (fun i => c * f i) n = c * sumR f n
  | 0 => by simp [sumR]
  | n + 1 => by unfold sumR; rw [sumR_mul f c n, Nat.mul_add]
/-- One term more. -/
theorem sumR_turn {f g : Nat → Nat} {k d M : Nat} (hne : ∀ i, i ≠ k → g i = f i) (hk : g k % M = (f k + d) % M) : ∀ n, k < n → sumR g n % M = (sumR f n + d) % M
  | 0, h => absurd h (by omega)
  | n + 1, h => by
    unfold sumR
    by_cases e : k = n
    · subst e
      rw [sumR_congr k fun i hi => hne i (by omega), Nat.add_mod, hk, ← Nat.add_mod, Nat.add_assoc]
    · rw [hne n (fun h => e h.symm), Nat.add_mod, sumR_turn hne hk n (by omega), ← Nat.add_mod]
      congr 1; omega
/-- In how many ways a set of places can be completed. -/
def Bf (l : List Ev) : Nat → Nat → Nat
  | 0, _ => 0
  | f + 1, s => if s = 2 ^ l.length - 1 then 1 else sumR (fun j => if okj l s j then Bf l f (s + 2 ^ j) else 0) l.length
theorem okj_bit {l : List Ev} {s j : Nat} (h : okj l s j = true) : s.testBit j = false := by
  unfold okj at h
  rw [Bool.and_eq_true] at h
  simpa using h.1
theorem Bf_fuel (l : List Ev) : ∀ (f g s : Nat), s < 2 ^ l.length → 2 ^ l.length - s ≤ f → 2 ^ l.length - s ≤ g → Bf l f s = Bf l g s
  | 0, g, s, h, hf, _ => by omega
  | f + 1, 0, s, h, _, hg => by omega
  | f + 1, g + 1, s, h, hf, hg => by
    unfold Bf
    split
    · rfl
    · refine sumR_congr _ fun j hj => ?_
      by_cases ho : okj l s j = true
      · rw [if_pos ho, if_pos ho]
        have h1 := ok_lt h hj (okj_bit ho)
        have h2 := Nat.two_pow_pos j
        exact Bf_fuel l f g _ h1 (by omega) (by omega)
      · rw [if_neg ho, if_neg ho]
def B (l : List Ev) (s : Nat) : Nat := Bf l (2 ^ l.length - s) s
theorem B_full (l : List Ev) : B l (2 ^ l.length - 1) = 1 := by
  have := Nat.two_pow_pos l.length
  unfold B
  rw [show 2 ^ l.length - (2 ^ l.length - 1) = 0 + 1 by omega]
  unfold Bf
  rw [if_pos rfl]
theorem B_step (l : List Ev) {s : Nat} (hs : s < 2 ^ l.length) (hn : s ≠ 2 ^ l.length - 1) : B l s = sumR (fun j => if okj l s j then B l (s + 2 ^ j) else 0) l.length := by
  unfold B
  obtain ⟨f, hf⟩ : ∃ f, 2 ^ l.length - s = f + 1 := ⟨2 ^ l.length - s - 1, by omega⟩
  rw [hf]
  conv => lhs; unfold Bf
  rw [if_neg hn]
  refine sumR_congr _ fun j hj => ?_
  by_cases ho : okj l s j = true
  · rw [if_pos ho, if_pos ho]
    have h1 := ok_lt hs hj (okj_bit ho)
    have h2 := Nat.two_pow_pos j
    exact Bf_fuel l _ _ _ h1 (by omega) (Nat.le_refl _)
  · rw [if_neg ho, if_neg ho]
abbrev U64 : Nat := 18446744073709551616
/-- What is still to come. -/
def phi (l : List Ev) (W : List Nat) (s : Nat) : Nat := sumR (fun t => if s ≤ t then (W[t]?).getD 0 * B l t else 0) (2 ^ l.length)
theorem phi_stepJ {l : List Ev} {s c j : Nat} {W : List Nat} (hs : s < 2 ^ l.length) (hj : j < l.length) (hl : W.length = 2 ^ l.length) : phi l (stepJ l s c W j) (s + 1) % U64 = (phi l W (s + 1) + c * (if okj l s j then B l (s + 2 ^ j) else 0)) % U64 := by
  unfold stepJ
  by_cases ho : okj l s j = true
  · have h1 := ok_lt hs hj (okj_bit ho)
    have h2 := Nat.two_pow_pos j
    rcases Nat.eq_zero_or_pos c with h0 | h0
    · subst h0; rw [if_neg (by omega)]; simp
    · rw [if_pos ⟨h0, ho⟩, if_pos ho]
      unfold phi
      refine sumR_turn (k := s + 2 ^ j) (fun i hi => ?_) ?_ _ h1
      · rw [set_ne hi]
      · rw [if_pos (by omega), if_pos (by omega)]
        have h3 : (W.set (s + 2 ^ j) (((W[s + 2 ^ j]?).getD 0 + c) % 18446744073709551616))[s + 2 ^ j]? = some (((W[s + 2 ^ j]?).getD 0 + c) % 18446744073709551616) := by
          rw [List.getElem?_set]; simp [hl, h1]
        rw [h3, Option.getD_some, ← Nat.add_mul]
        exact (Nat.mod_mul_mod _ _ _).trans rfl
  · rw [if_neg (fun h => ho h.2), if_neg ho]; simp
theorem phi_fold {l : List Ev} {s c : Nat} (hs : s < 2 ^ l.length) : ∀ (n : Nat), n ≤ l.length → ∀ W : List Nat, W.length = 2 ^ l.length →
    phi l ((List.range n).foldl (stepJ l s c) W) (s + 1) % U64 = (phi l W (s + 1) + c * sumR (fun j => if okj l s j then B l (s + 2 ^ j) else 0) n) % U64
  | 0, _, W, _ => by simp [sumR]
  | n + 1, hn, W, hl => by
    rw [List.range_succ, List.foldl_append]
    show phi l (stepJ l s c _ n) (s + 1) % U64 = _
    rw [phi_stepJ hs (by omega) (by rw [len_foldJ]; exact hl), Nat.add_mod, phi_fold hs n (by omega) W hl, ← Nat.add_mod]
    rw [sumR_succ, Nat.mul_add, Nat.add_assoc]
theorem phi_drop {l : List Ev} {s : Nat} {W : List Nat} (hs : s < 2 ^ l.length) : phi l W s = phi l W (s + 1) + (W[s]?).getD 0 * B l s := by
  unfold phi
  have key : ∀ n, sumR (fun t => if s ≤ t then (W[t]?).getD 0 * B l t else 0) n = sumR (fun t => if s + 1 ≤ t then (W[t]?).getD 0 * B l t else 0) n + (if s < n then (W[s]?).getD 0 * B l s else 0) := by
    intro n
    induction n with
    | zero => simp [sumR]
    | succ n ih =>
      unfold sumR
      rw [ih]
      by_cases h1 : s < n
      · rw [if_pos h1, if_pos (by omega), if_pos (by omega), if_pos (by omega)]; omega
      · by_cases h2 : s = n
        · subst h2; rw [if_neg h1, if_pos (Nat.le_refl _), if_neg (by omega), if_pos (by omega)]
        · rw [if_neg h1, if_neg (by omega), if_neg (by omega), if_neg (by omega)]
  rw [key, if_pos hs]
theorem phi_step {l : List Ev} {s : Nat} (hs : s < 2 ^ l.length) (hn : s ≠ 2 ^ l.length - 1) : phi l (dpS l (s + 1)) (s + 1) % U64 = phi l (dpS l s) s % U64 := by
  rw [← dpS_succ, phi_drop hs]
  unfold dpJ
  rw [phi_fold hs l.length (Nat.le_refl _) _ (lenS l s), ← B_step l hs hn]
theorem phi_all (l : List Ev) : ∀ s, s < 2 ^ l.length → phi l (dpS l s) s % U64 = B l 0 % U64
  | 0, h => by
    have e : phi l (dpS l 0) 0 = B l 0 := by
      unfold phi
      rw [sumR_one (k := 0) _ h fun i hi h0 => ?_]
      · rw [if_pos (Nat.le_refl _)]
        have : (dpS l 0)[0]? = some 1 := by show ((List.replicate (2 ^ l.length) 0).set 0 1)[0]? = some 1; rw [List.getElem?_set]; simp
        rw [this]; simp
      · rw [if_pos (Nat.zero_le _)]
        have : (dpS l 0)[i]? = some 0 := by show ((List.replicate (2 ^ l.length) 0).set 0 1)[i]? = some 0; rw [set_ne h0]; simp [hi]
        rw [this]; simp
    rw [e]
  | s + 1, h => by rw [phi_step (by omega) (by omega), phi_all l s (by omega)]
theorem small_stepJ {l : List Ev} {s c : Nat} {W : List Nat} {j : Nat} (h : ∀ x ∈ W, x < U64) : ∀ x ∈ stepJ l s c W j, x < U64 := by
  unfold stepJ
  split
  · intro x hx
    rcases List.mem_or_eq_of_mem_set hx with h1 | rfl
    · exact h x h1
    · exact Nat.mod_lt _ (by decide)
  · exact h
theorem small_foldJ {l : List Ev} {s c : Nat} : ∀ (r : List Nat) (W : List Nat), (∀ x ∈ W, x < U64) → ∀ x ∈ r.foldl (stepJ l s c) W, x < U64
  | [], _, h => h
  | j :: r, W, h => small_foldJ r _ (small_stepJ h)
theorem small_foldS {l : List Ev} : ∀ (r : List Nat) (W : List Nat), (∀ x ∈ W, x < U64) → ∀ x ∈ r.foldl (stepS l) W, x < U64
  | [], _, h => h
  | j :: r, W, h => small_foldS r _ (small_foldJ _ _ h)
theorem small_dp (l : List Ev) (s : Nat) : ∀ x ∈ dpS l s, x < U64 := by
  refine small_foldS _ _ fun x hx => ?_
  rcases List.mem_or_eq_of_mem_set hx with h1 | rfl
  · rw [(List.mem_replicate.1 h1).2]; decide
  · decide
/-- What Count answers: the number of ways to complete nothing. -/
theorem cnt_B (l : List Ev) : cntV l = B l 0 % U64 := by
  have hp := Nat.two_pow_pos l.length
  have h1 := phi_all l (2 ^ l.length - 1) (by omega)
  have h2 : phi l (dpS l (2 ^ l.length - 1)) (2 ^ l.length - 1) = ((dpS l (2 ^ l.length - 1))[2 ^ l.length - 1]?).getD 0 := by
    unfold phi
    rw [sumR_one (k := 2 ^ l.length - 1) _ (by omega) fun i hi h0 => by rw [if_neg (by omega)], if_pos (Nat.le_refl _), B_full, Nat.mul_one]
  rw [h2] at h1
  have h3 : dpS l (2 ^ l.length) = dpJ l (2 ^ l.length - 1) l.length := by
    rw [dpS_succ]; congr 1; omega
  obtain ⟨z, hz⟩ : ∃ z, (dpS l (2 ^ l.length - 1))[2 ^ l.length - 1]? = some z := ⟨_, List.getElem?_eq_getElem (by rw [lenS]; omega)⟩
  rw [hz, Option.getD_some, Nat.mod_eq_of_lt (small_dp l _ z (List.mem_of_getElem? hz))] at h1
  unfold cntV
  rw [h3, dpJ_self, hz, ← h1]; rfl
end Go.Proofs.Ytneimfacccgaeaa
