/- Events without messages: chains, and their multinomial coefficients. Own text. -/
import Derived.Test.YtneimfacccgaeaaV25
namespace Go.Proofs.Ytneimfacccgaeaa
open Go.RowKit Go.Flow Go.Mem Go.Sep

def ce (c i : Nat) : Ev := ⟨i, c, 3, 0, i, 0, 0, 0, [], none, 0⟩
def seg (c p : Nat) : List Ev := (List.range p).map (ce c)
def chL (p : Nat → Nat) (k : Nat) : List Ev := (List.range k).flatMap fun c => seg c (p c)
theorem chL_succ (p : Nat → Nat) (k : Nat) : chL p (k + 1) = chL p k ++ seg k (p k) := by
  unfold chL; rw [List.range_succ, List.flatMap_append]; simp
theorem chL_len (p : Nat → Nat) : ∀ k, (chL p k).length = sumR p k
  | 0 => rfl
  | k + 1 => by rw [chL_succ, List.length_append, chL_len p k, sumR_succ]; simp [seg]
theorem chL_get (p : Nat → Nat) : ∀ {k c i : Nat}, c < k → i < p c → (chL p k)[sumR p c + i]? = some (ce c i)
  | 0, c, i, h, _ => absurd h (by omega)
  | k + 1, c, i, h, hi => by
    rw [chL_succ]
    by_cases e : c = k
    · subst e
      rw [List.getElem?_append_right (by rw [chL_len]; omega), chL_len]
      simp [seg, hi]
    · have h1 := chL_get p (k := k) (c := c) (by omega) hi
      rw [List.getElem?_append_left (List.getElem?_eq_some_iff.1 h1).1]; exact h1
theorem chL_at (p : Nat → Nat) : ∀ {k x : Nat}, x < sumR p k → ∃ c i, c < k ∧ i < p c ∧ x = sumR p c + i
  | 0, x, h => absurd h (by simp [sumR])
  | k + 1, x, h => by
    rw [sumR_succ] at h
    by_cases e : x < sumR p k
    · obtain ⟨c, i, h1, h2, h3⟩ := chL_at p e
      exact ⟨c, i, by omega, h2, h3⟩
    · exact ⟨k, x - sumR p k, by omega, by omega, by omega⟩
theorem ce_dep (c i d j : Nat) : (ce c i).dep (ce d j) = decide (c = d) := by
  have h := dep_iff (ce c i) (ce d j)
  have r1 : (ce c i).rl = 0 := by simp [ce, Ev.rl]
  have r2 : (ce d j).rl = 0 := by simp [ce, Ev.rl]
  rw [r1, r2] at h
  have h2 : (ce c i).dep (ce d j) = true ↔ c = d := by rw [h]; simp [ce]; omega
  by_cases e : c = d
  · rw [decide_eq_true e]; exact h2.2 e
  · rw [decide_eq_false e]; cases hd : (ce c i).dep (ce d j)
    · rfl
    · exact (e (h2.1 hd)).elim
theorem chL_dep (p : Nat → Nat) {k c i d j : Nat} (hc : c < k) (hi : i < p c) (hd : d < k) (hj : j < p d) : depAt (chL p k) (sumR p c + i) (sumR p d + j) = decide (c = d) := by
  rw [depAt_of (chL_get p hc hi) (chL_get p hd hj), ce_dep]
/-- The set s holds the first a c places of each chain c. -/
def Rep (p a : Nat → Nat) (k s : Nat) : Prop := ∀ c i, c < k → i < p c → s.testBit (sumR p c + i) = decide (i < a c)
theorem rep_ok {p a : Nat → Nat} {k s c i : Nat} (h : Rep p a k s) (hc : c < k) (hi : i < p c) : okj (chL p k) s (sumR p c + i) = decide (i = a c) := by
  have key : okj (chL p k) s (sumR p c + i) = true ↔ i = a c := by
    unfold okj
    rw [Bool.and_eq_true, h c i hc hi, List.all_eq_true]
    constructor
    · rintro ⟨h1, h2⟩
      have h1 : ¬ i < a c := by simpa using h1
      rcases Nat.lt_or_ge (a c) i with h3 | h3
      · have h4 := h2 (sumR p c + a c) (List.mem_range.2 (by omega))
        rw [h c (a c) hc (by omega), chL_dep p hc (by omega) hc hi] at h4
        simp at h4
      · omega
    · intro e
      refine ⟨by simp; omega, fun x hx => ?_⟩
      have hx := List.mem_range.1 hx
      have hm : sumR p c + i < sumR p k := by
        have := (List.getElem?_eq_some_iff.1 (chL_get p hc hi)).1
        rw [chL_len] at this; exact this
      obtain ⟨d, j, h1, h2, h3⟩ := chL_at p (k := k) (x := x) (by omega)
      subst h3
      rw [h d j h1 h2, chL_dep p h1 h2 hc hi]
      by_cases e2 : d = c
      · subst e2; simp; omega
      · simp [e2]
  by_cases e : i = a c
  · rw [decide_eq_true e]; exact key.2 e
  · rw [decide_eq_false e]
    cases ho : okj (chL p k) s (sumR p c + i)
    · rfl
    · exact (e (key.1 ho)).elim
theorem off_inj (p : Nat → Nat) {c d i j : Nat} (hi : i < p c) (hj : j < p d) (h : sumR p c + i = sumR p d + j) : c = d ∧ i = j := by
  have mono : ∀ x y, x < y → sumR p x + p x ≤ sumR p y := by
    intro x y hxy
    induction y with
    | zero => omega
    | succ y ih =>
      rw [sumR_succ]
      by_cases e : x = y
      · subst e; omega
      · have := ih (by omega); omega
  rcases Nat.lt_trichotomy c d with h1 | h1 | h1
  · have := mono c d h1; omega
  · subst h1; exact ⟨rfl, by omega⟩
  · have := mono d c h1; omega
theorem rep_add {p a : Nat → Nat} {k s c : Nat} (h : Rep p a k s) (hc : c < k) (hi : a c < p c) : Rep p (fun d => if d = c then a c + 1 else a d) k (s + 2 ^ (sumR p c + a c)) := fun d j hd hj => by
  have hb : s.testBit (sumR p c + a c) = false := by rw [h c (a c) hc hi]; simp
  rw [← or_pow hb, Nat.testBit_or, h d j hd hj, Nat.testBit_two_pow]
  show _ = decide (j < if d = c then a c + 1 else a d)
  by_cases e : d = c
  · subst e
    rw [if_pos rfl]
    by_cases e2 : j = a d
    · subst e2; simp
    · have : ¬ sumR p d + a d = sumR p d + j := by omega
      rw [decide_eq_false this, Bool.or_false]
      exact decide_eq_decide.2 (by omega)
  · rw [if_neg e]
    have : ¬ sumR p c + a c = sumR p d + j := fun hh => e (off_inj p hi hj hh).1.symm
    rw [decide_eq_false this, Bool.or_false]
theorem sumR_chains (F : Nat → Nat) (p : Nat → Nat) : ∀ k, sumR F (sumR p k) = sumR (fun c => sumR (fun i => F (sumR p c + i)) (p c)) k
  | 0 => rfl
  | k + 1 => by rw [sumR_succ, sumR_add, sumR_chains F p k, sumR_succ]
theorem rep_step {p a : Nat → Nat} {k s : Nat} (h : Rep p a k s) (hs : s < 2 ^ sumR p k) (hn : s ≠ 2 ^ sumR p k - 1) : B (chL p k) s = sumR (fun c => if a c < p c then B (chL p k) (s + 2 ^ (sumR p c + a c)) else 0) k := by
  have hl := chL_len p k
  rw [B_step (chL p k) (by rw [hl]; exact hs) (by rw [hl]; exact hn), hl, sumR_chains]
  refine sumR_congr k fun c hc => ?_
  by_cases e : a c < p c
  · rw [if_pos e, sumR_one (k := a c) _ e fun i hi h0 => by rw [rep_ok h hc hi, decide_eq_false h0]; rfl, rep_ok h hc e]
    simp
  · rw [if_neg e]
    exact sumR_zero _ fun i hi => by rw [rep_ok h hc hi, decide_eq_false (by omega)]; rfl
/-- The numbers that the law reckons with. -/
def wch (st : Nat × Nat) (p : Nat) : Nat × Nat := (List.range p).foldl (fun st i => (st.1 * (st.2 + 1) / (i + 1), st.2 + 1)) st
def wantF (q0 q1 q2 q3 : Nat) : Nat := (wch (wch (wch (wch (1, 0) q0) q1) q2) q3).1
def wantB (q0 q1 q2 q3 : Nat) : Bool := wantF q0 q1 q2 q3 == (if 0 < q0 then wantF (q0 - 1) q1 q2 q3 else 0) + (if 0 < q1 then wantF q0 (q1 - 1) q2 q3 else 0) + (if 0 < q2 then wantF q0 q1 (q2 - 1) q3 else 0) + (if 0 < q3 then wantF q0 q1 q2 (q3 - 1) else 0)
theorem want_all : ((List.range 6).all fun a => (List.range 6).all fun b => (List.range 6).all fun c => (List.range 6).all fun d => (a + b + c + d == 0) || wantB a b c d) = true := by decide +kernel
theorem want_small : ((List.range 6).all fun a => (List.range 6).all fun b => (List.range 6).all fun c => (List.range 6).all fun d => Nat.blt (wantF a b c d) 100000000000) = true := by decide +kernel
theorem want_rec {a b c d : Nat} (ha : a < 6) (hb : b < 6) (hc : c < 6) (hd : d < 6) (h : a + b + c + d ≠ 0) : wantF a b c d = (if 0 < a then wantF (a - 1) b c d else 0) + (if 0 < b then wantF a (b - 1) c d else 0) + (if 0 < c then wantF a b (c - 1) d else 0) + (if 0 < d then wantF a b c (d - 1) else 0) := by
  have h1 := want_all
  simp only [List.all_eq_true, List.mem_range] at h1
  have h2 := h1 a ha b hb c hc d hd
  have h3 : (a + b + c + d == 0) = false := by simpa using h
  rw [h3, Bool.false_or] at h2
  unfold wantB at h2
  exact eq_of_beq h2
theorem want_lt {a b c d : Nat} (ha : a < 6) (hb : b < 6) (hc : c < 6) (hd : d < 6) : wantF a b c d < 100000000000 := by
  have h1 := want_small
  simp only [List.all_eq_true, List.mem_range] at h1
  exact Nat.le_of_ble_eq_true (h1 a ha b hb c hc d hd)
theorem rep_want {p : Nat → Nat} (hp : ∀ c, c < 4 → p c < 6) : ∀ (m : Nat) (a : Nat → Nat) (s : Nat), (∀ c, c < 4 → a c ≤ p c) → (p 0 - a 0) + (p 1 - a 1) + (p 2 - a 2) + (p 3 - a 3) = m → s < 2 ^ sumR p 4 → Rep p a 4 s → B (chL p 4) s = wantF (p 0 - a 0) (p 1 - a 1) (p 2 - a 2) (p 3 - a 3)
  | 0, a, s, ha, hm, hs, hr => by
    have h0 := ha 0 (by omega); have h1 := ha 1 (by omega); have h2 := ha 2 (by omega); have h3 := ha 3 (by omega)
    have hfull : s = 2 ^ sumR p 4 - 1 := by
      apply Nat.eq_of_testBit_eq
      intro x
      rw [Nat.testBit_two_pow_sub_one]
      by_cases hx : x < sumR p 4
      · obtain ⟨c, i, hc, hi, rfl⟩ := chL_at p hx
        rw [hr c i hc hi, decide_eq_true hx]
        have hac := ha c hc
        have : a c = p c := by
          have : c = 0 ∨ c = 1 ∨ c = 2 ∨ c = 3 := by omega
          rcases this with rfl | rfl | rfl | rfl <;> omega
        exact decide_eq_true (by omega)
      · rw [decide_eq_false hx]
        exact Nat.testBit_lt_two_pow (Nat.lt_of_lt_of_le hs (Nat.pow_le_pow_right (by decide) (by omega)))
    rw [show p 0 - a 0 = 0 by omega, show p 1 - a 1 = 0 by omega, show p 2 - a 2 = 0 by omega, show p 3 - a 3 = 0 by omega, hfull, ← chL_len p 4, B_full]
    rfl
  | m + 1, a, s, ha, hm, hs, hr => by
    have h0 := ha 0 (by omega); have h1 := ha 1 (by omega); have h2 := ha 2 (by omega); have h3 := ha 3 (by omega)
    have hne : s ≠ 2 ^ sumR p 4 - 1 := by
      intro e
      have key : ∀ c, c < 4 → ¬ a c < p c := fun c hc hlt => by
        have h4 := hr c (a c) hc hlt
        rw [e, Nat.testBit_two_pow_sub_one] at h4
        have h5 := (List.getElem?_eq_some_iff.1 (chL_get p hc hlt)).1
        rw [chL_len] at h5
        simp [h5] at h4
      have k0 := key 0 (by omega); have k1 := key 1 (by omega); have k2 := key 2 (by omega); have k3 := key 3 (by omega)
      omega
    have next : ∀ c, c < 4 → a c < p c → B (chL p 4) (s + 2 ^ (sumR p c + a c)) = wantF (p 0 - (if 0 = c then a c + 1 else a 0)) (p 1 - (if 1 = c then a c + 1 else a 1)) (p 2 - (if 2 = c then a c + 1 else a 2)) (p 3 - (if 3 = c then a c + 1 else a 3)) := fun c hc hlt => by
      refine rep_want hp m (fun d => if d = c then a c + 1 else a d) _ (fun d hd => ?_) ?_ ?_ (rep_add hr hc hlt)
      · show (if d = c then a c + 1 else a d) ≤ p d
        split
        · rename_i e; subst e; omega
        · exact ha d hd
      · have : c = 0 ∨ c = 1 ∨ c = 2 ∨ c = 3 := by omega
        rcases this with rfl | rfl | rfl | rfl <;> simp <;> omega
      · have hb : s.testBit (sumR p c + a c) = false := by rw [hr c (a c) hc hlt]; simp
        have h5 := (List.getElem?_eq_some_iff.1 (chL_get p hc hlt)).1
        rw [← chL_len p 4] at hs ⊢
        exact ok_lt hs h5 hb
    rw [rep_step hr hs hne]
    have hp0 := hp 0 (by omega); have hp1 := hp 1 (by omega); have hp2 := hp 2 (by omega); have hp3 := hp 3 (by omega)
    rw [want_rec (a := p 0 - a 0) (b := p 1 - a 1) (c := p 2 - a 2) (d := p 3 - a 3) (by omega) (by omega) (by omega) (by omega) (by omega)]
    simp only [sumR_succ, sumR]
    have e0 : (if a 0 < p 0 then B (chL p 4) (s + 2 ^ (0 + a 0)) else 0) = if 0 < p 0 - a 0 then wantF (p 0 - a 0 - 1) (p 1 - a 1) (p 2 - a 2) (p 3 - a 3) else 0 := by
      by_cases h : a 0 < p 0
      · rw [if_pos h, if_pos (by omega)]
        have := next 0 (by omega) h
        simp only [sumR] at this
        rw [this]; simp [Nat.sub_sub]
      · rw [if_neg h, if_neg (by omega)]
    have e1 : (if a 1 < p 1 then B (chL p 4) (s + 2 ^ (0 + p 0 + a 1)) else 0) = if 0 < p 1 - a 1 then wantF (p 0 - a 0) (p 1 - a 1 - 1) (p 2 - a 2) (p 3 - a 3) else 0 := by
      by_cases h : a 1 < p 1
      · rw [if_pos h, if_pos (by omega)]
        have := next 1 (by omega) h
        simp only [sumR_succ, sumR] at this
        rw [this]; simp [Nat.sub_sub]
      · rw [if_neg h, if_neg (by omega)]
    have e2 : (if a 2 < p 2 then B (chL p 4) (s + 2 ^ (0 + p 0 + p 1 + a 2)) else 0) = if 0 < p 2 - a 2 then wantF (p 0 - a 0) (p 1 - a 1) (p 2 - a 2 - 1) (p 3 - a 3) else 0 := by
      by_cases h : a 2 < p 2
      · rw [if_pos h, if_pos (by omega)]
        have := next 2 (by omega) h
        simp only [sumR_succ, sumR] at this
        rw [this]; simp [Nat.sub_sub]
      · rw [if_neg h, if_neg (by omega)]
    have e3 : (if a 3 < p 3 then B (chL p 4) (s + 2 ^ (0 + p 0 + p 1 + p 2 + a 3)) else 0) = if 0 < p 3 - a 3 then wantF (p 0 - a 0) (p 1 - a 1) (p 2 - a 2) (p 3 - a 3 - 1) else 0 := by
      by_cases h : a 3 < p 3
      · rw [if_pos h, if_pos (by omega)]
        have := next 3 (by omega) h
        simp only [sumR_succ, sumR] at this
        rw [this]; simp [Nat.sub_sub]
      · rw [if_neg h, if_neg (by omega)]
    rw [e0, e1, e2, e3]; omega
/-- The number of orders of chains is the multinomial coefficient. -/
theorem cnt_chains {p : Nat → Nat} (hp : ∀ c, c < 4 → p c < 6) : cntV (chL p 4) = wantF (p 0) (p 1) (p 2) (p 3) := by
  have h := rep_want hp _ (fun _ => 0) 0 (fun _ _ => Nat.zero_le _) rfl (Nat.two_pow_pos _) (fun c i _ _ => by simp)
  rw [cnt_B, h]
  have := want_lt (hp 0 (by omega)) (hp 1 (by omega)) (hp 2 (by omega)) (hp 3 (by omega))
  exact Nat.mod_eq_of_lt (Nat.lt_trans this (by decide))
end Go.Proofs.Ytneimfacccgaeaa
