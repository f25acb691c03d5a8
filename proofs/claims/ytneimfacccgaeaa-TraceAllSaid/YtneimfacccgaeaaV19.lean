/- The step of an event: one more than the greatest of those that it depends on. Own text. -/
import Derived.Test.YtneimfacccgaeaaV18
namespace Go.Proofs.Ytneimfacccgaeaa
open Go.RowKit Go.Flow Go.Mem Go.Sep

/-- The greatest f i + 1 of the first n places where p holds. -/
def sup (p : Nat → Bool) (f : Nat → Nat) : Nat → Nat
  | 0 => 0
  | n + 1 => if p n then max (sup p f n) (f n + 1) else sup p f n
theorem sup_congr {p q : Nat → Bool} {f g : Nat → Nat} : ∀ n, (∀ i, i < n → p i = q i ∧ (p i = true → f i = g i)) → sup p f n = sup q g n
  | 0, _ => rfl
  | n + 1, h => by
    have h1 := h n (by omega)
    unfold sup
    rw [sup_congr n fun i hi => h i (by omega), ← h1.1]
    by_cases hp : p n = true
    · rw [if_pos hp, if_pos hp, h1.2 hp]
    · rw [if_neg hp, if_neg hp]
theorem sup_or (p q : Nat → Bool) (f : Nat → Nat) : ∀ n, sup (fun i => p i || q i) f n = max (sup p f n) (sup q f n)
  | 0 => rfl
  | n + 1 => by
    unfold sup
    rw [sup_or p q f n]
    cases hp : p n <;> cases hq : q n <;> simp <;> omega
theorem sup_none {p : Nat → Bool} {f : Nat → Nat} : ∀ n, (∀ i, i < n → p i = false) → sup p f n = 0
  | 0, _ => rfl
  | n + 1, h => by
    unfold sup
    rw [if_neg (by rw [h n (by omega)]; simp), sup_none n fun i hi => h i (by omega)]
theorem sup_le {p : Nat → Bool} {f : Nat → Nat} {i : Nat} : ∀ n, i < n → p i = true → f i + 1 ≤ sup p f n
  | 0, h, _ => absurd h (by omega)
  | n + 1, h, hp => by
    unfold sup
    by_cases e : i = n
    · subst e; rw [if_pos hp]; omega
    · have := sup_le (f := f) n (by omega : i < n) hp
      split <;> omega
theorem sup_is {p : Nat → Bool} {f : Nat → Nat} : ∀ n, sup p f n = 0 ∨ ∃ i, i < n ∧ p i = true ∧ sup p f n = f i + 1
  | 0 => .inl rfl
  | n + 1 => by
    unfold sup
    by_cases hp : p n = true
    · rw [if_pos hp]
      rcases Nat.le_total (sup p f n) (f n + 1) with h | h
      · exact .inr ⟨n, by omega, hp, by omega⟩
      · rcases sup_is (p := p) (f := f) n with h1 | ⟨i, h1, h2, h3⟩
        · omega
        · exact .inr ⟨i, by omega, h2, by omega⟩
    · rw [if_neg hp]
      rcases sup_is (p := p) (f := f) n with h1 | ⟨i, h1, h2, h3⟩
      · exact .inl h1
      · exact .inr ⟨i, by omega, h2, h3⟩
/-- The steps of the first events. -/
def lvs (l : List Ev) : Nat → List Nat
  | 0 => []
  | j + 1 => lvs l j ++ [sup (fun i => depAt l i j) (fun i => ((lvs l j)[i]?).getD 0) j]
def lv (l : List Ev) (j : Nat) : Nat := sup (fun i => depAt l i j) (fun i => ((lvs l j)[i]?).getD 0) j
theorem lvs_len (l : List Ev) : ∀ j, (lvs l j).length = j
  | 0 => rfl
  | j + 1 => by unfold lvs; simp [lvs_len l j]
theorem lvs_get (l : List Ev) {i : Nat} : ∀ {j}, i < j → (lvs l j)[i]? = some (lv l i)
  | 0, h => absurd h (by omega)
  | j + 1, h => by
    show (lvs l j ++ [lv l j])[i]? = _
    by_cases e : i = j
    · subst e; simp [lvs_len]
    · rw [List.getElem?_append_left (by rw [lvs_len]; omega)]
      exact lvs_get l (by omega)
theorem lv_eq (l : List Ev) (j : Nat) : lv l j = sup (fun i => depAt l i j) (lv l) j :=
  sup_congr j fun i hi => ⟨rfl, fun _ => by rw [lvs_get l hi]; rfl⟩
theorem lvs_succ (l : List Ev) (j : Nat) : lvs l (j + 1) = lvs l j ++ [lv l j] := rfl
/-- Which of the first places are of the component, of the sends, of the arrivals. -/
def ofC (l : List Ev) (c : Int) (i : Nat) : Bool := match l[i]? with
  | some x => decide (x.c = c)
  | none => false
def ofR (l : List Ev) (r : Int) (m : Int × Int × Int) (i : Nat) : Bool := match l[i]? with
  | some x => decide (x.rl = r ∧ x.key = m)
  | none => false
theorem depAt_sup {l : List Ev} {j : Nat} {y : Ev} (hy : l[j]? = some y) (f : Nat → Nat) (n : Nat) (hn : n ≤ j) : sup (fun i => depAt l i j) f n =
    if y.rl = 1 then max (sup (ofC l y.c) f n) (sup (ofR l 2 y.key) f n) else if y.rl = 2 then max (sup (ofC l y.c) f n) (sup (ofR l 1 y.key) f n) else sup (ofC l y.c) f n := by
  have hl : ∀ i, i < n → ∃ x, l[i]? = some x := fun i hi => ⟨l[i]'(by have := (List.getElem?_eq_some_iff.1 hy).1; omega), List.getElem?_eq_getElem _⟩
  have key : ∀ i x, l[i]? = some x → depAt l i j = x.dep y ∧ ofC l y.c i = decide (x.c = y.c) ∧ (∀ r, ofR l r y.key i = decide (x.rl = r ∧ x.key = y.key)) := fun i x hx => ⟨depAt_of hx hy, by simp [ofC, hx], fun r => by simp [ofR, hx]⟩
  have dp : ∀ x : Ev, x.dep y = (decide (x.c = y.c) || (decide (y.rl = 1 ∧ x.rl = 2 ∧ x.key = y.key) || decide (x.rl = 1 ∧ y.rl = 2 ∧ y.key = x.key))) := fun x => by
    have h := dep_iff x y
    cases hd : x.dep y
    · rw [hd] at h
      have h2 : ¬ (x.c = y.c ∨ (y.rl = 1 ∧ x.rl = 2 ∧ x.key = y.key) ∨ (x.rl = 1 ∧ y.rl = 2 ∧ y.key = x.key)) := fun hh => by have := h.2 hh; cases this
      simp only [not_or] at h2
      rw [decide_eq_false h2.1, decide_eq_false h2.2.1, decide_eq_false h2.2.2]; rfl
    · rcases h.1 hd with h1 | h1 | h1
      · rw [decide_eq_true h1]; simp
      · rw [decide_eq_true h1]; simp
      · rw [decide_eq_true h1]; simp
  by_cases h1 : y.rl = 1
  · rw [if_pos h1, ← sup_or]
    refine sup_congr n fun i hi => ⟨?_, fun _ => rfl⟩
    obtain ⟨x, hx⟩ := hl i hi
    obtain ⟨k1, k2, k3⟩ := key i x hx
    show depAt l i j = (ofC l y.c i || ofR l 2 y.key i)
    rw [k1, k2, k3, dp x]
    simp [h1]
  · rw [if_neg h1]
    by_cases h2 : y.rl = 2
    · rw [if_pos h2, ← sup_or]
      refine sup_congr n fun i hi => ⟨?_, fun _ => rfl⟩
      obtain ⟨x, hx⟩ := hl i hi
      obtain ⟨k1, k2, k3⟩ := key i x hx
      show depAt l i j = (ofC l y.c i || ofR l 1 y.key i)
      rw [k1, k2, k3, dp x]
      simp [h2, eq_comm]
    · rw [if_neg h2]
      refine sup_congr n fun i hi => ⟨?_, fun _ => rfl⟩
      obtain ⟨x, hx⟩ := hl i hi
      obtain ⟨k1, k2, k3⟩ := key i x hx
      show depAt l i j = ofC l y.c i
      rw [k1, k2, dp x]
      simp [h1, h2]
/-- What Normal has seen tells the steps. -/
structure NInv (l : List Ev) (j : Nat) : Prop where
  next : ∀ c, (aget (nst l j).next c).getD 0 = ((sup (ofC l c) (lv l) j : Nat) : Int)
  after : ∀ m, (aget (nst l j).after m).getD 0 = ((sup (ofR l 1 m) (lv l) j : Nat) : Int)
  till : ∀ m, (aget (nst l j).till m).getD 0 = ((sup (ofR l 2 m) (lv l) j : Nat) : Int)
theorem NInv.at_ {l : List Ev} {j : Nat} (I : NInv l j) {y : Ev} (hy : l[j]? = some y) : (nst l j).at_ y = (lv l j : Nat) := by
  rw [lv_eq, depAt_sup hy (lv l) j (Nat.le_refl _)]
  unfold NS.at_
  rw [I.next, I.till, I.after]
  split
  · omega
  · split <;> omega
theorem NInv.step {l : List Ev} {j : Nat} (I : NInv l j) {y : Ev} (hy : l[j]? = some y) : NInv l (j + 1) := by
  have ha := I.at_ hy
  refine ⟨fun c => ?_, fun m => ?_, fun m => ?_⟩
  · rw [nst_next hy ha, aget_aset]
    unfold sup
    have e : ofC l c j = decide (y.c = c) := by simp [ofC, hy]
    rw [e]
    by_cases hc : c = y.c
    · subst hc
      rw [if_pos rfl, if_pos (by simp)]
      simp only [Option.getD_some]
      have h1 : sup (ofC l y.c) (lv l) j ≤ lv l j := by
        rw [lv_eq l j, depAt_sup hy (lv l) j (Nat.le_refl _)]
        split
        · omega
        · split <;> omega
      omega
    · rw [if_neg hc, if_neg (by simpa using fun h => hc h.symm)]
      exact I.next c
  · unfold sup
    have e : ofR l 1 m j = decide (y.rl = 1 ∧ y.key = m) := by simp [ofR, hy]
    rw [e]
    by_cases hr : y.rl = 1
    · rw [nst_after1 hy ha hr, aget_aset]
      by_cases hm : m = y.key
      · subst hm
        rw [if_pos rfl, if_pos (by simp [hr]), I.after]
        simp only [Option.getD_some]; omega
      · rw [if_neg hm, if_neg (by simpa using fun _ h => hm h.symm)]
        exact I.after m
    · rw [nst_after0 hy hr, if_neg (by simp [hr])]
      exact I.after m
  · unfold sup
    have e : ofR l 2 m j = decide (y.rl = 2 ∧ y.key = m) := by simp [ofR, hy]
    rw [e]
    by_cases hr : y.rl = 2
    · rw [nst_till1 hy ha hr, aget_aset]
      by_cases hm : m = y.key
      · subst hm
        rw [if_pos rfl, if_pos (by simp [hr]), I.till]
        simp only [Option.getD_some]; omega
      · rw [if_neg hm, if_neg (by simpa using fun _ h => hm h.symm)]
        exact I.till m
    · rw [nst_till0 hy hr, if_neg (by simp [hr])]
      exact I.till m
theorem ninv (l : List Ev) : ∀ j, j ≤ l.length → NInv l j
  | 0, _ => ⟨fun _ => by simp [nst, NS.all, NS.nil, aget, sup], fun _ => by simp [nst, NS.all, NS.nil, aget, sup], fun _ => by simp [nst, NS.all, NS.nil, aget, sup]⟩
  | j + 1, h => (ninv l j (by omega)).step (List.getElem?_eq_getElem (by omega))
theorem at_lv {l : List Ev} {j : Nat} {y : Ev} (hy : l[j]? = some y) : (nst l j).at_ y = (lv l j : Nat) := (ninv l j (by have := (List.getElem?_eq_some_iff.1 hy).1; omega)).at_ hy
end Go.Proofs.Ytneimfacccgaeaa
