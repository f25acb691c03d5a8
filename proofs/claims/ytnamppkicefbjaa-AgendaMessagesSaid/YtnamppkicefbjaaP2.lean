/- Plain law of Take: what lies between two searches. Own text. -/
import Derived.Test.YtnamppkicefbjaaW7
namespace Go.Proofs.Ytnamppkicefbjaa
open Go.RowKit Go.Flow Go.Mem

theorem le_head {x y : En} (h : x.le y = true) : x.c < y.c ∨ (x.c = y.c ∧ x.t ≤ y.t) := by
  unfold En.le En.key at h
  simp only [lexLe] at h
  by_cases h1 : x.c < y.c
  · exact .inl h1
  · rw [if_neg h1] at h
    by_cases h2 : y.c < x.c
    · rw [if_pos h2] at h; cases h
    · rw [if_neg h2] at h
      right
      refine ⟨by omega, ?_⟩
      by_cases h3 : x.t < y.t
      · omega
      · rw [if_neg h3] at h
        by_cases h4 : y.t < x.t
        · rw [if_pos h4] at h; cases h
        · omega

/-- Is x one of the component's, up to the tick? -/
def inTake (comp tick : Int) (x : En) : Bool := decide (x.c = comp ∧ x.t ≤ tick)

/-- A search in a sorted list for a test that does not turn back. -/
theorem search_mono {L : List En} (hs : SortedE L) (P : En → Bool) (hP : ∀ x y : En, x.le y = true → P x = true → P y = true) (d : En) (k : Nat) (hk : k ≤ L.length) (h1 : k < L.length → P (L.getD k d) = true) (h2 : 0 < k → P (L.getD (k - 1) d) = false) :
    (∀ y ∈ L.take k, P y = false) ∧ (∀ y ∈ L.drop k, P y = true) := by
  constructor
  · intro y hy
    obtain ⟨j, hj, rfl⟩ := List.mem_iff_getElem.1 hy
    have hjk : j < k := by simp at hj; omega
    have hlast := h2 (by omega)
    have hlt : k - 1 < L.length := by omega
    have hgd : L.getD (k - 1) d = L[k - 1] := by simp [hlt]
    rw [hgd] at hlast
    rw [List.getElem_take]
    rcases Nat.lt_or_ge j (k - 1) with h | h
    · cases hc : P L[j] with
      | false => rfl
      | true =>
        have := hP _ _ (List.pairwise_iff_getElem.1 hs j (k - 1) (by omega) (by omega) h) hc
        rw [this] at hlast; cases hlast
    · have : j = k - 1 := by omega
      subst this; exact hlast
  · intro y hy
    obtain ⟨j, hj, rfl⟩ := List.mem_iff_getElem.1 hy
    have hkl : k < L.length := by simp at hj; omega
    have hfirst := h1 hkl
    have hgd : L.getD k d = L[k] := by simp [hkl]
    rw [hgd] at hfirst
    rw [List.getElem_drop]
    rcases Nat.eq_zero_or_pos j with h | h
    · subst h; simpa using hfirst
    · exact hP _ _ (List.pairwise_iff_getElem.1 hs k (k + j) hkl (by simp at hj; omega) (by omega)) hfirst

/-- Between the two searches lie just those that are asked for. -/
theorem take_between {L : List En} (hs : SortedE L) (comp tick : Int) (d : En) (i j : Nat) (hi : i ≤ L.length) (hj : j ≤ L.length)
    (i1 : i < L.length → decide (comp ≤ (L.getD i d).c) = true) (i2 : 0 < i → decide (comp ≤ (L.getD (i - 1) d).c) = false)
    (j1 : j < L.length → beyondB comp tick (L.getD j d) = true) (j2 : 0 < j → beyondB comp tick (L.getD (j - 1) d) = false) :
    i ≤ j ∧ (L.drop i).take (j - i) = L.filter (inTake comp tick) ∧ L.take i ++ L.drop j = L.filter (fun x => !inTake comp tick x) := by
  obtain ⟨a1, a2⟩ := search_mono hs (fun x => decide (comp ≤ x.c)) (fun x y hxy hx => by
    simp only [decide_eq_true_eq] at hx ⊢
    rcases le_head hxy with h | h <;> omega) d i hi i1 i2
  obtain ⟨b1, b2⟩ := search_mono hs (beyondB comp tick) (fun x y hxy hx => by
    simp only [beyondB, decide_eq_true_eq] at hx ⊢
    rcases le_head hxy with h | h <;> omega) d j hj j1 j2
  have hij : i ≤ j := by
    rcases Nat.lt_or_ge j i with h | h
    · have hjl : j < L.length := by omega
      have h1 := b2 L[j] (by rw [List.drop_eq_getElem_cons hjl]; exact List.mem_cons_self)
      have h2 := a1 L[j] (List.mem_iff_getElem.2 ⟨j, by simp; omega, by simp⟩)
      simp only [beyondB, decide_eq_true_eq, decide_eq_false_iff_not] at h1 h2
      omega
    · exact h
  refine ⟨hij, ?_⟩
  have e : L = L.take i ++ ((L.drop i).take (j - i) ++ L.drop j) := by
    conv => lhs; rw [← List.take_append_drop i L, ← List.take_append_drop (j - i) (L.drop i), List.drop_drop]
    rw [show i + (j - i) = j by omega]
  have m1 : ∀ y ∈ L.take i, inTake comp tick y = false := fun y hy => by
    have := a1 y hy
    simp only [inTake, decide_eq_false_iff_not] at this ⊢
    omega
  have m3 : ∀ y ∈ L.drop j, inTake comp tick y = false := fun y hy => by
    have := b2 y hy
    simp only [inTake, beyondB, decide_eq_true_eq, decide_eq_false_iff_not] at this ⊢
    omega
  have m2 : ∀ y ∈ (L.drop i).take (j - i), inTake comp tick y = true := fun y hy => by
    have h1 := a2 y (List.mem_of_mem_take hy)
    have h2 : beyondB comp tick y = false := b1 y (by
      rw [List.drop_take.symm] at hy
      exact List.mem_of_mem_drop hy)
    simp only [inTake, beyondB, decide_eq_true_eq, decide_eq_false_iff_not] at h1 h2 ⊢
    omega
  constructor
  · conv => rhs; rw [e]
    rw [List.filter_append, List.filter_append, List.filter_eq_nil_iff.2 (fun y hy => by simp [m1 y hy]), List.filter_eq_self.2 m2, List.filter_eq_nil_iff.2 (fun y hy => by simp [m3 y hy])]
    simp
  · conv => rhs; rw [e]
    rw [List.filter_append, List.filter_append, List.filter_eq_self.2 (fun y hy => by simp [m1 y hy]), List.filter_eq_nil_iff.2 (fun y hy => by simp [m2 y hy]), List.filter_eq_self.2 (fun y hy => by simp [m3 y hy])]
    simp

/-! ### items -/
/-- What an entry says, without where its arguments lie. -/
def En.bare (e : En) : En := { e with A := none, cap := 0 }
def En.icells (e : En) : List Value := [.int .u8 e.s, .int .i64 e.c, .int .i64 e.p, .int .i64 e.n, .int .i64 e.k, .int .i64 e.h, .slice e.A e.args.length e.cap]
def iflat (L : List En) : List Value := L.flatMap En.icells
theorem iflat_append (L M : List En) : iflat (L ++ M) = iflat L ++ iflat M := by simp [iflat]
theorem iflat_length (L : List En) : (iflat L).length = L.length * 7 := by
  unfold iflat
  induction L with
  | nil => rfl
  | cons e L ih => rw [List.flatMap_cons, List.length_append, ih]; simp [En.icells]; omega
theorem icells_one (e : En) : ∀ u ∈ e.icells, u.oneCell' = true := by
  intro u he
  simp only [En.icells, List.mem_cons, List.not_mem_nil, or_false] at he
  rcases he with rfl | rfl | rfl | rfl | rfl | rfl | rfl <;> rfl

/-- A slice of items of one's own, with arguments of their own. -/
structure Items (w : World) (B : Nat) (v : Value) (M : List En) : Prop where
  row : w.ownsRow B 35 7 v M.length (iflat M)
  args : ∀ e ∈ M, ArgsOk w B e
theorem Items.ext {w w' : World} {B : Nat} {v : Value} {M : List En} (h : Items w B v M) (k : Ext w w') : Items w' B v M := ⟨own_ext h.row k, fun e he => own_ext (h.args e he) k⟩
end Go.Proofs.Ytnamppkicefbjaa
