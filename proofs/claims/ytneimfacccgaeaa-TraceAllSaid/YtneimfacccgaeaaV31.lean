/- The orders of a list: all of them, and the search that goes through them. Own text. -/
import Derived.Test.YtneimfacccgaeaaVx
namespace Go.Proofs.Ytneimfacccgaeaa
open Go.RowKit Go.Flow Go.Mem Go.Sep

/-- The place j may come behind u. -/
def okU (l : List Ev) (u : List Nat) (j : Nat) : Bool := !u.contains j && (List.range j).all fun i => u.contains i || !depAt l i j
def nxt (l : List Ev) (u : List Nat) : List Nat := (List.range l.length).filter (okU l u)
def allC (l : List Ev) : Nat → List Nat → List (List Nat)
  | 0, u => [u]
  | k + 1, u => (nxt l u).flatMap fun j => allC l k (u ++ [j])
def ords (l : List Ev) (u : List Nat) : List (List Nat) := allC l (l.length - u.length) u
def laterR (l : List Ev) : List Nat → List (List Nat)
  | [] => []
  | j :: r => (((nxt l r.reverse).filter (fun x => decide (j < x))).flatMap fun x => ords l (r.reverse ++ [x])) ++ laterR l r
/-- The orders behind all that begin with u. -/
def later (l : List Ev) (u : List Nat) : List (List Nat) := laterR l u.reverse
def fillF (l : List Ev) : Nat → List Nat → List Nat
  | 0, u => u
  | k + 1, u => match nxt l u with
    | [] => u
    | j :: _ => fillF l k (u ++ [j])
def fillU (l : List Ev) (u : List Nat) : List Nat := fillF l (l.length - u.length) u
inductive Rch (l : List Ev) : List Nat → Prop
  | nil : Rch l []
  | snoc {u : List Nat} {j : Nat} : Rch l u → j ∈ nxt l u → Rch l (u ++ [j])
theorem later_nil (l : List Ev) : later l [] = [] := rfl
theorem later_snoc (l : List Ev) (u : List Nat) (j : Nat) : later l (u ++ [j]) = (((nxt l u).filter (fun x => decide (j < x))).flatMap fun x => ords l (u ++ [x])) ++ later l u := by
  unfold later
  rw [List.reverse_append]
  show (((nxt l u.reverse.reverse).filter (fun x => decide (j < x))).flatMap fun x => ords l (u.reverse.reverse ++ [x])) ++ laterR l u.reverse = _
  rw [List.reverse_reverse]
theorem okU_iff {l : List Ev} {u : List Nat} {j : Nat} : okU l u j = true ↔ j ∉ u ∧ ∀ i, i < j → i ∈ u ∨ depAt l i j = false := by
  simp only [okU, Bool.and_eq_true, Bool.not_eq_true', List.contains_eq_mem, decide_eq_false_iff_not, List.all_eq_true, List.mem_range, Bool.or_eq_true, decide_eq_true_eq]
theorem mem_nxt {l : List Ev} {u : List Nat} {j : Nat} : j ∈ nxt l u ↔ j < l.length ∧ j ∉ u ∧ ∀ i, i < j → i ∈ u ∨ depAt l i j = false := by
  unfold nxt
  rw [List.mem_filter, okU_iff, List.mem_range]
theorem nxt_sorted (l : List Ev) (u : List Nat) : (nxt l u).Pairwise (· < ·) := List.pairwise_lt_range.filter _
theorem Rch.lt {l : List Ev} {u : List Nat} (h : Rch l u) : ∀ j ∈ u, j < l.length := by
  induction h with
  | nil => simp
  | snoc _ hj ih =>
    intro x hx
    rcases List.mem_append.1 hx with h1 | h1
    · exact ih x h1
    · rw [List.mem_singleton.1 h1]; exact (mem_nxt.1 hj).1
theorem Rch.nodup {l : List Ev} {u : List Nat} (h : Rch l u) : u.Nodup := by
  induction h with
  | nil => simp
  | snoc _ hj ih =>
    refine List.nodup_append.2 ⟨ih, by simp, ?_⟩
    intro a ha b hb e
    rw [List.mem_singleton.1 hb] at e
    exact (mem_nxt.1 hj).2.1 (e ▸ ha)
/-- What has to stand before a place of u stands in u. -/
theorem Rch.down {l : List Ev} {u : List Nat} (h : Rch l u) : ∀ j ∈ u, ∀ i, i < j → depAt l i j = true → i ∈ u := by
  induction h with
  | nil => simp
  | snoc _ hj ih =>
    intro x hx i hi hd
    rcases List.mem_append.1 hx with h1 | h1
    · exact List.mem_append_left _ (ih x h1 i hi hd)
    · rw [List.mem_singleton.1 h1] at hi hd
      rcases (mem_nxt.1 hj).2.2 i hi with h2 | h2
      · exact List.mem_append_left _ h2
      · rw [h2] at hd; cases hd
theorem len_le_of_sub : ∀ {u v : List Nat}, u.Nodup → (∀ x ∈ u, x ∈ v) → u.length ≤ v.length
  | [], _, _, _ => Nat.zero_le _
  | a :: u, v, hn, h => by
    rw [List.nodup_cons] at hn
    have ha : a ∈ v := h a (by simp)
    have := len_le_of_sub (u := u) (v := v.erase a) hn.2 fun x hx => (List.mem_erase_of_ne (fun (e : x = a) => hn.1 (e ▸ hx))).2 (h x (List.mem_cons_of_mem _ hx))
    rw [List.length_erase_of_mem ha] at this
    have := List.length_pos_of_mem ha
    simp only [List.length_cons]; omega
theorem sub_range_len {u : List Nat} {n : Nat} (hn : u.Nodup) (h : ∀ j ∈ u, j < n) : u.length ≤ n := by
  have := len_le_of_sub hn (v := List.range n) (fun x hx => List.mem_range.2 (h x hx))
  rwa [List.length_range] at this
theorem Rch.len {l : List Ev} {u : List Nat} (h : Rch l u) : u.length ≤ l.length := sub_range_len h.nodup h.lt
theorem Rch.front {l : List Ev} {u : List Nat} {j : Nat} (h : Rch l (u ++ [j])) : Rch l u ∧ j ∈ nxt l u := by
  generalize e : u ++ [j] = v at h
  cases h with
  | nil => simp at e
  | snoc h1 h2 =>
    have := List.append_inj' e rfl
    simp only [List.cons.injEq, and_true] at this
    obtain ⟨rfl, rfl⟩ := this
    exact ⟨h1, h2⟩
theorem exists_least_not {u : List Nat} : ∀ n, (∃ j, j < n ∧ j ∉ u) → ∃ j, j < n ∧ j ∉ u ∧ ∀ i, i < j → i ∈ u
  | 0, h => by obtain ⟨j, h, _⟩ := h; omega
  | n + 1, h => by
    by_cases hx : ∃ j, j < n ∧ j ∉ u
    · obtain ⟨j, h1, h2, h3⟩ := exists_least_not n hx
      exact ⟨j, by omega, h2, h3⟩
    · obtain ⟨j, h1, h2⟩ := h
      have hj : j = n := by
        rcases Nat.lt_or_ge j n with h3 | h3
        · exact (hx ⟨j, h3, h2⟩).elim
        · omega
      subst hj
      refine ⟨j, by omega, h2, fun i hi => ?_⟩
      by_cases h4 : i ∈ u
      · exact h4
      · exact (hx ⟨i, hi, h4⟩).elim
theorem Rch.more {l : List Ev} {u : List Nat} (_h : Rch l u) (hlt : u.length < l.length) : ∃ j, j ∈ nxt l u := by
  have : ∃ j, j < l.length ∧ j ∉ u := by
    apply Classical.byContradiction
    intro hn
    have hall : ∀ j ∈ List.range l.length, j ∈ u := fun j hj => Classical.byContradiction fun h => hn ⟨j, List.mem_range.1 hj, h⟩
    have := len_le_of_sub List.nodup_range hall
    rw [List.length_range] at this
    omega
  obtain ⟨j, h1, h2, h3⟩ := exists_least_not l.length this
  exact ⟨j, mem_nxt.2 ⟨h1, h2, fun i hi => .inl (h3 i hi)⟩⟩
theorem sorted_tail {a : Nat} {r : List Nat} (h : (a :: r).Pairwise (· < ·)) : (a :: r).filter (fun x => decide (a < x)) = r := by
  rw [List.pairwise_cons] at h
  rw [List.filter_cons_of_neg (by simp)]
  exact List.filter_eq_self.2 fun x hx => by simpa using h.1 x hx
/-- The first of those above p, and those above it. -/
theorem above_tail {l : List Nat} {p : Int} {a : Nat} {r : List Nat} (hs : l.Pairwise (· < ·)) (h : l.filter (fun (x : Nat) => decide (p < x)) = a :: r) : l.filter (fun x => decide (a < x)) = r := by
  have hsa : (a :: r).Pairwise (· < ·) := h ▸ hs.filter _
  have hpa : p < a := by
    have : a ∈ l.filter (fun (x : Nat) => decide (p < x)) := by rw [h]; simp
    simpa using (List.mem_filter.1 this).2
  have : l.filter (fun x => decide (a < x)) = (l.filter (fun (x : Nat) => decide (p < x))).filter (fun x => decide (a < x)) := by
    rw [List.filter_filter]
    refine List.filter_congr fun x _ => ?_
    by_cases hx : a < x
    · have : p < x := by omega
      simp [hx, this]
    · simp [hx]
  rw [this, h]
  exact sorted_tail hsa
theorem ords_step {l : List Ev} {u : List Nat} (h : u.length < l.length) : ords l u = (nxt l u).flatMap fun j => ords l (u ++ [j]) := by
  unfold ords
  obtain ⟨k, hk⟩ : ∃ k, l.length - u.length = k + 1 := ⟨l.length - u.length - 1, by omega⟩
  rw [hk]
  show ((nxt l u).flatMap fun j => allC l k (u ++ [j])) = _
  refine congrArg (fun f => List.flatMap f (nxt l u)) (funext fun j => ?_)
  rw [List.length_append, List.length_singleton, show l.length - (u.length + 1) = k by omega]
theorem ords_full {l : List Ev} {u : List Nat} (h : u.length = l.length) : ords l u = [u] := by
  unfold ords
  rw [h, Nat.sub_self]; rfl
theorem fill_full {l : List Ev} {u : List Nat} (h : u.length = l.length) : fillU l u = u := by
  unfold fillU
  rw [h, Nat.sub_self]; rfl
theorem fill_step {l : List Ev} {u : List Nat} (h : u.length < l.length) {j : Nat} {r : List Nat} (hn : nxt l u = j :: r) : fillU l u = fillU l (u ++ [j]) := by
  unfold fillU
  obtain ⟨k, hk⟩ : ∃ k, l.length - u.length = k + 1 := ⟨l.length - u.length - 1, by omega⟩
  rw [hk]
  conv => lhs; unfold fillF
  rw [hn]
  simp only [List.length_append, List.length_singleton]
  congr 1
  omega
theorem fill_spec {l : List Ev} : ∀ (k : Nat) (u : List Nat), Rch l u → l.length - u.length = k → Rch l (fillU l u) ∧ (fillU l u).length = l.length ∧ ords l u ++ later l u = fillU l u :: later l (fillU l u)
  | 0, u, h, hk => by
    have hl := h.len
    have e : u.length = l.length := by omega
    rw [fill_full e, ords_full e]
    exact ⟨h, e, rfl⟩
  | k + 1, u, h, hk => by
    have hlt : u.length < l.length := by omega
    obtain ⟨j0, hj0⟩ := h.more hlt
    cases hn : nxt l u with
    | nil => rw [hn] at hj0; simp at hj0
    | cons j r =>
      have hj : j ∈ nxt l u := by rw [hn]; simp
      have ih := fill_spec k (u ++ [j]) (.snoc h hj) (by rw [List.length_append, List.length_singleton]; omega)
      rw [fill_step hlt hn]
      refine ⟨ih.1, ih.2.1, ?_⟩
      rw [← ih.2.2, later_snoc, ords_step hlt, hn]
      have hs := nxt_sorted l u
      rw [hn] at hs
      rw [sorted_tail hs, List.flatMap_cons, List.append_assoc]
theorem fill_rch {l : List Ev} {u : List Nat} (h : Rch l u) : Rch l (fillU l u) := (fill_spec _ u h rfl).1
theorem fill_len {l : List Ev} {u : List Nat} (h : Rch l u) : (fillU l u).length = l.length := (fill_spec _ u h rfl).2.1
theorem fill_later {l : List Ev} {u : List Nat} (h : Rch l u) : ords l u ++ later l u = fillU l u :: later l (fillU l u) := (fill_spec _ u h rfl).2.2
/-- The least of those above p, or -1. -/
def lst (l : List Ev) (u : List Nat) (p : Int) : Int := match (nxt l u).filter (fun (x : Nat) => decide (p < x)) with
  | [] => -1
  | q :: _ => q
theorem lst_neg {l : List Ev} {u : List Nat} {p : Nat} (h : lst l u p < 0) : later l (u ++ [p]) = later l u := by
  unfold lst at h
  split at h
  · rename_i e
    rw [later_snoc]
    have : (nxt l u).filter (fun x => decide (p < x)) = [] := by
      rw [← e]
      exact List.filter_congr fun x _ => by simp
    rw [this]; rfl
  · omega
theorem lst_pos {l : List Ev} {u : List Nat} {p : Int} (h : 0 ≤ lst l u p) : ∃ q : Nat, lst l u p = q ∧ q ∈ nxt l u ∧ (nxt l u).filter (fun (x : Nat) => decide (p < x)) = q :: (nxt l u).filter (fun x => decide (q < x)) := by
  unfold lst at h ⊢
  split at h
  · omega
  · rename_i q r e
    have hq : q ∈ (nxt l u).filter (fun (x : Nat) => decide (p < x)) := by rw [e]; simp
    refine ⟨q, rfl, (List.mem_filter.1 hq).1, ?_⟩
    rw [e, above_tail (nxt_sorted l u) e]
theorem lst_later {l : List Ev} {u : List Nat} {p q : Nat} (hu : Rch l (u ++ [p])) (h : lst l u p = (q : Int)) : Rch l (u ++ [q]) ∧ later l (u ++ [p]) = fillU l (u ++ [q]) :: later l (fillU l (u ++ [q])) := by
  obtain ⟨q', h1, h2, h3⟩ := lst_pos (l := l) (u := u) (p := (p : Int)) (by omega)
  obtain rfl : q' = q := by omega
  have hr : Rch l (u ++ [q']) := .snoc hu.front.1 h2
  refine ⟨hr, ?_⟩
  rw [← fill_later hr, later_snoc l u q', later_snoc l u p]
  have e : (nxt l u).filter (fun x => decide (p < x)) = (nxt l u).filter (fun (x : Nat) => decide ((p : Int) < x)) := List.filter_congr fun x _ => by simp
  rw [e, h3, List.flatMap_cons, List.append_assoc]
/-- The first one that may come. -/
theorem lst_first {l : List Ev} {u : List Nat} (h : Rch l u) (hlt : u.length < l.length) : ∃ (q : Nat) (r : List Nat), lst l u (-1) = q ∧ nxt l u = q :: r := by
  obtain ⟨j, hj⟩ := h.more hlt
  have e : (nxt l u).filter (fun (x : Nat) => decide ((-1 : Int) < x)) = nxt l u := List.filter_eq_self.2 fun x _ => by
    have : (-1 : Int) < x := by omega
    simpa using this
  unfold lst
  rw [e]
  cases hn : nxt l u with
  | nil => rw [hn] at hj; simp at hj
  | cons q r => exact ⟨q, r, rfl, rfl⟩
/-- What lst is told by. -/
theorem lst_eq {l : List Ev} {u : List Nat} {p m : Int} (h : (m = -1 ∧ ∀ q ∈ nxt l u, ¬ p < (q : Int)) ∨ (∃ q : Nat, m = q ∧ q ∈ nxt l u ∧ p < (q : Int) ∧ ∀ x ∈ nxt l u, p < (x : Int) → q ≤ x)) : lst l u p = m := by
  rcases h with ⟨rfl, h⟩ | ⟨q, rfl, h1, h2, h3⟩
  · unfold lst
    rw [List.filter_eq_nil_iff.2 fun x hx => by simpa using h x hx]
  · have hq : q ∈ (nxt l u).filter (fun (x : Nat) => decide (p < x)) := List.mem_filter.2 ⟨h1, by simpa using h2⟩
    unfold lst
    cases e : (nxt l u).filter (fun (x : Nat) => decide (p < x)) with
    | nil => rw [e] at hq; simp at hq
    | cons a r =>
      have ha : a ∈ (nxt l u).filter (fun (x : Nat) => decide (p < x)) := by rw [e]; simp
      obtain ⟨ha1, ha2⟩ := List.mem_filter.1 ha
      have h4 := h3 a ha1 (by simpa using ha2)
      have hs : (a :: r).Pairwise (· < ·) := e ▸ (nxt_sorted l u).filter _
      rw [e] at hq
      rcases List.mem_cons.1 hq with rfl | h5
      · rfl
      · have := (List.pairwise_cons.1 hs).1 q h5
        omega
end Go.Proofs.Ytneimfacccgaeaa
