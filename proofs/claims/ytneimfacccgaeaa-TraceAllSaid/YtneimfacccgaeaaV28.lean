/- What an exchange of neighbours does to the normal form. Own text. -/
import Derived.Test.YtneimfacccgaeaaV23
namespace Go.Proofs.Ytneimfacccgaeaa
open Go.RowKit Go.Flow Go.Mem Go.Sep

/-- The values and steps of the first n events. -/
def prs (l : List Ev) (n : Nat) : List (List Int × Nat) := (List.range n).map fun i => (((l[i]?).map Ev.val).getD [], lv l i)
def grp (P : List (List Int × Nat)) (k : Nat) : List (List Int) := (P.filter fun q => decide (q.2 = k)).map (·.1)
theorem prs_succ {l : List Ev} {n : Nat} {y : Ev} (hy : l[n]? = some y) : prs l (n + 1) = prs l n ++ [(y.val, lv l n)] := by
  unfold prs; rw [List.range_succ, List.map_append]; simp [hy]
theorem grp_snoc (P : List (List Int × Nat)) (v : List Int) (n k : Nat) : grp (P ++ [(v, n)]) k = if n = k then grp P k ++ [v] else grp P k := by
  unfold grp
  rw [List.filter_append, List.map_append]
  by_cases h : n = k
  · rw [if_pos h]; simp [h]
  · rw [if_neg h]; simp [h]
theorem put_vals (S : List (List Ev)) (n : Nat) (y : Ev) : vals2 (put S n y) = if n = (vals2 S).length then vals2 S ++ [[y.val]] else (vals2 S).set n (((vals2 S)[n]?).getD [] ++ [y.val]) := by
  unfold put vals2
  rw [List.length_map]
  split
  · simp
  · rw [List.map_set, List.map_append]
    congr 2
    cases h : S[n]? <;> simp [h]
theorem steps_grp (l : List Ev) : ∀ j, j ≤ l.length → ∀ k, (vals2 (nst l j).steps)[k]? = if grp (prs l j) k = [] then none else some (grp (prs l j) k)
  | 0, _, k => by simp [nst, NS.all, NS.nil, vals2, prs, grp]
  | j + 1, h, k => by
    have hy : l[j]? = some l[j] := List.getElem?_eq_getElem (by omega)
    have ha := at_lv hy
    have hb := (nst_ok l j).at_ l[j]
    have hle : lv l j ≤ (vals2 (nst l j).steps).length := by simp [vals2]; omega
    have ih := steps_grp l j (by omega)
    rw [nst_steps hy ha, put_vals, prs_succ hy, grp_snoc]
    generalize vals2 (nst l j).steps = V at *
    by_cases h1 : lv l j = V.length
    · rw [if_pos h1]
      have hnone := ih V.length
      rw [List.getElem?_eq_none (Nat.le_refl _)] at hnone
      have hg : grp (prs l j) V.length = [] := by
        by_cases hh : grp (prs l j) V.length = []
        · exact hh
        · rw [if_neg hh] at hnone; cases hnone
      by_cases h2 : lv l j = k
      · subst h2
        rw [if_pos rfl, h1, hg]; simp
      · rw [if_neg h2, ← ih k]
        by_cases h3 : k < V.length
        · rw [List.getElem?_append_left h3]
        · rw [List.getElem?_eq_none (by simp; omega), List.getElem?_eq_none (by omega)]
    · rw [if_neg h1]
      by_cases h2 : lv l j = k
      · subst h2
        rw [if_pos rfl, List.getElem?_set]
        have hlt : lv l j < V.length := by omega
        have hih := ih (lv l j)
        rw [List.getElem?_eq_getElem hlt] at hih
        have hne : ¬ grp (prs l j) (lv l j) = [] := fun e => by rw [if_pos e] at hih; cases hih
        rw [if_neg hne] at hih
        rw [if_pos rfl, if_pos hlt, List.getElem?_eq_getElem hlt, hih]
        simp
      · rw [if_neg h2, List.getElem?_set, if_neg h2]
        exact ih k
theorem norm_get (l : List Ev) (k : Nat) : (normV l)[k]? = if grp (prs l l.length) k = [] then none else some (sortV (grp (prs l l.length) k)) := by
  have h := steps_grp l l.length (Nat.le_refl _) k
  unfold normV
  rw [List.getElem?_map]
  have e : NS.nil.all l = nst l l.length := by unfold nst; rw [List.take_length]
  rw [e, h]
  split <;> rfl
theorem grp_perm {P Q : List (List Int × Nat)} (h : P.Perm Q) (k : Nat) : (grp P k).Perm (grp Q k) := (h.filter _).map _
theorem norm_perm {l m : List Ev} (h : (prs l l.length).Perm (prs m m.length)) : normV l = normV m := by
  apply List.ext_getElem?
  intro k
  rw [norm_get, norm_get]
  have hp := grp_perm h k
  by_cases e : grp (prs l l.length) k = []
  · rw [if_pos e, if_pos]
    rw [e] at hp; exact List.nil_perm.1 hp
  · rw [if_neg e, if_neg (fun e2 => e (by rw [e2] at hp; exact List.perm_nil.1 hp)), sortV_congr hp]
/-! ### neighbours exchanged -/
def sw (k i : Nat) : Nat := if i = k then k + 1 else if i = k + 1 then k else i
theorem sw_lt {k i : Nat} (h : i < k) : sw k i = i := by unfold sw; rw [if_neg (by omega), if_neg (by omega)]
theorem sw_gt {k i : Nat} (h : k + 1 < i) : sw k i = i := by unfold sw; rw [if_neg (by omega), if_neg (by omega)]
theorem sw_k (k : Nat) : sw k k = k + 1 := by simp [sw]
theorem sw_k1 (k : Nat) : sw k (k + 1) = k := by simp [sw]
theorem sup_sw (p : Nat → Bool) (f : Nat → Nat) (k : Nat) : ∀ n, sup (fun i => p (sw k i)) (fun i => f (sw k i)) (k + 2 + n) = sup p f (k + 2 + n)
  | 0 => by
    have e : sup (fun i => p (sw k i)) (fun i => f (sw k i)) k = sup p f k := sup_congr k fun i hi => by rw [sw_lt hi]; exact ⟨rfl, fun _ => rfl⟩
    show sup _ _ (k + 1 + 1) = sup _ _ (k + 1 + 1)
    simp only [sup, e, sw_k, sw_k1]
    cases p k <;> cases p (k + 1) <;> simp <;> omega
  | n + 1 => by
    have e := sup_sw p f k n
    show sup _ _ (k + 2 + n + 1) = sup _ _ (k + 2 + n + 1)
    simp only [sup, e, sw_gt (show k + 1 < k + 2 + n by omega)]
/-- m is l with the places k, k + 1 exchanged. -/
structure Swap (l m : List Ev) (k : Nat) : Prop where
  at_ : ∀ i, m[i]? = l[sw k i]?
  len : m.length = l.length
  lt : k + 1 < l.length
theorem Swap.dep {l m : List Ev} {k : Nat} (h : Swap l m k) (i j : Nat) : depAt m i j = depAt l (sw k i) (sw k j) := by unfold depAt; rw [h.at_, h.at_]
theorem depAt_comm (l : List Ev) (i j : Nat) : depAt l i j = depAt l j i := by
  unfold depAt
  cases l[i]? <;> cases l[j]? <;> simp [dep_comm]
theorem Swap.lev {l m : List Ev} {k : Nat} (h : Swap l m k) (hi : depAt l k (k + 1) = false) : ∀ j, lv m j = lv l (sw k j) := by
  intro j
  induction j using Nat.strongRecOn with
  | _ j ih =>
    rw [lv_eq m j]
    have e : sup (fun i => depAt m i j) (lv m) j = sup (fun i => depAt l (sw k i) (sw k j)) (fun i => lv l (sw k i)) j := sup_congr j fun i hij => ⟨h.dep i j, fun _ => ih i hij⟩
    rw [e, lv_eq l (sw k j)]
    rcases Nat.lt_trichotomy j k with h1 | h1 | h1
    · rw [sw_lt h1]
      exact sup_congr j fun i hij => by rw [sw_lt (show i < k by omega)]; exact ⟨rfl, fun _ => rfl⟩
    · subst h1
      rw [sw_k]
      conv => rhs; unfold sup
      rw [if_neg (by rw [hi]; simp)]
      exact sup_congr j fun i hij => by rw [sw_lt hij]; exact ⟨rfl, fun _ => rfl⟩
    · by_cases h2 : j = k + 1
      · subst h2
        rw [sw_k1]
        conv => lhs; unfold sup
        rw [if_neg (by rw [sw_k, depAt_comm, hi]; simp)]
        exact sup_congr k fun i hij => by rw [sw_lt hij]; exact ⟨rfl, fun _ => rfl⟩
      · rw [sw_gt (by omega)]
        have := sup_sw (fun i => depAt l i j) (lv l) k (j - (k + 2))
        rw [show k + 2 + (j - (k + 2)) = j by omega] at this
        exact this
theorem range_split {n k : Nat} (h : k + 1 < n) : List.range n = List.range k ++ (k :: (k + 1) :: List.range' (k + 2) (n - (k + 2))) := by
  rw [List.range_eq_range', List.range_eq_range']
  have e1 : n = k + (n - k) := by omega
  have e2 : n - k = (n - (k + 2)) + 1 + 1 := by omega
  conv => lhs; rw [e1, ← List.range'_append_1, Nat.zero_add, e2, List.range'_succ, List.range'_succ]
theorem Swap.perm {l m : List Ev} {k : Nat} (h : Swap l m k) (hi : depAt l k (k + 1) = false) : (prs l l.length).Perm (prs m m.length) := by
  have hm : prs m m.length = (List.range l.length).map fun i => (((l[sw k i]?).map Ev.val).getD [], lv l (sw k i)) := by
    unfold prs
    rw [h.len]
    refine List.map_congr_left fun i _ => ?_
    rw [h.at_, h.lev hi]
  rw [hm]
  unfold prs
  rw [range_split h.lt]
  simp only [List.map_append, List.map_cons, sw_k, sw_k1]
  have e1 : (List.range k).map (fun i => (((l[sw k i]?).map Ev.val).getD [], lv l (sw k i))) = (List.range k).map fun i => (((l[i]?).map Ev.val).getD [], lv l i) :=
    List.map_congr_left fun i hi => by rw [sw_lt (List.mem_range.1 hi)]
  have e2 : (List.range' (k + 2) (l.length - (k + 2))).map (fun i => (((l[sw k i]?).map Ev.val).getD [], lv l (sw k i))) = (List.range' (k + 2) (l.length - (k + 2))).map fun i => (((l[i]?).map Ev.val).getD [], lv l i) :=
    List.map_congr_left fun i hi => by rw [sw_gt (by have := (List.mem_range'_1.1 hi).1; omega)]
  rw [e1, e2]
  exact (List.Perm.swap _ _ _).append_left _
theorem Swap.norm {l m : List Ev} {k : Nat} (h : Swap l m k) (hi : depAt l k (k + 1) = false) : normV l = normV m := norm_perm (h.perm hi)
/-! ### what the normal form tells of dependent events -/
theorem flat_grp : ∀ (P : List (List Int × Nat)) (N : Nat), P.Pairwise (fun a b => a.2 < b.2) → (∀ q ∈ P, q.2 < N) → (List.range N).flatMap (grp P) = P.map (·.1)
  | [], N, _, _ => by
    have : ∀ k, grp [] k = [] := fun k => rfl
    induction List.range N with
    | nil => rfl
    | cons x r ih => rw [List.flatMap_cons, this, ih]; rfl
  | (v, n) :: P, N, hp, hN => by
    rw [List.pairwise_cons] at hp
    have hn : n < N := hN (v, n) (List.mem_cons_self ..)
    have ih := flat_grp P N hp.2 (fun q hq => hN q (List.mem_cons_of_mem _ hq))
    have hz : ∀ k, k ≤ n → grp P k = [] := fun k hk => by
      unfold grp
      rw [List.filter_eq_nil_iff.2 fun q hq => by have := hp.1 q hq; simp; simp at this; omega]; rfl
    have hg : ∀ k, grp ((v, n) :: P) k = (if k = n then [v] else []) ++ grp P k := fun k => by
      unfold grp
      by_cases e : n = k
      · subst e; simp
      · rw [if_neg (fun h => e h.symm)]; simp [e]
    have split : List.range N = List.range n ++ n :: List.range' (n + 1) (N - (n + 1)) := by
      rw [List.range_eq_range', List.range_eq_range']
      have e1 : N = n + (N - n) := by omega
      have e2 : N - n = (N - (n + 1)) + 1 := by omega
      conv => lhs; rw [e1, ← List.range'_append_1, Nat.zero_add, e2, List.range'_succ]
    rw [split, List.flatMap_append, List.flatMap_cons] at ih ⊢
    have z1 : (List.range n).flatMap (grp P) = [] := List.flatMap_eq_nil_iff.2 fun k hk => hz k (by have := List.mem_range.1 hk; omega)
    have z2 : (List.range n).flatMap (grp ((v, n) :: P)) = [] := List.flatMap_eq_nil_iff.2 fun k hk => by
      have := List.mem_range.1 hk
      rw [hg, if_neg (by omega), hz k (by omega)]; rfl
    have z3 : (List.range' (n + 1) (N - (n + 1))).flatMap (grp ((v, n) :: P)) = (List.range' (n + 1) (N - (n + 1))).flatMap (grp P) := by
      rw [List.flatMap_def, List.flatMap_def]
      congr 1
      refine List.map_congr_left fun k hk => ?_
      rw [hg, if_neg (by have := (List.mem_range'_1.1 hk).1; omega)]; rfl
    rw [z1, hz n (Nat.le_refl _), List.nil_append, List.nil_append] at ih
    rw [z2, z3, hg, if_pos rfl, hz n (Nat.le_refl _), ih]
    simp
theorem norm_list (l : List Ev) : normV l = (List.range (normV l).length).map fun k => sortV (grp (prs l l.length) k) := by
  apply List.ext_getElem?
  intro k
  rw [List.getElem?_map]
  by_cases h : k < (normV l).length
  · rw [List.getElem?_range h]
    have h2 := norm_get l k
    rw [List.getElem?_eq_getElem h] at h2 ⊢
    by_cases e : grp (prs l l.length) k = []
    · rw [if_pos e] at h2; cases h2
    · rw [if_neg e] at h2; exact h2
  · rw [List.getElem?_eq_none (by omega), List.getElem?_eq_none (by simp; omega)]; rfl
theorem perm_one {α : Type} {l m : List α} (h : l.Perm m) (h1 : m.length ≤ 1) : l = m := by
  match m, h1 with
  | [], _ => exact List.perm_nil.1 h
  | [x], _ => exact List.perm_singleton.1 h
/-- Events that are dependent on one another stand in the normal form in their order. -/
theorem norm_proj {l : List Ev} (Q : List Int → Bool) (hQ : ∀ (i j : Nat) (x y : Ev), i < j → l[i]? = some x → l[j]? = some y → Q x.val = true → Q y.val = true → x.dep y = true) : (normV l).flatten.filter Q = (l.map Ev.val).filter Q := by
  let P := (prs l l.length).filter fun q => Q q.1
  have hP : P.Pairwise (fun a b => a.2 < b.2) := by
    have h1 : ((List.range l.length).filter fun i => Q (((l[i]?).map Ev.val).getD [])).Pairwise (fun i j => lv l i < lv l j) := by
      have h0 : ((List.range l.length).filter fun i => Q (((l[i]?).map Ev.val).getD [])).Pairwise (fun i j => i < j) := List.Pairwise.filter _ List.pairwise_lt_range
      refine List.Pairwise.imp_of_mem (fun {i j} hi hj hij => ?_) h0
      have hi := List.mem_filter.1 hi
      have hj := List.mem_filter.1 hj
      obtain ⟨x, hx⟩ : ∃ x, l[i]? = some x := ⟨_, List.getElem?_eq_getElem (List.mem_range.1 hi.1)⟩
      obtain ⟨y, hy⟩ : ∃ y, l[j]? = some y := ⟨_, List.getElem?_eq_getElem (List.mem_range.1 hj.1)⟩
      have hd := hQ i j x y hij hx hy (by simpa [hx] using hi.2) (by simpa [hy] using hj.2)
      rw [lv_eq l j]
      exact sup_le j hij (by rw [depAt_of hx hy]; exact hd)
    show ((prs l l.length).filter fun q => Q q.1).Pairwise _
    unfold prs
    rw [List.filter_map]
    exact List.pairwise_map.2 h1
  have hN : ∀ q ∈ P, q.2 < (normV l).length := by
    intro q hq
    have hq0 := (List.mem_filter.1 hq).1
    rcases Nat.lt_or_ge q.2 (normV l).length with h | h
    · exact h
    · have h2 := norm_get l q.2
      rw [List.getElem?_eq_none h] at h2
      have hne : grp (prs l l.length) q.2 ≠ [] := fun e => by
        have : q.1 ∈ grp (prs l l.length) q.2 := List.mem_map.2 ⟨q, List.mem_filter.2 ⟨hq0, by simp⟩, rfl⟩
        rw [e] at this; cases this
      rw [if_neg hne] at h2; cases h2
  have hflat := flat_grp P _ hP hN
  have hcell : ∀ k, (sortV (grp (prs l l.length) k)).filter Q = grp P k := fun k => by
    have e : (grp (prs l l.length) k).filter Q = grp P k := by
      unfold grp
      rw [List.filter_map, List.filter_filter]
      show _ = List.map _ (List.filter _ (List.filter _ _))
      rw [List.filter_filter]
      congr 2
      funext q
      simp [Bool.and_comm]
    rw [← e]
    refine perm_one ((sortV_perm _).filter Q) ?_
    rw [e]
    have hk : (P.filter fun q => decide (q.2 = k)).Pairwise (fun a b => a.2 < b.2) := hP.filter _
    unfold grp
    rw [List.length_map]
    have hall : ∀ q ∈ P.filter (fun q => decide (q.2 = k)), q.2 = k := fun q hq => by simpa using (List.mem_filter.1 hq).2
    generalize P.filter (fun q => decide (q.2 = k)) = R at hk hall
    match R, hk, hall with
    | [], _, _ => exact Nat.zero_le _
    | [_], _, _ => exact Nat.le_refl _
    | a :: b :: r, hk, hall =>
      have h1 := (List.pairwise_cons.1 hk).1 b (by simp)
      have h2 := hall a (by simp)
      have h3 := hall b (by simp)
      omega
  have e1 : (normV l).flatten.filter Q = (List.range (normV l).length).flatMap (grp P) := by
    conv => lhs; rw [norm_list l]
    rw [← List.flatMap_def, List.filter_flatMap, List.flatMap_def, List.flatMap_def]
    congr 1
    exact List.map_congr_left fun k _ => hcell k
  rw [e1, hflat]
  have e2 : (prs l l.length).map (·.1) = l.map Ev.val := by
    unfold prs
    rw [List.map_map]
    apply List.ext_getElem?
    intro i
    by_cases h : i < l.length
    · simp [h]
    · rw [List.getElem?_eq_none (by simp; omega), List.getElem?_eq_none (by simp; omega)]
  rw [← e2, List.filter_map]
  rfl
end Go.Proofs.Ytneimfacccgaeaa
