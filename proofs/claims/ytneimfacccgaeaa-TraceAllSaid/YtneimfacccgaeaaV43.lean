/- All orders of a list: different, as many as Count says, and just the lists of the same normal form. Own text. -/
import Derived.Test.YtneimfacccgaeaaV41
import Derived.Test.YtneimfacccgaeaaV29
import Derived.Test.YtneimfacccgaeaaV25
namespace Go.Proofs.Ytneimfacccgaeaa
open Go.RowKit Go.Flow Go.Mem Go.Sep

/-! ### how many -/
def fct : Nat → Nat
  | 0 => 1
  | n + 1 => (n + 1) * fct n
theorem flat_le {α β : Type} {f : α → List β} {M : Nat} : ∀ {L : List α}, (∀ j ∈ L, (f j).length ≤ M) → (L.flatMap f).length ≤ L.length * M
  | [], _ => by simp
  | a :: L, h => by
    have h1 := h a (List.mem_cons_self ..)
    have h2 := flat_le (L := L) fun j hj => h j (List.mem_cons_of_mem _ hj)
    rw [List.flatMap_cons, List.length_append, List.length_cons, Nat.add_mul, Nat.one_mul]
    omega
theorem nxt_nodup (l : List Ev) (u : List Nat) : (nxt l u).Nodup := (nxt_sorted l u).imp fun h => Nat.ne_of_lt h
theorem nxt_len {l : List Ev} {u : List Nat} (hu : Rch l u) : (nxt l u).length ≤ l.length - u.length := by
  have hn : (u ++ nxt l u).Nodup := List.nodup_append.2 ⟨hu.nodup, nxt_nodup l u, fun a ha b hb e => by
    subst e
    exact (mem_nxt.1 hb).2.1 ha⟩
  have := sub_range_len (n := l.length) hn fun j hj => (List.mem_append.1 hj).elim (hu.lt j) (fun h => (mem_nxt.1 h).1)
  rw [List.length_append] at this
  omega
theorem allC_len {l : List Ev} : ∀ (k : Nat) (u : List Nat), Rch l u → l.length - u.length = k → (allC l k u).length ≤ fct k
  | 0, u, _, _ => Nat.le_refl _
  | k + 1, u, hu, hk => by
    have h1 : (allC l (k + 1) u).length ≤ (nxt l u).length * fct k := flat_le fun j hj => allC_len k (u ++ [j]) (.snoc hu hj) (by rw [List.length_append, List.length_singleton]; omega)
    have h2 := nxt_len hu
    rw [hk] at h2
    exact Nat.le_trans h1 (Nat.mul_le_mul_right _ h2)
theorem ords_len5 {l : List Ev} (h : l.length ≤ 5) : (ords l []).length ≤ 120 := by
  have h1 := allC_len l.length [] Rch.nil (l := l) rfl
  have h2 : fct l.length ≤ 120 := by
    have : l.length = 0 ∨ l.length = 1 ∨ l.length = 2 ∨ l.length = 3 ∨ l.length = 4 ∨ l.length = 5 := by omega
    rcases this with h | h | h | h | h | h <;> rw [h] <;> decide
  exact Nat.le_trans h1 h2

/-! ### the count -/
def bts : List Nat → Nat
  | [] => 0
  | j :: u => 2 ^ j + bts u
theorem bts_snoc (j : Nat) : ∀ u : List Nat, bts (u ++ [j]) = bts u + 2 ^ j
  | [] => by simp [bts]
  | x :: u => by
    have := bts_snoc j u
    show 2 ^ x + bts (u ++ [j]) = 2 ^ x + bts u + 2 ^ j
    omega
theorem bts_bit {l : List Ev} {u : List Nat} (h : Rch l u) : ∀ i, (bts u).testBit i = u.contains i := by
  induction h with
  | nil => intro i; simp [bts]
  | @snoc u j _ hj ih =>
    intro i
    have hb : (bts u).testBit j = false := by rw [ih]; simpa using (mem_nxt.1 hj).2.1
    rw [bts_snoc, ← or_pow hb, Nat.testBit_or, ih, Nat.testBit_two_pow]
    by_cases e : j = i
    · subst e; simp
    · have e2 : ¬ i = j := fun h => e h.symm
      simp [e, e2]
theorem bts_lt {l : List Ev} {u : List Nat} (h : Rch l u) : bts u < 2 ^ l.length := Nat.lt_pow_two_of_testBit _ fun i hi => by
  rw [bts_bit h]
  cases hc : u.contains i
  · rfl
  · have := h.lt i (by simpa using hc); omega
theorem Rch.full {l : List Ev} {u : List Nat} (h : Rch l u) (hl : u.length = l.length) {j : Nat} (hj : j < l.length) : j ∈ u := by
  apply Classical.byContradiction
  intro hn
  have := sub_range_len (u := j :: u) (n := l.length) (List.nodup_cons.2 ⟨hn, h.nodup⟩) fun x hx => (List.mem_cons.1 hx).elim (fun e => by rw [e]; exact hj) (h.lt x)
  rw [List.length_cons] at this
  omega
theorem bts_full {l : List Ev} {u : List Nat} (h : Rch l u) : bts u = 2 ^ l.length - 1 ↔ u.length = l.length := by
  constructor
  · intro e
    have hall : ∀ j ∈ List.range l.length, j ∈ u := fun j hj => by
      have := bts_bit h j
      rw [e, Nat.testBit_two_pow_sub_one, decide_eq_true (List.mem_range.1 hj)] at this
      simpa using this.symm
    have := len_le_of_sub List.nodup_range hall
    rw [List.length_range] at this
    have := h.len
    omega
  · intro e
    apply Nat.eq_of_testBit_eq
    intro i
    rw [bts_bit h, Nat.testBit_two_pow_sub_one]
    by_cases hi : i < l.length
    · rw [decide_eq_true hi]; simpa using h.full e hi
    · rw [decide_eq_false hi]
      cases hc : u.contains i
      · rfl
      · exact (hi (h.lt i (by simpa using hc))).elim
theorem okj_okU {l : List Ev} {u : List Nat} (h : Rch l u) (j : Nat) : okj l (bts u) j = okU l u j := by
  unfold okj okU
  simp only [bts_bit h]
theorem sumR_filter (p : Nat → Bool) (g : Nat → Nat) : ∀ n, sumR (fun j => if p j then g j else 0) n = (((List.range n).filter p).map g).sum
  | 0 => rfl
  | n + 1 => by
    rw [sumR_succ, sumR_filter p g n, filter_range_succ, List.map_append, List.sum_append]
    cases h : p n <;> simp
theorem B_ords {l : List Ev} : ∀ (k : Nat) (u : List Nat), Rch l u → l.length - u.length = k → B l (bts u) = (allC l k u).length
  | 0, u, hu, hk => by
    have := hu.len
    rw [(bts_full hu).2 (by omega), B_full]; rfl
  | k + 1, u, hu, hk => by
    rw [B_step l (bts_lt hu) (fun e => by have := (bts_full hu).1 e; omega)]
    have e : sumR (fun j => if okj l (bts u) j then B l (bts u + 2 ^ j) else 0) l.length = sumR (fun j => if okU l u j then (allC l k (u ++ [j])).length else 0) l.length := sumR_congr _ fun j hj => by
      rw [okj_okU hu]
      by_cases ho : okU l u j = true
      · rw [if_pos ho, if_pos ho, ← bts_snoc]
        exact B_ords k (u ++ [j]) (.snoc hu (by unfold nxt; exact List.mem_filter.2 ⟨List.mem_range.2 hj, ho⟩)) (by rw [List.length_append, List.length_singleton]; omega)
      · rw [if_neg ho, if_neg ho]
    rw [e, sumR_filter]
    show _ = ((nxt l u).flatMap fun j => allC l k (u ++ [j])).length
    rw [List.length_flatMap]; rfl
theorem cnt_ords {l : List Ev} (h : l.length ≤ 5) : cntV l = (ords l []).length := by
  have h1 := ords_len5 h
  have h2 := B_ords l.length [] Rch.nil (l := l) rfl
  have h3 : B l 0 = (ords l []).length := h2
  rw [cnt_B, h3]
  exact Nat.mod_eq_of_lt (by show _ < 18446744073709551616; omega)

/-! ### all different -/
theorem valAt_comp {l : List Ev} {i j : Nat} {x y : Ev} (hx : l[i]? = some x) (hy : l[j]? = some y) (h : x.val = y.val) : depAt l i j = true := by
  rw [depAt_of hx hy, dep_iff]
  exact .inl ((val_eq x y).1 h).2.1
theorem nxt_inj {l : List Ev} {u : List Nat} {i j : Nat} (hi : i ∈ nxt l u) (hj : j ∈ nxt l u) (h : ((l[i]?).map Ev.val).getD [] = ((l[j]?).map Ev.val).getD []) : i = j := by
  obtain ⟨h1, h2, h3⟩ := mem_nxt.1 hi
  obtain ⟨k1, k2, k3⟩ := mem_nxt.1 hj
  obtain ⟨x, hx⟩ := ex_at h1
  obtain ⟨y, hy⟩ := ex_at k1
  rw [hx, hy] at h
  have hv : x.val = y.val := h
  rcases Nat.lt_trichotomy i j with e | e | e
  · rcases k3 i e with h4 | h4
    · exact (h2 h4).elim
    · rw [valAt_comp hx hy hv] at h4; cases h4
  · exact e
  · rcases h3 j e with h4 | h4
    · exact (k2 h4).elim
    · rw [valAt_comp hy hx hv.symm] at h4; cases h4
theorem valsO_inj {l : List Ev} {o o' : List Nat} (h : Rch l o) (h' : Rch l o') (e : valsO l o = valsO l o') : o = o' := by
  induction h generalizing o' with
  | nil =>
    have := congrArg List.length e
    simp only [valsO, List.map_nil, List.length_nil, List.length_map] at this
    exact (List.length_eq_zero_iff.1 this.symm).symm
  | @snoc u j hu hj ih =>
    cases h' with
    | nil => have := congrArg List.length e; simp [valsO] at this
    | @snoc u' j' hu' hj' =>
      unfold valsO at e
      rw [List.map_append, List.map_append] at e
      obtain ⟨e1, e2⟩ := List.append_inj' e rfl
      have e3 := ih hu' e1
      subst e3
      simp only [List.map_cons, List.map_nil, List.cons.injEq, and_true] at e2
      rw [nxt_inj hj hj' e2]
theorem allC_pre {l : List Ev} : ∀ (k : Nat) (u : List Nat), ∀ o ∈ allC l k u, u <+: o
  | 0, u, o, h => by rw [List.mem_singleton.1 h]; exact List.prefix_refl _
  | k + 1, u, o, h => by
    obtain ⟨j, _, h⟩ := List.mem_flatMap.1 h
    exact (List.prefix_append u [j]).trans (allC_pre k (u ++ [j]) o h)
theorem allC_nodup {l : List Ev} : ∀ (k : Nat) (u : List Nat), (allC l k u).Pairwise (· ≠ ·)
  | 0, u => List.pairwise_singleton _ _
  | k + 1, u => by
    show ((nxt l u).flatMap fun j => allC l k (u ++ [j])).Pairwise (· ≠ ·)
    rw [List.pairwise_flatMap]
    refine ⟨fun j _ => allC_nodup k _, (nxt_sorted l u).imp fun {i j} hij x hx y hy e => ?_⟩
    subst e
    obtain ⟨r, hr⟩ := allC_pre k _ x hx
    obtain ⟨r', hr'⟩ := allC_pre k _ x hy
    have h1 : x[u.length]? = some i := by rw [← hr]; simp
    have h2 : x[u.length]? = some j := by rw [← hr']; simp
    rw [h1] at h2
    have := Option.some.inj h2
    omega
theorem ords_diff {l : List Ev} {i j : Nat} {o o' : List Nat} (hi : (ords l [])[i]? = some o) (hj : (ords l [])[j]? = some o') (hne : i < j) : ¬ valsO l o = valsO l o' := fun e => by
  have h1 := valsO_inj (ords_rch (List.mem_of_getElem? hi)).1 (ords_rch (List.mem_of_getElem? hj)).1 e
  obtain ⟨a1, a2⟩ := List.getElem?_eq_some_iff.1 hi
  obtain ⟨b1, b2⟩ := List.getElem?_eq_some_iff.1 hj
  exact (List.pairwise_iff_getElem.1 (allC_nodup l.length [])) i j a1 b1 hne (by show (ords l [])[i] = (ords l [])[j]; rw [a2, b2, h1])

/-! ### their normal form -/
theorem Rch.at_ {l : List Ev} {o : List Nat} (h : Rch l o) : ∀ (k x : Nat), o[k]? = some x → x ∈ nxt l (o.take k) := by
  induction h with
  | nil => intro k x hx; simp at hx
  | @snoc u j hu hj ih =>
    intro k x hx
    rw [List.getElem?_append] at hx
    split at hx
    · rename_i hk
      rw [List.take_append_of_le_length (by omega)]
      exact ih k x hx
    · rename_i hk
      have hk0 : k - u.length = 0 := by
        rcases Nat.eq_zero_or_pos (k - u.length) with h' | h'
        · exact h'
        · rw [List.getElem?_eq_none (by simp; omega)] at hx; cases hx
      rw [hk0] at hx
      simp only [List.getElem?_cons_zero, Option.some.injEq] at hx
      subst hx
      rw [List.take_append_of_le_length (by omega), List.take_of_length_le (by omega)]
      exact hj
theorem sup_eq {p q : Nat → Bool} {f g : Nat → Nat} {n m : Nat} (h1 : ∀ i, i < n → p i = true → ∃ j, j < m ∧ q j = true ∧ g j = f i) (h2 : ∀ j, j < m → q j = true → ∃ i, i < n ∧ p i = true ∧ f i = g j) : sup p f n = sup q g m := by
  apply Nat.le_antisymm
  · rcases sup_is (p := p) (f := f) n with h | ⟨i, hi, hp, he⟩
    · omega
    · obtain ⟨j, hj, hq, e⟩ := h1 i hi hp
      have := sup_le (f := g) m hj hq
      omega
  · rcases sup_is (p := q) (f := g) m with h | ⟨j, hj, hq, he⟩
    · omega
    · obtain ⟨i, hi, hp, e⟩ := h2 j hj hq
      have := sup_le (f := f) n hi hp
      omega
section
variable {l E : List Ev} {o : List Nat}
theorem ovals_at (hE : E.map Ev.val = valsO l o) (ho : Rch l o) {k x : Nat} (hx : o[k]? = some x) : ∃ e y, E[k]? = some e ∧ l[x]? = some y ∧ e.val = y.val := by
  obtain ⟨y, hy⟩ := ex_at (ho.lt x (List.mem_of_getElem? hx))
  have h1 : (E.map Ev.val)[k]? = some y.val := by rw [hE]; simp [valsO, hx, hy]
  rw [List.getElem?_map] at h1
  cases he : E[k]? with
  | none => rw [he] at h1; cases h1
  | some e => rw [he] at h1; exact ⟨e, y, rfl, hy, Option.some.inj h1⟩
theorem dep_order (hE : E.map Ev.val = valsO l o) (ho : Rch l o) {i k x z : Nat} (hx : o[i]? = some x) (hz : o[k]? = some z) : depAt E i k = depAt l x z := by
  obtain ⟨e, y, h1, h2, h3⟩ := ovals_at hE ho hx
  obtain ⟨e', y', k1, k2, k3⟩ := ovals_at hE ho hz
  rw [depAt_of h1 k1, depAt_of h2 k2, dep_val h3 k3]
theorem lv_order (hE : E.map Ev.val = valsO l o) (ho : Rch l o) : ∀ k x, o[k]? = some x → lv E k = lv l x := by
  intro k
  induction k using Nat.strongRecOn with
  | _ k ih =>
    intro x hx
    have hkl := (List.getElem?_eq_some_iff.1 hx).1
    obtain ⟨_, hxu, hxd⟩ := mem_nxt.1 (ho.at_ k x hx)
    rw [lv_eq E k, lv_eq l x]
    refine sup_eq ?_ ?_
    · intro i hi hd
      have hil : o[i]? = some (o[i]'(by omega)) := List.getElem?_eq_getElem _
      generalize o[i]'(by omega) = z at hil
      rw [dep_order hE ho hil hx] at hd
      refine ⟨z, ?_, hd, (ih i hi z hil).symm⟩
      rcases Nat.lt_trichotomy z x with h | h | h
      · exact h
      · exfalso
        subst h
        exact hxu (List.mem_of_getElem? (i := i) (by rw [List.getElem?_take, if_pos hi]; exact hil))
      · exfalso
        obtain ⟨_, hzu, hzd⟩ := mem_nxt.1 (ho.at_ i z hil)
        rcases hzd x h with h4 | h4
        · obtain ⟨k', hk'⟩ := List.mem_iff_getElem?.1 h4
          rw [List.getElem?_take] at hk'
          split at hk'
          · rename_i hlt
            have hnd := ho.nodup
            have e1 := (List.getElem?_eq_some_iff.1 hk')
            have e2 := (List.getElem?_eq_some_iff.1 hx)
            have := (List.pairwise_iff_getElem.1 (List.nodup_iff_pairwise_ne.1 hnd)) k' k e1.1 e2.1 (by omega)
            exact this (by rw [e1.2, e2.2])
          · cases hk'
        · rw [depAt_comm, hd] at h4; cases h4
    · intro j hj hd
      rcases hxd j hj with h | h
      · obtain ⟨i, hi⟩ := List.mem_iff_getElem?.1 h
        rw [List.getElem?_take] at hi
        split at hi
        · rename_i hlt
          exact ⟨i, hlt, by rw [dep_order hE ho hi hx]; exact hd, ih i hlt j hi⟩
        · cases hi
      · rw [hd] at h; cases h
theorem norm_order (hE : E.map Ev.val = valsO l o) (ho : Rch l o) (hl : o.length = l.length) : normV E = normV l := by
  have hEl : E.length = o.length := by have := congrArg List.length hE; simpa [valsO] using this
  refine norm_perm ?_
  have e1 : prs E E.length = o.map fun j => (((l[j]?).map Ev.val).getD [], lv l j) := by
    unfold prs
    apply List.ext_getElem?
    intro k
    rw [List.getElem?_map, List.getElem?_map]
    rcases Nat.lt_or_ge k o.length with h | h
    · have hx : o[k]? = some o[k] := List.getElem?_eq_getElem h
      generalize o[k] = x at hx
      obtain ⟨e, y, h1, h2, h3⟩ := ovals_at hE ho hx
      rw [List.getElem?_range (by omega), hx]
      simp [h1, h2, h3, lv_order hE ho k x hx]
    · rw [List.getElem?_eq_none (by simp; omega), List.getElem?_eq_none h]; rfl
  rw [e1]
  have hp : o.Perm (List.range l.length) := (List.perm_ext_iff_of_nodup ho.nodup List.nodup_range).2 fun j => by
    rw [List.mem_range]
    exact ⟨ho.lt j, ho.full hl⟩
  exact hp.map _
end

/-! ### and no others -/
def valAt (l : List Ev) (i : Nat) : List Int := ((l[i]?).map Ev.val).getD []
def restP (l : List Ev) (u : List Nat) : List Nat := (List.range l.length).filter fun i => !u.contains i
def Qp (x z : Ev) (v : List Int) : Bool := decide (v = x.val) || decide (v = z.val)
theorem first_split {l : List Ev} {v : List Int} : ∀ {R : List Nat}, (∃ i ∈ R, valAt l i = v) → ∃ R1 j R2, R = R1 ++ j :: R2 ∧ valAt l j = v ∧ ∀ i ∈ R1, valAt l i ≠ v
  | [], h => by obtain ⟨i, hi, _⟩ := h; simp at hi
  | a :: R, h => by
    by_cases e : valAt l a = v
    · exact ⟨[], a, R, rfl, e, by simp⟩
    · obtain ⟨i, hi, hv⟩ := h
      obtain ⟨R1, j, R2, h1, h2, h3⟩ := first_split (l := l) (v := v) (R := R) ⟨i, (List.mem_cons.1 hi).resolve_left (fun e' => e (by rw [← e']; exact hv)), hv⟩
      refine ⟨a :: R1, j, R2, by rw [h1]; rfl, h2, fun i hi => ?_⟩
      rcases List.mem_cons.1 hi with rfl | hi
      · exact e
      · exact h3 i hi
theorem order_step {l : List Ev} {u : List Nat} {y : Ev} {ms : List (List Int)} (h : ∀ x z : Ev, x.dep z = true → ((restP l u).map (valAt l)).filter (Qp x z) = (y.val :: ms).filter (Qp x z)) :
    ∃ j, j ∈ nxt l u ∧ valAt l j = y.val ∧ ∀ x z : Ev, x.dep z = true → ((restP l (u ++ [j])).map (valAt l)).filter (Qp x z) = ms.filter (Qp x z) := by
  have hyy := h y y (dep_self y)
  have hqy : Qp y y y.val = true := by simp [Qp]
  obtain ⟨R1, j, R2, hR, hjv, hR1⟩ : ∃ R1 j R2, restP l u = R1 ++ j :: R2 ∧ valAt l j = y.val ∧ ∀ i ∈ R1, valAt l i ≠ y.val := by
    refine first_split ?_
    have : y.val ∈ ((restP l u).map (valAt l)).filter (Qp y y) := by rw [hyy, List.filter_cons_of_pos hqy]; exact List.mem_cons_self ..
    obtain ⟨i, hi, e⟩ := List.mem_map.1 (List.mem_filter.1 this).1
    exact ⟨i, hi, e⟩
  have hsort : (R1 ++ j :: R2).Pairwise (· < ·) := by rw [← hR]; exact List.pairwise_lt_range.filter _
  have hjR : j ∈ restP l u := by rw [hR]; simp
  have hj1 : j < l.length ∧ j ∉ u := by
    have := List.mem_filter.1 hjR
    exact ⟨List.mem_range.1 this.1, by simpa using this.2⟩
  have key : ∀ x z : Ev, x.dep z = true → Qp x z y.val = true → (R1.map (valAt l)).filter (Qp x z) = [] ∧ (R2.map (valAt l)).filter (Qp x z) = ms.filter (Qp x z) := by
    intro x z hd hq
    have e := h x z hd
    rw [hR, List.map_append, List.map_cons, hjv, List.filter_append, List.filter_cons_of_pos hq, List.filter_cons_of_pos hq] at e
    cases hf : (R1.map (valAt l)).filter (Qp x z) with
    | nil => rw [hf] at e; exact ⟨rfl, (List.cons.inj e).2⟩
    | cons a r =>
      exfalso
      rw [hf] at e
      have ha : a = y.val := (List.cons.inj e).1
      have hm : a ∈ (R1.map (valAt l)).filter (Qp x z) := by rw [hf]; exact List.mem_cons_self ..
      obtain ⟨i, hi, e2⟩ := List.mem_map.1 (List.mem_filter.1 hm).1
      exact hR1 i hi (e2.trans ha)
  have hrest : restP l (u ++ [j]) = R1 ++ R2 := by
    have e1 : restP l (u ++ [j]) = (restP l u).filter (fun i => decide (i ≠ j)) := by
      unfold restP
      rw [List.filter_filter]
      refine List.filter_congr fun i _ => ?_
      by_cases e : i = j
      · subst e; simp
      · simp [e]
    rw [e1, hR, List.filter_append, List.filter_cons_of_neg (by simp)]
    rw [List.pairwise_append, List.pairwise_cons] at hsort
    congr 1
    · exact List.filter_eq_self.2 fun i hi => by
        have := hsort.2.2 i hi j (List.mem_cons_self ..)
        simpa using Nat.ne_of_lt this
    · exact List.filter_eq_self.2 fun i hi => by
        have := hsort.2.1.1 i hi
        simpa using Nat.ne_of_gt this
  refine ⟨j, mem_nxt.2 ⟨hj1.1, hj1.2, fun i hi => ?_⟩, hjv, fun x z hd => ?_⟩
  · by_cases hiu : i ∈ u
    · exact .inl hiu
    · cases hd : depAt l i j
      · exact .inr rfl
      · exfalso
        obtain ⟨xi, hxi⟩ := ex_at (l := l) (i := i) (by omega)
        obtain ⟨xj, hxj⟩ := ex_at hj1.1
        rw [depAt_of hxi hxj] at hd
        have hq : Qp xi xj y.val = true := by
          have : xj.val = y.val := by rw [← hjv]; simp [valAt, hxj]
          simp [Qp, this]
        have h0 := (key xi xj hd hq).1
        have hiR : i ∈ restP l u := List.mem_filter.2 ⟨List.mem_range.2 (by omega), by simpa using hiu⟩
        have hi1 : i ∈ R1 := by
          rw [hR] at hiR
          rw [List.pairwise_append, List.pairwise_cons] at hsort
          rcases List.mem_append.1 hiR with h1 | h1
          · exact h1
          · rcases List.mem_cons.1 h1 with h2 | h2
            · omega
            · have := hsort.2.1.1 i h2; omega
        have hm : xi.val ∈ (R1.map (valAt l)).filter (Qp xi xj) := List.mem_filter.2 ⟨List.mem_map.2 ⟨i, hi1, by simp [valAt, hxi]⟩, by simp [Qp]⟩
        rw [h0] at hm
        simp at hm
  · rw [hrest, List.map_append, List.filter_append]
    cases hq : Qp x z y.val
    · have e := h x z hd
      rw [hR, List.map_append, List.map_cons, hjv, List.filter_append, List.filter_cons_of_neg (by simp [hq]), List.filter_cons_of_neg (by simp [hq])] at e
      exact e
    · obtain ⟨h1, h2⟩ := key x z hd hq
      rw [h1, h2]; rfl
theorem order_of {l : List Ev} : ∀ (m : List Ev) (u : List Nat), Rch l u → (∀ x z : Ev, x.dep z = true → ((restP l u).map (valAt l)).filter (Qp x z) = (m.map Ev.val).filter (Qp x z)) → ∃ v, Rch l (u ++ v) ∧ v.length = m.length ∧ valsO l v = m.map Ev.val
  | [], u, hu, _ => ⟨[], by simpa using hu, rfl, rfl⟩
  | y :: m, u, hu, h => by
    obtain ⟨j, hj, hv, h2⟩ := order_step (y := y) (ms := m.map Ev.val) h
    obtain ⟨v, h3, h4, h5⟩ := order_of m (u ++ [j]) (.snoc hu hj) h2
    refine ⟨j :: v, by rw [List.append_assoc] at h3; exact h3, by simp [h4], ?_⟩
    show valAt l j :: valsO l v = _
    rw [hv, h5]; rfl
theorem Rch.pre {l : List Ev} (v u : List Nat) (h : Rch l (u ++ v)) : Rch l u := by
  generalize e : u ++ v = w at h
  induction h generalizing u v with
  | nil =>
    have := (List.append_eq_nil_iff.1 e).1
    rw [this]; exact .nil
  | @snoc w j hw hj ih =>
    rcases Nat.eq_zero_or_pos v.length with h0 | h0
    · have hv := List.length_eq_zero_iff.1 h0
      subst hv
      rw [List.append_nil] at e
      rw [e]; exact .snoc hw hj
    · obtain ⟨v', x, rfl⟩ := snoc_of h0
      rw [← List.append_assoc] at e
      exact ih v' u (List.append_inj' e rfl).1
theorem mem_allC {l : List Ev} : ∀ (v u : List Nat), Rch l (u ++ v) → u ++ v ∈ allC l v.length u
  | [], u, _ => by simp [allC]
  | j :: v, u, h => by
    have h1 : Rch l ((u ++ [j]) ++ v) := by rw [List.append_assoc]; exact h
    have h2 := (Rch.pre v (u ++ [j]) h1).front.2
    show u ++ j :: v ∈ (nxt l u).flatMap fun x => allC l v.length (u ++ [x])
    refine List.mem_flatMap.2 ⟨j, h2, ?_⟩
    have := mem_allC v (u ++ [j]) h1
    rw [List.append_assoc] at this
    exact this
theorem mem_ords {l : List Ev} {o : List Nat} (h : Rch l o) (hl : o.length = l.length) : o ∈ ords l [] := by
  have := mem_allC o [] (by simpa using h)
  unfold ords
  rw [List.length_nil, Nat.sub_zero, ← hl]
  simpa using this
theorem rest_nil (l : List Ev) : (restP l []).map (valAt l) = l.map Ev.val := by
  unfold restP
  rw [List.filter_eq_self.2 (by simp)]
  apply List.ext_getElem?
  intro k
  rw [List.getElem?_map, List.getElem?_map]
  rcases Nat.lt_or_ge k l.length with h | h
  · rw [List.getElem?_range h, List.getElem?_eq_getElem h]; simp [valAt, h]
  · rw [List.getElem?_eq_none (by simpa using h), List.getElem?_eq_none h]; rfl
theorem Qp_dep {x z : Ev} (hd : x.dep z = true) (l : List Ev) : ∀ (i j : Nat) (a b : Ev), i < j → l[i]? = some a → l[j]? = some b → Qp x z a.val = true → Qp x z b.val = true → a.dep b = true := by
  intro i j a b _ _ _ h1 h2
  have h1 : a.val = x.val ∨ a.val = z.val := by simpa [Qp] using h1
  have h2 : b.val = x.val ∨ b.val = z.val := by simpa [Qp] using h2
  rcases h1 with h1 | h1 <;> rcases h2 with h2 | h2 <;> rw [dep_val h1 h2]
  · exact dep_self x
  · exact hd
  · rw [dep_comm]; exact hd
  · exact dep_self z
/-- **A list is equivalent just if it is one of the orders.** -/
theorem norm_iff {l m : List Ev} (hl : m.length = l.length) : normV l = normV m ↔ ∃ o ∈ ords l [], valsO l o = m.map Ev.val := by
  constructor
  · intro e
    obtain ⟨v, h1, h2, h3⟩ := order_of (l := l) m [] .nil fun x z hd => by
      rw [rest_nil, ← norm_proj (Qp x z) (Qp_dep hd l), ← norm_proj (Qp x z) (Qp_dep hd m), e]
    exact ⟨v, mem_ords (by simpa using h1) (by omega), h3⟩
  · rintro ⟨o, ho, hv⟩
    obtain ⟨h1, h2⟩ := ords_rch ho
    exact (norm_order hv.symm h1 h2).symm
end Go.Proofs.Ytneimfacccgaeaa
