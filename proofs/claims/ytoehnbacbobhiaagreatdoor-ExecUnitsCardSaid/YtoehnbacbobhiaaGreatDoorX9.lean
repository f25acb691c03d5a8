/- What a verified unit keeps to: the heights of the stack. Plain facts. Own text. -/
import Derived.Test.YtoehnbacbobhiaaGreatDoorX8
set_option linter.unusedVariables false
set_option linter.unusedSimpArgs false
namespace Go.Proofs.YtoehnbacbobhiaaGreatDoor
open Go.Sep
def leH (h h' : List Int) : Prop := h'.length = h.length ∧ ∀ (j : Nat) (y : Int), h[j]? = some y → 0 ≤ y → h'[j]? = some y
theorem leH.refl (h : List Int) : leH h h := ⟨rfl, fun _ _ h _ => h⟩
theorem leH.trans {a b c : List Int} (h : leH a b) (k : leH b c) : leH a c := ⟨k.1.trans h.1, fun j y hj hy => k.2 j y (h.2 j y hj hy) hy⟩
theorem leH_set {h : List Int} {t : Nat} {v y : Int} (hy : h[t]? = some y) (hok : okH y v) : leH h (h.set t v) := by
  refine ⟨List.length_set, fun j z hj hz => ?_⟩
  by_cases e : t = j
  · subst e
    rw [hy] at hj
    obtain rfl := Option.some.inj hj
    rw [List.getElem?_set_self (List.getElem?_eq_some_iff.1 hy).1]
    rcases hok with h1 | h1
    · omega
    · rw [h1]
  · rw [List.getElem?_set_ne e]; exact hj
theorem set_get {h : List Int} {t : Nat} {v : Int} (ht : t < h.length) : (h.set t v)[t]? = some v := List.getElem?_set_self ht
structure OkAt (T : List Int) (tp : Int) (i : Nat) (x : Ins) (m : Int) : Prop where
  here : T[i]? = some m
  pos : 0 ≤ m
  pops : popsN x ≤ m
  top : m ≤ tp
  next : ((x.op : Nat) : Int) ≠ 27 → ((x.op : Nat) : Int) ≠ 34 → T[i + 1]? = some (aftH m x)
  jump : ∀ t, tgt x = some t → T[t.toNat]? = some (aftH m x)
theorem aft_pos {m : Int} {x : Ins} (h : popsN x ≤ m) : 0 ≤ aftH m x := by
  have := pops_bound x.op
  unfold aftH; omega
theorem stepH_spec {pr : Int} {nc : Nat} {h h' : List Int} {top top' : Int} {i : Nat} {x : Ins} (hl : h.length = nc + 1) (hi : i < nc) (hf : formedB pr nc x = true) (hs : stepH h top i x = some (h', top')) :
    leH h h' ∧ top ≤ top' ∧ ∃ m, m = max (h.getD i 0) 0 ∧ ∀ T tp, leH h' T → top' ≤ tp → OkAt T tp i x m := by
  obtain ⟨y, hy⟩ : ∃ z0, h[i]? = some z0 := ⟨h[i]'(by omega), List.getElem?_eq_getElem _⟩
  have hxf := form_facts hf
  unfold stepH at hs
  simp only [getD_of hy] at hs
  obtain ⟨m, hm⟩ : ∃ m, m = max y 0 := ⟨_, rfl⟩
  rw [← hm] at hs
  by_cases hbad : m < popsN x ∨ (((x.op : Nat) : Int) = 34 ∧ m ≠ 0)
  · rw [if_pos hbad] at hs; cases hs
  rw [if_neg hbad] at hs
  obtain ⟨h2, h2e, hs⟩ := Option.bind_eq_some_iff.1 hs
  obtain ⟨h3, h3e, he⟩ := Option.map_eq_some_iff.1 hs
  simp only [Prod.mk.injEq] at he
  obtain ⟨rfl, rfl⟩ := he
  have hpm : popsN x ≤ m := by omega
  have hm0 : 0 ≤ m := by omega
  have hv0 := aft_pos hpm
  have l1 : leH h (h.set i m) := leH_set hy (by unfold okH; omega)
  have e1 : (h.set i m)[i]? = some m := set_get (by omega)
  have l2 : leH (h.set i m) h2 ∧ (((x.op : Nat) : Int) ≠ 27 → ((x.op : Nat) : Int) ≠ 34 → h2[i + 1]? = some (aftH m x)) := by
    unfold nextH at h2e
    by_cases hc : ((x.op : Nat) : Int) ≠ 27 ∧ ((x.op : Nat) : Int) ≠ 34
    · rw [if_pos hc] at h2e
      obtain ⟨y2, hy2⟩ : ∃ z0, (h.set i m)[i + 1]? = some z0 := ⟨(h.set i m)[i + 1]'(by rw [List.length_set]; omega), List.getElem?_eq_getElem _⟩
      rw [getD_of hy2] at h2e
      by_cases hok : okH y2 (aftH m x)
      · rw [if_pos hok] at h2e
        obtain rfl := Option.some.inj h2e
        exact ⟨leH_set hy2 hok, fun _ _ => set_get (by rw [List.length_set]; omega)⟩
      · rw [if_neg hok] at h2e; cases h2e
    · rw [if_neg hc] at h2e
      obtain rfl := Option.some.inj h2e
      exact ⟨leH.refl _, fun a b => absurd ⟨a, b⟩ hc⟩
  have l3 : leH h2 h3 ∧ ∀ t, tgt x = some t → h3[t.toNat]? = some (aftH m x) := by
    unfold jumpH at h3e
    cases ht : tgt x with
    | none =>
      rw [ht] at h3e
      simp only [Option.isSome_none, Bool.false_eq_true, if_false, Option.some.injEq] at h3e
      subst h3e
      exact ⟨leH.refl _, fun t h => by cases h⟩
    | some t =>
      rw [ht] at h3e hxf
      simp only [Option.isSome_some, if_true, Option.getD_some] at h3e hxf
      have hlt : t.toNat < h2.length := by rw [l2.1.1, l1.1, hl]; omega
      obtain ⟨y3, hy3⟩ : ∃ z0, h2[t.toNat]? = some z0 := ⟨h2[t.toNat], List.getElem?_eq_getElem hlt⟩
      rw [getD_of hy3] at h3e
      by_cases hok : okH y3 (aftH m x)
      · rw [if_pos hok] at h3e
        obtain rfl := Option.some.inj h3e
        exact ⟨leH_set hy3 hok, fun t' h => by obtain rfl := Option.some.inj h; exact set_get hlt⟩
      · rw [if_neg hok] at h3e; cases h3e
  refine ⟨(l1.trans l2.1).trans l3.1, by omega, m, by rw [getD_of hy, hm], fun T tp hT htp => ⟨hT.2 i m (l3.1.2 i m (l2.1.2 i m e1 hm0) hm0) hm0, hm0, hpm, by omega, fun a b => hT.2 _ _ (l3.1.2 _ _ (l2.2 a b) hv0) hv0, fun t ht => hT.2 _ _ (l3.2 t ht) hv0⟩⟩
theorem goH_spec {pr : Int} {nc : Nat} : ∀ (r : List Ins) (i : Nat) (h : List Int) (top : Int) (T : List Int) (tp : Int), h.length = nc + 1 → i + r.length = nc → (∀ x ∈ r, formedB pr nc x = true) → goH i r h top = some (T, tp) → leH h T ∧ top ≤ tp ∧ ∀ k x, r[k]? = some x → ∃ m, OkAt T tp (i + k) x m
  | [], i, h, top, T, tp, _, _, _, hg => by
    simp only [goH, Option.some.injEq, Prod.mk.injEq] at hg
    obtain ⟨rfl, rfl⟩ := hg
    exact ⟨leH.refl _, Int.le_refl _, fun k x h => by simp at h⟩
  | y :: r, i, h, top, T, tp, hl, hi, hf, hg => by
    simp only [goH] at hg
    obtain ⟨⟨h', top'⟩, h1, h2⟩ := Option.bind_eq_some_iff.1 hg
    simp only [List.length_cons] at hi
    obtain ⟨a1, a2, m, _, a3⟩ := stepH_spec hl (by omega) (hf y (List.mem_cons_self ..)) h1
    obtain ⟨b1, b2, b3⟩ := goH_spec r (i + 1) h' top' T tp (a1.1.trans hl) (by omega) (fun x hx => hf x (List.mem_cons_of_mem _ hx)) h2
    refine ⟨a1.trans b1, by omega, fun k x hk => ?_⟩
    cases k with
    | zero => obtain rfl := Option.some.inj hk; exact ⟨m, a3 T tp b1 b2⟩
    | succ k =>
      obtain ⟨m', hm'⟩ := b3 k x (by simpa using hk)
      exact ⟨m', by rw [show i + (k + 1) = i + 1 + k from by omega]; exact hm'⟩
theorem verified {pr st : Int} {l : List Ins} (h : verifyV pr st l = 0) : st ≤ 64 ∧ l.length ≤ 4000 ∧ (0 ≤ pr ∧ pr ≤ 4) ∧ (∀ x ∈ l, formedB pr l.length x = true) ∧ ∃ T : List Int, (∀ k x, l[k]? = some x → ∃ m, OkAt T st k x m) ∧ T.length = l.length + 1 ∧ (l = [] ∨ T[0]? = some 0) := by
  unfold verifyV at h
  by_cases h1 : 64 < st ∨ 4000 < l.length
  · rw [if_pos h1] at h; cases h
  rw [if_neg h1] at h
  by_cases h2 : pr < 0 ∨ 4 < pr
  · rw [if_pos h2] at h; cases h
  rw [if_neg h2] at h
  by_cases h3 : ¬ ∀ x ∈ l, formedB pr l.length x = true
  · rw [if_pos h3] at h; cases h
  rw [if_neg h3] at h
  have h3 := Classical.not_not.1 h3
  by_cases h4 : (heightsV l).2 = false ∨ (heightsV l).1 ≠ st
  · rw [if_pos h4] at h; cases h
  refine ⟨by omega, by omega, by omega, h3, ?_⟩
  unfold heightsV at h4
  cases hg : goH 0 l (List.replicate (l.length + 1) (-1)) 0 with
  | none => rw [hg] at h4; simp at h4
  | some p =>
    obtain ⟨T, tp⟩ := p
    rw [hg] at h4
    simp only [not_or, Classical.not_not] at h4
    obtain ⟨b1, b2, b3⟩ := goH_spec (pr := pr) (nc := l.length) l 0 _ 0 T tp (by simp) (by omega) h3 hg
    refine ⟨T, fun k x hk => ?_, by rw [b1.1]; simp, ?_⟩
    · obtain ⟨m, hm⟩ := b3 k x hk
      rw [Nat.zero_add] at hm
      exact ⟨m, by rw [← h4.2]; exact hm⟩
    · cases l with
      | nil => exact .inl rfl
      | cons y r =>
        right
        simp only [goH] at hg
        obtain ⟨⟨h', top'⟩, g1, g2⟩ := Option.bind_eq_some_iff.1 hg
        obtain ⟨a1, a2, m, hm, a3⟩ := stepH_spec (pr := pr) (nc := (y :: r).length) (by simp) (by simp) (h3 y (List.mem_cons_self ..)) g1
        obtain ⟨c1, c2, _⟩ := goH_spec (pr := pr) (nc := (y :: r).length) r (0 + 1) h' top' T tp (a1.1.trans (by simp)) (by simp; omega) (fun x hx => h3 x (List.mem_cons_of_mem _ hx)) g2
        have hm0 : m = 0 := by rw [hm]; simp [List.replicate_succ]; rfl
        rw [← hm0]
        exact (a3 T tp c1 c2).here
end Go.Proofs.YtoehnbacbobhiaaGreatDoor
