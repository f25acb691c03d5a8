/- Valid answers as the reference says. Own text (walks printed by sx.py). -/
import Derived.Test.YtneimfacccgaeaaV8
namespace Go.Proofs.Ytneimfacccgaeaa
open Go.RowKit Go.Flow Go.Mem Go.Sep
theorem arr_iff (a s : Ev) : a.arr s = true ↔ s.rl = 1 ∧ a.rl = 2 ∧ a.key = s.key := by
  unfold Ev.arr Ev.rl Ev.key
  simp only [decide_eq_true_eq]
  by_cases h1 : s.k = 8
  · by_cases h2 : a.k = 8
    · simp [h1, h2]
    · by_cases h3 : a.k = 5 ∨ (a.k = 7 ∧ a.d = 5)
      · simp [h1, h2, h3]
        constructor
        · rintro ⟨e1, e2, e3⟩; exact ⟨e2, e1, e3⟩
        · rintro ⟨e1, e2, e3⟩; exact ⟨e2, e1, e3⟩
      · simp [h1, h2, h3]
  · by_cases h3 : s.k = 5 ∨ (s.k = 7 ∧ s.d = 5)
    · simp [h1, h3]
    · simp [h1, h3]
structure VInv (S : VS) (p : List Ev) : Prop where
  last : ∀ c, match aget S.last c with
    | none => ∀ e ∈ p, e.c ≠ c
    | some t => (∃ e ∈ p, e.c = c ∧ e.t = t) ∧ ∀ e ∈ p, e.c = c → e.t ≤ t
  sent : ∀ m, match aget S.sent m with
    | none => ∀ e ∈ p, e.rl = 1 → e.key ≠ m
    | some t => (∃ e ∈ p, e.rl = 1 ∧ e.key = m ∧ e.t = t) ∧ ∀ e ∈ p, e.rl = 1 → e.key = m → e.t ≤ t
  came : ∀ m, (aget S.came m).getD false = true ↔ ∃ e ∈ p, e.rl = 2 ∧ e.key = m
theorem bad_iff (x y : Ev) : x.bad y = true ↔ (x.c = y.c ∧ y.t < x.t) ∨ (x.rl = 1 ∧ y.rl = 2 ∧ y.key = x.key ∧ y.t ≤ x.t) ∨ (y.rl = 1 ∧ x.rl = 2 ∧ x.key = y.key) := by
  unfold Ev.bad
  simp only [Bool.or_eq_true, Bool.and_eq_true, decide_eq_true_eq, arr_iff]
  constructor
  · rintro ((h | ⟨⟨h1, h2, h3⟩, h4⟩) | h)
    · exact .inl h
    · exact .inr (.inl ⟨h1, h2, h3, h4⟩)
    · exact .inr (.inr h)
  · rintro (h | ⟨h1, h2, h3, h4⟩ | h)
    · exact .inl (.inl h)
    · exact .inl (.inr ⟨⟨h1, h2, h3⟩, h4⟩)
    · exact .inr h
theorem VInv.lt_iff {S : VS} {p : List Ev} (I : VInv S p) (e : Ev) : S.lt e = true ↔ ∃ x ∈ p, x.c = e.c ∧ e.t < x.t := by
  have h := I.last e.c
  unfold VS.lt
  cases hg : aget S.last e.c with
  | none =>
    rw [hg] at h
    simp only [Option.isSome_none, Bool.false_and, Bool.false_eq_true, false_iff]
    rintro ⟨x, hx, hc, _⟩; exact h x hx hc
  | some t =>
    rw [hg] at h
    obtain ⟨⟨x, hx, hc, ht⟩, hm⟩ := h
    simp only [Option.isSome_some, Option.getD_some, Bool.true_and, decide_eq_true_eq]
    constructor
    · intro h1; exact ⟨x, hx, hc, by omega⟩
    · rintro ⟨y, hy, hc2, h2⟩; have := hm y hy hc2; omega
theorem VInv.sent_iff {S : VS} {p : List Ev} (I : VInv S p) (e : Ev) : ((aget S.sent e.key).isSome && decide (e.t ≤ (aget S.sent e.key).getD 0)) = true ↔ ∃ x ∈ p, x.rl = 1 ∧ x.key = e.key ∧ e.t ≤ x.t := by
  have h := I.sent e.key
  cases hg : aget S.sent e.key with
  | none =>
    rw [hg] at h
    simp only [Option.isSome_none, Bool.false_and, Bool.false_eq_true, false_iff]
    rintro ⟨x, hx, hr, hk, _⟩; exact h x hx hr hk
  | some t =>
    rw [hg] at h
    obtain ⟨⟨x, hx, hr, hk, ht⟩, hm⟩ := h
    simp only [Option.isSome_some, Option.getD_some, Bool.true_and, decide_eq_true_eq]
    constructor
    · intro h1; exact ⟨x, hx, hr, hk, by omega⟩
    · rintro ⟨y, hy, hr2, hk2, h2⟩; have := hm y hy hr2 hk2; omega
theorem VInv.lastS {S : VS} {p : List Ev} (I : VInv S p) {e : Ev} (h : S.lt e = false) (c : Int) : match aget (aset S.last e.c e.t) c with
    | none => ∀ x ∈ p ++ [e], x.c ≠ c
    | some t => (∃ x ∈ p ++ [e], x.c = c ∧ x.t = t) ∧ ∀ x ∈ p ++ [e], x.c = c → x.t ≤ t := by
  rw [aget_aset]
  have hn : ¬ ∃ x ∈ p, x.c = e.c ∧ e.t < x.t := fun hx => by rw [(I.lt_iff e).2 hx] at h; cases h
  by_cases hc : c = e.c
  · rw [if_pos hc]
    refine ⟨⟨e, by simp, hc.symm, rfl⟩, fun x hx hxc => ?_⟩
    rcases List.mem_append.1 hx with h1 | h1
    · rcases Int.lt_or_le e.t x.t with h2 | h2
      · exact (hn ⟨x, h1, hxc.trans hc, h2⟩).elim
      · exact h2
    · rw [List.mem_singleton.1 h1]; exact Int.le_refl _
  · rw [if_neg hc]
    have hl := I.last c
    cases hg : aget S.last c with
    | none =>
      rw [hg] at hl
      intro x hx
      rcases List.mem_append.1 hx with h1 | h1
      · exact hl x h1
      · rw [List.mem_singleton.1 h1]; exact fun h => hc h.symm
    | some t =>
      rw [hg] at hl
      obtain ⟨⟨y, hy, hyc, hyt⟩, hm⟩ := hl
      refine ⟨⟨y, List.mem_append_left _ hy, hyc, hyt⟩, fun x hx hxc => ?_⟩
      rcases List.mem_append.1 hx with h1 | h1
      · exact hm x h1 hxc
      · rw [List.mem_singleton.1 h1] at hxc; exact (hc hxc.symm).elim
theorem VInv.sentK {S : VS} {p : List Ev} (I : VInv S p) {e : Ev} (he : e.rl ≠ 1) (m : Int × Int × Int) : match aget S.sent m with
    | none => ∀ x ∈ p ++ [e], x.rl = 1 → x.key ≠ m
    | some t => (∃ x ∈ p ++ [e], x.rl = 1 ∧ x.key = m ∧ x.t = t) ∧ ∀ x ∈ p ++ [e], x.rl = 1 → x.key = m → x.t ≤ t := by
  have hl := I.sent m
  cases hg : aget S.sent m with
  | none =>
    rw [hg] at hl
    intro x hx hr
    rcases List.mem_append.1 hx with h1 | h1
    · exact hl x h1 hr
    · rw [List.mem_singleton.1 h1] at hr; exact (he hr).elim
  | some t =>
    rw [hg] at hl
    obtain ⟨⟨y, hy, hyr, hyc, hyt⟩, hm⟩ := hl
    refine ⟨⟨y, List.mem_append_left _ hy, hyr, hyc, hyt⟩, fun x hx hr hxc => ?_⟩
    rcases List.mem_append.1 hx with h1 | h1
    · exact hm x h1 hr hxc
    · rw [List.mem_singleton.1 h1] at hr; exact (he hr).elim
theorem VInv.cameK {S : VS} {p : List Ev} (I : VInv S p) {e : Ev} (he : e.rl ≠ 2) (m : Int × Int × Int) : (aget S.came m).getD false = true ↔ ∃ x ∈ p ++ [e], x.rl = 2 ∧ x.key = m := by
  rw [I.came m]
  constructor
  · rintro ⟨x, hx, h⟩; exact ⟨x, List.mem_append_left _ hx, h⟩
  · rintro ⟨x, hx, h⟩
    rcases List.mem_append.1 hx with h1 | h1
    · exact ⟨x, h1, h⟩
    · rw [List.mem_singleton.1 h1] at h; exact (he h.1).elim
theorem VInv.sentS {S : VS} {p : List Ev} (I : VInv S p) {e : Ev} (he : e.rl = 1) (m : Int × Int × Int) : match aget (if !(aget S.sent e.key).isSome || decide ((aget S.sent e.key).getD 0 < e.t) then aset S.sent e.key e.t else S.sent) m with
    | none => ∀ x ∈ p ++ [e], x.rl = 1 → x.key ≠ m
    | some t => (∃ x ∈ p ++ [e], x.rl = 1 ∧ x.key = m ∧ x.t = t) ∧ ∀ x ∈ p ++ [e], x.rl = 1 → x.key = m → x.t ≤ t := by
  have keep : m ≠ e.key → match aget S.sent m with
    | none => ∀ x ∈ p ++ [e], x.rl = 1 → x.key ≠ m
    | some t => (∃ x ∈ p ++ [e], x.rl = 1 ∧ x.key = m ∧ x.t = t) ∧ ∀ x ∈ p ++ [e], x.rl = 1 → x.key = m → x.t ≤ t := fun hc => by
    have hl := I.sent m
    cases hg : aget S.sent m with
    | none =>
      rw [hg] at hl
      intro x hx hr
      rcases List.mem_append.1 hx with h1 | h1
      · exact hl x h1 hr
      · rw [List.mem_singleton.1 h1]; exact fun h => hc h.symm
    | some t =>
      rw [hg] at hl
      obtain ⟨⟨y, hy, hyr, hyc, hyt⟩, hm⟩ := hl
      refine ⟨⟨y, List.mem_append_left _ hy, hyr, hyc, hyt⟩, fun x hx hr hxc => ?_⟩
      rcases List.mem_append.1 hx with h1 | h1
      · exact hm x h1 hr hxc
      · rw [List.mem_singleton.1 h1] at hxc; exact (hc hxc.symm).elim
  have hs := I.sent e.key
  by_cases hc : m = e.key
  · subst hc
    cases hg : aget S.sent e.key with
    | none =>
      rw [hg] at hs
      simp only [Option.isSome_none, Bool.not_false, Bool.true_or, if_true, aget_aset]
      refine ⟨⟨e, by simp, he, rfl, rfl⟩, fun x hx hr hk => ?_⟩
      rcases List.mem_append.1 hx with h1 | h1
      · exact (hs x h1 hr hk).elim
      · rw [List.mem_singleton.1 h1]; exact Int.le_refl _
    | some t =>
      rw [hg] at hs
      obtain ⟨⟨y, hy, hyr, hyc, hyt⟩, hm⟩ := hs
      simp only [Option.isSome_some, Bool.not_true, Bool.false_or, Option.getD_some, decide_eq_true_eq]
      by_cases ht : t < e.t
      · simp only [if_pos ht, aget_aset, if_true]
        refine ⟨⟨e, by simp, he, rfl, rfl⟩, fun x hx hr hk => ?_⟩
        rcases List.mem_append.1 hx with h1 | h1
        · have := hm x h1 hr hk; omega
        · rw [List.mem_singleton.1 h1]; exact Int.le_refl _
      · simp only [if_neg ht, hg]
        refine ⟨⟨y, List.mem_append_left _ hy, hyr, hyc, hyt⟩, fun x hx hr hk => ?_⟩
        rcases List.mem_append.1 hx with h1 | h1
        · exact hm x h1 hr hk
        · rw [List.mem_singleton.1 h1]; omega
  · have k := keep hc
    have e1 : aget (if !(aget S.sent e.key).isSome || decide ((aget S.sent e.key).getD 0 < e.t) then aset S.sent e.key e.t else S.sent) m = aget S.sent m := by
      split
      · rw [aget_aset, if_neg hc]
      · rfl
    rw [e1]; exact k
theorem VInv.no {S : VS} {p : List Ev} (I : VInv S p) {e : Ev} (h : S.step e = none) : ∃ x ∈ p, x.bad e = true := by
  unfold VS.step at h
  by_cases h1 : S.lt e = true
  · obtain ⟨x, hx, h2, h3⟩ := (I.lt_iff e).1 h1
    exact ⟨x, hx, (bad_iff x e).2 (.inl ⟨h2, h3⟩)⟩
  · rw [if_neg h1] at h
    by_cases h2 : e.rl = 1
    · rw [if_pos h2] at h
      by_cases h3 : (aget S.came e.key).getD false = true
      · obtain ⟨x, hx, h4, h5⟩ := (I.came e.key).1 h3
        exact ⟨x, hx, (bad_iff x e).2 (.inr (.inr ⟨h2, h4, h5⟩))⟩
      · rw [if_neg h3] at h; cases h
    · rw [if_neg h2] at h
      by_cases h3 : e.rl = 2
      · rw [if_pos h3] at h
        by_cases h4 : ((aget S.sent e.key).isSome && decide (e.t ≤ (aget S.sent e.key).getD 0)) = true
        · obtain ⟨x, hx, h5, h6, h7⟩ := (I.sent_iff e).1 h4
          exact ⟨x, hx, (bad_iff x e).2 (.inr (.inl ⟨h5, h3, h6.symm, h7⟩))⟩
        · rw [if_neg h4] at h; cases h
      · rw [if_neg h3] at h; cases h
theorem VInv.go {S S' : VS} {p : List Ev} (I : VInv S p) {e : Ev} (h : S.step e = some S') : (∀ x ∈ p, x.bad e = false) ∧ VInv S' (p ++ [e]) := by
  unfold VS.step at h
  by_cases h1 : S.lt e = true
  · rw [if_pos h1] at h; cases h
  rw [if_neg h1] at h
  have n1 : ∀ x ∈ p, ¬ (x.c = e.c ∧ e.t < x.t) := fun x hx hh => h1 ((I.lt_iff e).2 ⟨x, hx, hh⟩)
  have h1' : S.lt e = false := by simpa using h1
  have fin : ∀ x : Ev, ¬ (x.c = e.c ∧ e.t < x.t) → ¬ (x.rl = 1 ∧ e.rl = 2 ∧ e.key = x.key ∧ e.t ≤ x.t) → ¬ (e.rl = 1 ∧ x.rl = 2 ∧ x.key = e.key) → x.bad e = false := fun x a b c => by
    cases hb : x.bad e with
    | false => rfl
    | true => rcases (bad_iff x e).1 hb with hh | hh | hh
              · exact (a hh).elim
              · exact (b hh).elim
              · exact (c hh).elim
  by_cases h2 : e.rl = 1
  · rw [if_pos h2] at h
    by_cases h3 : (aget S.came e.key).getD false = true
    · rw [if_pos h3] at h; cases h
    · rw [if_neg h3] at h
      obtain rfl := (Option.some.inj h).symm
      exact ⟨fun x hx => fin x (n1 x hx) (fun hh => by omega) (fun hh => h3 ((I.came e.key).2 ⟨x, hx, hh.2⟩)), ⟨I.lastS h1', I.sentS h2, I.cameK (by omega)⟩⟩
  · rw [if_neg h2] at h
    by_cases h3 : e.rl = 2
    · rw [if_pos h3] at h
      by_cases h4 : ((aget S.sent e.key).isSome && decide (e.t ≤ (aget S.sent e.key).getD 0)) = true
      · rw [if_pos h4] at h; cases h
      · rw [if_neg h4] at h
        obtain rfl := (Option.some.inj h).symm
        refine ⟨fun x hx => fin x (n1 x hx) (fun hh => h4 ((I.sent_iff e).2 ⟨x, hx, hh.1, hh.2.2.1.symm, hh.2.2.2⟩)) (fun hh => h2 hh.1), ⟨I.lastS h1', I.sentK h2, fun m => ?_⟩⟩
        show (aget (aset S.came e.key true) m).getD false = true ↔ _
        rw [aget_aset]
        by_cases hm : m = e.key
        · rw [if_pos hm]; simp only [Option.getD_some, true_iff]; exact ⟨e, by simp, h3, hm.symm⟩
        · rw [if_neg hm, I.came m]
          constructor
          · rintro ⟨x, hx, hh⟩; exact ⟨x, List.mem_append_left _ hx, hh⟩
          · rintro ⟨x, hx, hh⟩
            rcases List.mem_append.1 hx with h5 | h5
            · exact ⟨x, h5, hh⟩
            · rw [List.mem_singleton.1 h5] at hh; exact (hm hh.2.symm).elim
    · rw [if_neg h3] at h
      obtain rfl := (Option.some.inj h).symm
      exact ⟨fun x hx => fin x (n1 x hx) (fun hh => h3 hh.2.1) (fun hh => h2 hh.1), ⟨I.lastS h1', I.sentK h2, I.cameK h3⟩⟩
theorem all_iff : ∀ (r p : List Ev) (S : VS), VInv S p → RV (p ++ r) p.length → (S.all r = true ↔ RV (p ++ r) (p ++ r).length)
  | [], p, S, I, hR => by simp only [List.append_nil] at *; simp [VS.all, hR]
  | e :: r, p, S, I, hR => by
    have he : (p ++ e :: r)[p.length]? = some e := by simp
    cases hst : S.step e with
    | none =>
      obtain ⟨x, hx, hb⟩ := I.no hst
      simp only [VS.all, hst, Bool.false_eq_true, false_iff]
      intro h
      obtain ⟨i, hi⟩ := List.getElem?_of_mem hx
      have hil := (List.getElem?_eq_some_iff.1 hi).1
      have := h i p.length x e hil (by simp) (by rw [List.getElem?_append_left hil]; exact hi) he
      rw [this] at hb; cases hb
    | some S' =>
      obtain ⟨h1, h2⟩ := I.go hst
      have hrec := all_iff r (p ++ [e]) S' h2 (by
        rw [List.append_assoc, List.singleton_append]
        intro i j x y hij hj hx hy
        by_cases hjp : j = p.length
        · subst hjp
          obtain rfl := Option.some.inj (he.symm.trans hy)
          rw [List.getElem?_append_left hij] at hx
          exact h1 x (List.mem_of_getElem? hx)
        · exact hR i j x y hij (by simp at hj; omega) hx hy)
      rw [List.append_assoc, List.singleton_append] at hrec
      simp only [VS.all, hst]
      exact hrec
theorem valid_iff (l : List Ev) : VS.all ⟨[], [], []⟩ l = true ↔ RV l l.length :=
  all_iff l [] _ ⟨fun _ => (by intro e he; simp at he), fun _ => (by intro e he; simp at he), fun m => (by simp [aget])⟩ (fun _ _ _ _ _ h => absurd h (by simp))
end Go.Proofs.Ytneimfacccgaeaa
