/- Tables, ascending: where a key lies; put and delete by place. Plain facts. Own text. -/
import Derived.Test.YtoehnbacbobhiaaGreatDoorX19
import Derived.Test.YtoehnbacbobhiaaGreatDoorL3
set_option linter.unusedVariables false
set_option linter.unusedSimpArgs false
namespace Go.Proofs.YtoehnbacbobhiaaGreatDoor
open Go.Sep
def lowN : List (Int × Int) → Int → Nat
  | [], _ => 0
  | e :: r, k => if e.1 < k then lowN r k + 1 else 0
theorem low_le (k : Int) : ∀ l : List (Int × Int), lowN l k ≤ l.length
  | [] => Nat.le_refl _
  | e :: r => by rw [lowN]; split <;> simp [low_le k r]
theorem low_iff {k : Int} : ∀ {l : List (Int × Int)} {h : Nat} {x : Int × Int}, Asc l → l[h]? = some x → (x.1 < k ↔ h < lowN l k)
  | [], h, x, _, hx => by simp at hx
  | e :: r, h, x, ha, hx => by
    obtain ⟨h1, h2⟩ := List.pairwise_cons.1 ha
    rw [lowN]
    cases h with
    | zero =>
      obtain rfl : e = x := by simpa using hx
      by_cases c : e.1 < k
      · simp [c]
      · simp [c]
    | succ h =>
      have hx' : r[h]? = some x := by simpa using hx
      by_cases c : e.1 < k
      · rw [if_pos c, low_iff h2 hx']; omega
      · rw [if_neg c]
        have := h1 x (List.mem_of_getElem? hx')
        omega
theorem get_cons (e : Int × Int) (r : List (Int × Int)) (k : Int) : getT (e :: r) k = if e.1 = k then some e.2 else getT r k := by
  unfold getT
  rw [List.find?_cons]
  by_cases c : e.1 = k <;> simp [c]
theorem get_above {k : Int} : ∀ {l : List (Int × Int)}, (∀ y ∈ l, k < y.1) → getT l k = none
  | [], _ => rfl
  | e :: r, h => by
    rw [get_cons, if_neg (by have := h e (List.mem_cons_self ..); omega)]
    exact get_above fun y hy => h y (List.mem_cons_of_mem _ hy)
theorem get_low {k : Int} : ∀ {l : List (Int × Int)}, Asc l → getT l k = match l[lowN l k]? with | some y => if y.1 = k then some y.2 else none | none => none
  | [], _ => rfl
  | e :: r, ha => by
    obtain ⟨h1, h2⟩ := List.pairwise_cons.1 ha
    rw [get_cons, lowN]
    by_cases c : e.1 < k
    · rw [if_neg (by omega), if_pos c, get_low h2]; simp
    · rw [if_neg c]
      by_cases c2 : e.1 = k
      · simp [c2]
      · simp only [c2, if_false, List.getElem?_cons_zero]
        exact get_above fun y hy => by have := h1 y hy; omega
theorem get_at {k : Int} {l : List (Int × Int)} (ha : Asc l) {y : Int × Int} (hy : l[lowN l k]? = some y) : getT l k = if y.1 = k then some y.2 else none := by rw [get_low ha, hy]
theorem get_end {k : Int} {l : List (Int × Int)} (ha : Asc l) (h : ¬ lowN l k < l.length) : getT l k = none := by rw [get_low ha, List.getElem?_eq_none (by omega)]
theorem get_is {k : Int} {l : List (Int × Int)} (ha : Asc l) (h : (getT l k).isSome = true) : ∃ y, l[lowN l k]? = some y ∧ y.1 = k ∧ getT l k = some y.2 := by
  cases hy : l[lowN l k]? with
  | none => rw [get_low ha, hy] at h; cases h
  | some y =>
    rw [get_at ha hy] at h ⊢
    by_cases c : y.1 = k
    · exact ⟨y, rfl, c, by rw [if_pos c]⟩
    · rw [if_neg c] at h; cases h
theorem put_low {k v : Int} : ∀ {l : List (Int × Int)}, Asc l → putT l k v = l.take (lowN l k) ++ (k, v) :: (if (getT l k).isSome = true then l.drop (lowN l k + 1) else l.drop (lowN l k))
  | [], _ => rfl
  | e :: r, ha => by
    obtain ⟨h1, h2⟩ := List.pairwise_cons.1 ha
    rw [putT, lowN, get_cons]
    by_cases c : e.1 < k
    · rw [if_pos c, if_neg (show ¬ e.1 = k by omega), if_pos c, put_low h2]; simp
    · rw [if_neg c, if_neg c]
      by_cases c2 : e.1 = k
      · simp [c2]
      · have : getT r k = none := get_above fun y hy => by have := h1 y hy; omega
        simp [c2, this]
theorem put_same {k v : Int} : ∀ {l : List (Int × Int)}, Asc l → getT l k = some v → putT l k v = l
  | [], _, h => by cases h
  | e :: r, ha, h => by
    obtain ⟨h1, h2⟩ := List.pairwise_cons.1 ha
    rw [get_cons] at h
    rw [putT]
    by_cases c2 : e.1 = k
    · rw [if_pos c2] at h
      obtain rfl := Option.some.inj h
      rw [if_neg (by omega), if_pos c2, ← c2]
    · rw [if_neg c2] at h
      by_cases c : e.1 < k
      · rw [if_pos c, put_same h2 h]
      · rw [get_above fun y hy => by have := h1 y hy; omega] at h; cases h
theorem del_low {k : Int} : ∀ {l : List (Int × Int)}, Asc l → delT l k = if (getT l k).isSome = true then l.take (lowN l k) ++ l.drop (lowN l k + 1) else l
  | [], _ => rfl
  | e :: r, ha => by
    obtain ⟨h1, h2⟩ := List.pairwise_cons.1 ha
    rw [lowN, get_cons]
    by_cases c : e.1 < k
    · rw [if_neg (show ¬ e.1 = k by omega), if_pos c]
      have : delT (e :: r) k = e :: delT r k := List.filter_cons_of_pos (decide_eq_true (by omega))
      rw [this, del_low h2]
      by_cases d : (getT r k).isSome = true
      · simp [d]
      · simp [d]
    · rw [if_neg c]
      by_cases c2 : e.1 = k
      · have h3 : ∀ y ∈ r, k < y.1 := fun y hy => by have := h1 y hy; omega
        have : delT (e :: r) k = delT r k := List.filter_cons_of_neg (by simp [c2])
        rw [this, del_above h3]; simp [c2]
      · have h3 : ∀ y ∈ e :: r, k < y.1 := fun y hy => by
          rcases List.mem_cons.1 hy with rfl | hy
          · omega
          · have := h1 y hy; omega
        have h4 : getT r k = none := get_above fun y hy => h3 y (List.mem_cons_of_mem _ hy)
        rw [del_above h3]; simp [c2, h4]
theorem del_asc {t : List (Int × Int)} {k : Int} (h : Asc t) : Asc (delT t k) := List.Pairwise.filter _ h
theorem put_len {k v : Int} : ∀ l : List (Int × Int), (putT l k v).length ≤ l.length + 1
  | [] => Nat.le_refl _
  | e :: r => by
    rw [putT]
    split
    · have := put_len (k := k) (v := v) r; simp; omega
    · split <;> simp
theorem put_len_is {k v : Int} : ∀ {l : List (Int × Int)}, Asc l → (getT l k).isSome = true → (putT l k v).length = l.length
  | [], _, h => by cases h
  | e :: r, ha, h => by
    obtain ⟨h1, h2⟩ := List.pairwise_cons.1 ha
    rw [get_cons] at h
    rw [putT]
    by_cases c2 : e.1 = k
    · rw [if_neg (by omega), if_pos c2]; simp
    · rw [if_neg c2] at h
      by_cases c : e.1 < k
      · rw [if_pos c]; simp [put_len_is h2 h]
      · rw [get_above fun y hy => by have := h1 y hy; omega] at h; cases h
structure Good (t : List (Int × Int)) : Prop where
  asc : Asc t
  len : t.length ≤ 16
theorem Good.put {t : List (Int × Int)} (h : Good t) (k v : Int) : Good (putR t k v) := by
  unfold putR
  by_cases c : (getT t k).isSome = true ∨ t.length < 16
  · rw [if_pos c]
    refine ⟨put_asc h.asc, ?_⟩
    rcases c with c | c
    · rw [put_len_is h.asc c]; exact h.len
    · have := put_len (k := k) (v := v) t; omega
  · rw [if_neg c]; exact h
theorem Good.del {t : List (Int × Int)} (h : Good t) (k : Int) : Good (delT t k) := ⟨del_asc h.asc, Nat.le_trans (delT_len _ _) h.len⟩
theorem Good.of {l : List (Int × Int)} (h : l.length ≤ 16) : Good (ofT l) := ⟨(rof_eq l).2, by rw [← (rof_eq l).1]; exact Nat.le_trans (rof_len l) h⟩
theorem rputR {t : List (Int × Int)} (h : Good t) (k v : Int) : (if ¬ (getT t k).isSome = true ∧ 16 ≤ t.length then t else rputT t k v) = putR t k v := by
  unfold putR
  rw [rput_eq h.asc]
  by_cases c : (getT t k).isSome = true
  · rw [if_neg (fun e => e.1 c), if_pos (.inl c)]
  · by_cases d : t.length < 16
    · rw [if_neg (fun e => by omega), if_pos (.inr d)]
    · rw [if_pos ⟨c, by omega⟩, if_neg (fun e => e.elim c d)]
end Go.Proofs.YtoehnbacbobhiaaGreatDoor
