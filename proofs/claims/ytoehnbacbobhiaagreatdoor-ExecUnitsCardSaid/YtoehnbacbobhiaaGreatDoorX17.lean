/- Tables out of lists: the sorted list without what is replaced, and one put behind the other. Plain facts. Own text. -/
import Derived.Test.YtoehnbacbobhiaaGreatDoorX16
set_option linter.unusedVariables false
set_option linter.unusedSimpArgs false
namespace Go.Proofs.YtoehnbacbobhiaaGreatDoor
open Go.Sep
def cmpE (x y : Int × Int) : Int := cmpI x.1 y.1
theorem cmp_cmpE : Cmp cmpE := cmp_cmpI.comap Prod.fst
theorem cmpE_neg {x y : Int × Int} : cmpE x y < 0 ↔ x.1 < y.1 := cmpI_neg
theorem cmpE_le {x y : Int × Int} : cmpE x y ≤ 0 ↔ x.1 ≤ y.1 := by unfold cmpE cmpI; split <;> first | omega | (split <;> omega)
def dedup : List (Int × Int) → List (Int × Int)
  | [] => []
  | [x] => [x]
  | x :: y :: r => if y.1 ≠ x.1 then x :: dedup (y :: r) else dedup (y :: r)
def ofT (l : List (Int × Int)) : List (Int × Int) := l.foldl (fun t e => putT t e.1 e.2) []
theorem dedup_two (a b : Int × Int) (r : List (Int × Int)) : dedup (a :: b :: r) = if b.1 ≠ a.1 then a :: dedup (b :: r) else dedup (b :: r) := by
  conv => lhs; unfold dedup
theorem dedup_head : ∀ (r : List (Int × Int)) (y : Int × Int), ∃ z s, dedup (y :: r) = z :: s ∧ z.1 = y.1
  | [], y => ⟨y, [], rfl, rfl⟩
  | b :: r, y => by
    unfold dedup
    by_cases h : b.1 ≠ y.1
    · rw [if_pos h]; exact ⟨_, _, rfl, rfl⟩
    · rw [if_neg h]
      obtain ⟨z, s, h1, h2⟩ := dedup_head r b
      exact ⟨z, s, h1, by rw [h2]; exact Classical.not_not.1 h⟩
theorem dedup_front {x : Int × Int} {q : List (Int × Int)} (hq : ∀ y ∈ q, x.1 < y.1) : dedup (x :: q) = x :: dedup q := by
  cases q with
  | nil => rfl
  | cons y r =>
    have := hq y (List.mem_cons_self ..)
    conv => lhs; unfold dedup
    rw [if_pos (by omega)]
theorem put_front {x : Int × Int} {q : List (Int × Int)} (hq : ∀ y ∈ q, x.1 < y.1) : putT (dedup q) x.1 x.2 = x :: dedup q := by
  cases q with
  | nil => rfl
  | cons y r =>
    obtain ⟨z, s, h1, h2⟩ := dedup_head r y
    have := hq y (List.mem_cons_self ..)
    rw [h1, putT, if_neg (by omega), if_neg (by omega)]
theorem dedup_ins {x : Int × Int} {q : List (Int × Int)} (hq : ∀ y ∈ q, x.1 < y.1) : ∀ p : List (Int × Int), p.Pairwise (fun a b => a.1 ≤ b.1) → (∀ y ∈ p, y.1 ≤ x.1) → dedup (p ++ x :: q) = putT (dedup (p ++ q)) x.1 x.2
  | [], _, _ => by rw [List.nil_append, List.nil_append, dedup_front hq, put_front hq]
  | [a], _, hp => by
    have ha := hp a (List.mem_cons_self ..)
    have hqa : ∀ y ∈ q, a.1 < y.1 := fun y hy => by have := hq y hy; omega
    show dedup (a :: x :: q) = putT (dedup (a :: q)) x.1 x.2
    rw [dedup_front hqa]
    conv => lhs; unfold dedup
    by_cases h : x.1 = a.1
    · rw [if_neg (by omega), dedup_front hq, putT, if_neg (by omega), if_pos h.symm]
    · rw [if_pos h, dedup_front hq, putT, if_pos (by omega), put_front hq]
  | a :: b :: p, hs, hp => by
    obtain ⟨h1, h2⟩ := List.pairwise_cons.1 hs
    have hab := h1 b (List.mem_cons_self ..)
    have hbx := hp b (List.mem_cons_of_mem _ (List.mem_cons_self ..))
    have ih := dedup_ins hq (b :: p) h2 (fun y hy => hp y (List.mem_cons_of_mem _ hy))
    show dedup (a :: b :: (p ++ x :: q)) = putT (dedup (a :: b :: (p ++ q))) x.1 x.2
    have ih : dedup (b :: (p ++ x :: q)) = putT (dedup (b :: (p ++ q))) x.1 x.2 := ih
    by_cases h : b.1 = a.1
    · have e1 : dedup (a :: b :: (p ++ x :: q)) = dedup (b :: (p ++ x :: q)) := by rw [dedup_two, if_neg (by omega)]
      have e2 : dedup (a :: b :: (p ++ q)) = dedup (b :: (p ++ q)) := by rw [dedup_two, if_neg (by omega)]
      rw [e1, e2, ih]
    · have e1 : dedup (a :: b :: (p ++ x :: q)) = a :: dedup (b :: (p ++ x :: q)) := by rw [dedup_two, if_pos h]
      have e2 : dedup (a :: b :: (p ++ q)) = a :: dedup (b :: (p ++ q)) := by rw [dedup_two, if_pos h]
      rw [e1, e2, ih, putT, if_pos (by omega)]
theorem split_at (x : Int × Int) : ∀ S : List (Int × Int), S.Pairwise (fun a b => a.1 ≤ b.1) → ∃ p q, S = p ++ q ∧ (∀ y ∈ p, y.1 ≤ x.1) ∧ (∀ y ∈ q, x.1 < y.1)
  | [], _ => ⟨[], [], rfl, by simp, by simp⟩
  | a :: S, hs => by
    obtain ⟨h1, h2⟩ := List.pairwise_cons.1 hs
    by_cases h : a.1 ≤ x.1
    · obtain ⟨p, q, e, hp, hq⟩ := split_at x S h2
      exact ⟨a :: p, q, by rw [e]; rfl, fun y hy => (List.mem_cons.1 hy).elim (fun e => by rw [e]; exact h) (hp y), hq⟩
    · refine ⟨[], a :: S, rfl, by simp, fun y hy => ?_⟩
      rcases List.mem_cons.1 hy with rfl | hy
      · omega
      · have := h1 y hy; omega
theorem dedup_step {x : Int × Int} {S : List (Int × Int)} (hs : S.Pairwise (fun a b => a.1 ≤ b.1)) : dedup (insR cmpE x S) = putT (dedup S) x.1 x.2 := by
  obtain ⟨p, q, rfl, hp, hq⟩ := split_at x S hs
  rw [insR_split (fun y hy => cmpE_neg.2 (hq y hy)) (fun y hy => fun h => by have := hp y (List.mem_of_getLast? hy); have := cmpE_neg.1 h; omega)]
  exact dedup_ins hq p (List.pairwise_append.1 hs).1 hp
theorem sorted_step {x : Int × Int} {S : List (Int × Int)} (hs : S.Pairwise (fun a b => a.1 ≤ b.1)) : (insR cmpE x S).Pairwise (fun a b => a.1 ≤ b.1) := by
  have h1 : S.reverse.Pairwise (fun a b => cmpE b a ≤ 0) := List.pairwise_reverse.2 (hs.imp fun h => cmpE_le.2 h)
  have h2 := insB_sorted cmp_cmpE x h1
  unfold insR
  exact (List.pairwise_reverse.2 h2).imp fun h => cmpE_le.1 h
theorem dedup_of (l : List (Int × Int)) : dedup (isort cmpE l) = ofT l := by
  suffices ∀ (l S : List (Int × Int)), S.Pairwise (fun a b => a.1 ≤ b.1) → dedup (l.foldl (fun S x => insR cmpE x S) S) = l.foldl (fun t e => putT t e.1 e.2) (dedup S) from this l [] List.Pairwise.nil
  intro l
  induction l with
  | nil => intro S _; rfl
  | cons x l ih => intro S hS; rw [List.foldl_cons, List.foldl_cons, ih _ (sorted_step hS), dedup_step hS]
abbrev Asc (t : List (Int × Int)) : Prop := t.Pairwise (fun a b => a.1 < b.1)
theorem put_mem {t : List (Int × Int)} {k v : Int} : ∀ y ∈ putT t k v, y.1 = k ∨ y ∈ t := by
  induction t with
  | nil => intro y hy; simp [putT] at hy; exact .inl (by rw [hy])
  | cons e r ih =>
    intro y hy
    rw [putT] at hy
    by_cases h1 : e.1 < k
    · rw [if_pos h1] at hy
      rcases List.mem_cons.1 hy with rfl | hy
      · exact .inr (List.mem_cons_self ..)
      · exact (ih y hy).imp id (List.mem_cons_of_mem _)
    · rw [if_neg h1] at hy
      by_cases h2 : e.1 = k
      · rw [if_pos h2] at hy
        rcases List.mem_cons.1 hy with rfl | hy
        · exact .inl rfl
        · exact .inr (List.mem_cons_of_mem _ hy)
      · rw [if_neg h2] at hy
        rcases List.mem_cons.1 hy with rfl | hy
        · exact .inl rfl
        · exact .inr hy
theorem put_asc {t : List (Int × Int)} {k v : Int} (h : Asc t) : Asc (putT t k v) := by
  induction t with
  | nil => simp [putT]
  | cons e r ih =>
    obtain ⟨h1, h2⟩ := List.pairwise_cons.1 h
    rw [putT]
    by_cases c1 : e.1 < k
    · rw [if_pos c1]
      refine List.pairwise_cons.2 ⟨fun y hy => ?_, ih h2⟩
      rcases put_mem y hy with h3 | h3
      · omega
      · exact h1 y h3
    · rw [if_neg c1]
      by_cases c2 : e.1 = k
      · rw [if_pos c2]
        exact List.pairwise_cons.2 ⟨fun y hy => by have := h1 y hy; show k < y.1; omega, h2⟩
      · rw [if_neg c2]
        refine List.pairwise_cons.2 ⟨fun y hy => ?_, h⟩
        rcases List.mem_cons.1 hy with rfl | hy
        · show k < y.1; omega
        · have := h1 y hy; show k < y.1; omega
theorem del_above {t : List (Int × Int)} {k : Int} (h : ∀ y ∈ t, k < y.1) : delT t k = t := List.filter_eq_self.2 fun y hy => decide_eq_true (by have := h y hy; omega)
theorem pin_above {t : List (Int × Int)} {k v : Int} (h : ∀ y ∈ t, k < y.1) : pin k v false t = (k, v) :: t := by
  cases t with
  | nil => rfl
  | cons y r => rw [pin, if_pos ⟨rfl, h y (List.mem_cons_self ..)⟩, pin_true]
theorem rput_eq {t : List (Int × Int)} {k v : Int} (h : Asc t) : rputT t k v = putT t k v := by
  induction t with
  | nil => rfl
  | cons e r ih =>
    obtain ⟨h1, h2⟩ := List.pairwise_cons.1 h
    rw [putT]
    unfold rputT
    by_cases c1 : e.1 < k
    · rw [if_pos c1, ← ih h2]
      unfold rputT
      have : delT (e :: r) k = e :: delT r k := List.filter_cons_of_pos (decide_eq_true (by omega))
      rw [this, pin, if_neg (fun h => by omega)]
    · rw [if_neg c1]
      by_cases c2 : e.1 = k
      · rw [if_pos c2]
        have h3 : ∀ y ∈ r, k < y.1 := fun y hy => by have := h1 y hy; omega
        have : delT (e :: r) k = delT r k := List.filter_cons_of_neg (by simp [c2])
        rw [this, del_above h3, pin_above h3]
      · rw [if_neg c2]
        have h3 : ∀ y ∈ e :: r, k < y.1 := fun y hy => by
          rcases List.mem_cons.1 hy with rfl | hy
          · omega
          · have := h1 y hy; omega
        rw [del_above h3, pin_above h3]
theorem rof_eq (l : List (Int × Int)) : rofT l = ofT l ∧ Asc (ofT l) := by
  suffices ∀ (l t : List (Int × Int)), Asc t → l.foldl (fun t e => rputT t e.1 e.2) t = l.foldl (fun t e => putT t e.1 e.2) t ∧ Asc (l.foldl (fun t e => putT t e.1 e.2) t) from this l [] List.Pairwise.nil
  intro l
  induction l with
  | nil => intro t h; exact ⟨rfl, h⟩
  | cons x l ih => intro t h; rw [List.foldl_cons, List.foldl_cons, rput_eq h]; exact ih _ (put_asc h)
theorem dedup_at {S : List (Int × Int)} {i : Nat} {x y : Int × Int} (hx : S[i]? = some x) (hy : S[i + 1]? = some y) : dedup (S.drop i) = if y.1 ≠ x.1 then x :: dedup (S.drop (i + 1)) else dedup (S.drop (i + 1)) := by
  rw [drop_of_get hx, drop_of_get hy]; rfl
theorem dedup_last {S : List (Int × Int)} {i : Nat} {x : Int × Int} (hx : S[i]? = some x) (hn : i + 1 = S.length) : dedup (S.drop i) = [x] := by
  rw [drop_of_get hx, List.drop_eq_nil_of_le (by omega)]; rfl
end Go.Proofs.YtoehnbacbobhiaaGreatDoor
