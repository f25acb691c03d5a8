/- The agenda's plain law: entries, their order, insertion. No program in sight. Own text. -/
import Derived.Test.YtnamppkicefbjaaW4
namespace Go.Proofs.Ytnamppkicefbjaa
open Go.RowKit Go.Flow Go.Mem

/-! ### orders -/
def lexLe : List Int → List Int → Bool
  | [], _ => true
  | _ :: _, [] => false
  | a :: r1, b :: r2 => if a < b then true else if b < a then false else lexLe r1 r2
theorem lexLe_trans : ∀ (a b c : List Int), lexLe a b = true → lexLe b c = true → lexLe a c = true
  | [], _, _, _, _ => rfl
  | _ :: _, [], _, h, _ => by simp [lexLe] at h
  | _ :: _, _ :: _, [], _, h => by simp [lexLe] at h
  | a :: r1, b :: r2, c :: r3, h, k => by
    unfold lexLe at *
    by_cases h1 : a < b
    · by_cases h2 : b < c
      · rw [if_pos (by omega)]
      · rw [if_neg h2] at k
        by_cases h3 : c < b
        · rw [if_pos h3] at k; cases k
        · rw [if_pos (by omega)]
    · rw [if_neg h1] at h
      by_cases h2 : b < a
      · rw [if_pos h2] at h; cases h
      · rw [if_neg h2] at h
        obtain rfl : a = b := by omega
        by_cases h3 : a < c
        · rw [if_pos h3]
        · rw [if_neg h3] at k ⊢
          by_cases h4 : c < a
          · rw [if_pos h4] at k; cases k
          · rw [if_neg h4] at k ⊢
            exact lexLe_trans r1 r2 r3 h k
theorem lexLe_total : ∀ (a b : List Int), a.length = b.length → lexLe a b = true ∨ lexLe b a = true
  | [], _, _ => .inl rfl
  | _ :: _, [], h => by simp at h
  | a :: r1, b :: r2, h => by
    unfold lexLe
    by_cases h1 : a < b
    · left; rw [if_pos h1]
    · by_cases h2 : b < a
      · right; rw [if_pos h2]
      · rw [if_neg h1, if_neg h2, if_neg h2, if_neg h1]
        exact lexLe_total r1 r2 (by simpa using h)

theorem cmpI_neg {a b : Int} : cmpI a b < 0 ↔ a < b := by unfold cmpI; split <;> (try split) <;> omega
theorem cmpI_pos {a b : Int} : 0 < cmpI a b ↔ b < a := by unfold cmpI; split <;> (try split) <;> omega
theorem cmpI_zero {a b : Int} : cmpI a b = 0 ↔ a = b := by unfold cmpI; split <;> (try split) <;> omega
theorem or3_neg {x y z : Int} : or3 x y z < 0 ↔ x < 0 ∨ (x = 0 ∧ (y < 0 ∨ (y = 0 ∧ z < 0))) := by unfold or3; split <;> (try split) <;> omega
theorem or3_zero {x y z : Int} : or3 x y z = 0 ↔ x = 0 ∧ y = 0 ∧ z = 0 := by unfold or3; split <;> (try split) <;> omega

structure En where
  t : Int
  s : Int
  c : Int
  p : Int
  n : Int
  k : Int
  h : Int
  args : List Int
  A : Option Addr
  cap : Nat

def En.key (e : En) : List Int := [e.c, e.t, e.s, pl0 e.s e.p e.n e.h, pl1 e.s e.n, pl2 e.s e.k]
def En.cmp (x y : En) : Int := cmpE x.t x.s x.c x.p x.n x.k x.h y.t y.s y.c y.p y.n y.k y.h
def En.le (x y : En) : Bool := lexLe x.key y.key

theorem lexLe_three (a b c d e f : Int) (R R' : List Int) : lexLe (a :: c :: e :: R) (b :: d :: f :: R') = if or3 (cmpI a b) (cmpI c d) (cmpI e f) < 0 then true else if or3 (cmpI a b) (cmpI c d) (cmpI e f) = 0 then lexLe R R' else false := by
  simp only [or3_neg, or3_zero, cmpI_neg, cmpI_zero, lexLe]
  rcases Int.lt_trichotomy a b with h | h | h
  · simp [h]
  · subst h
    rcases Int.lt_trichotomy c d with h | h | h
    · simp [h]
    · subst h
      rcases Int.lt_trichotomy e f with h | h | h
      · simp [h]
      · subst h; simp
      · have h1 : ¬ e < f := by omega
        have h2 : ¬ e = f := by omega
        simp [h, h1, h2]
    · have h1 : ¬ c < d := by omega
      have h2 : ¬ c = d := by omega
      simp [h, h1, h2]
  · have h1 : ¬ a < b := by omega
    have h2 : ¬ a = b := by omega
    simp [h, h1, h2]
theorem En.cmp_pos (x y : En) : 0 < x.cmp y ↔ x.le y = false := by
  unfold En.cmp En.le cmpE En.key
  rw [lexLe_three, lexLe_three]
  generalize or3 (cmpI x.c y.c) (cmpI x.t y.t) (cmpI x.s y.s) = u
  generalize or3 (cmpI _ _) (cmpI _ _) (cmpI _ _) = v
  have h0 : lexLe [] [] = true := rfl
  rw [h0]
  rcases Int.lt_trichotomy u 0 with h | h | h
  · have h1 : ¬ u = 0 := by omega
    simp [h, h1]; omega
  · subst h
    rcases Int.lt_trichotomy v 0 with h | h | h
    · simp [h]; omega
    · subst h; simp
    · have h1 : ¬ v < 0 := by omega
      have h2 : ¬ v = 0 := by omega
      simp [h, h1, h2]
  · have h1 : ¬ u < 0 := by omega
    have h2 : ¬ u = 0 := by omega
    simp [h, h1, h2]
theorem En.le_trans {x y z : En} (h : x.le y = true) (k : y.le z = true) : x.le z = true := lexLe_trans _ _ _ h k
theorem En.le_total (x y : En) : x.le y = true ∨ y.le x = true := lexLe_total _ _ rfl

/-- Sorted by that order. -/
def SortedE (L : List En) : Prop := L.Pairwise fun x y => x.le y = true
/-- x behind all that are not greater. -/
def insE (x : En) (L : List En) : List En := L.filter (fun y => y.le x) ++ x :: L.filter (fun y => !y.le x)

theorem insE_sorted {x : En} {L : List En} (h : SortedE L) : SortedE (insE x L) := by
  unfold SortedE insE
  rw [List.pairwise_append]
  refine ⟨List.Pairwise.filter _ h, ?_, ?_⟩
  · rw [List.pairwise_cons]
    refine ⟨fun y hy => ?_, List.Pairwise.filter _ h⟩
    have := (List.mem_filter.1 hy).2
    rcases En.le_total x y with h1 | h1
    · exact h1
    · simp [h1] at this
  · intro y hy z hz
    have h1 : y.le x = true := (List.mem_filter.1 hy).2
    rcases List.mem_cons.1 hz with rfl | hz
    · exact h1
    · have h2 := (List.mem_filter.1 hz).2
      rcases En.le_total x z with h3 | h3
      · exact En.le_trans h1 h3
      · simp [h3] at h2

/-- Where a search in a sorted list ends is where x goes. -/
theorem ins_at {L : List En} (hs : SortedE L) (x : En) (k : Nat) (hk : k ≤ L.length) (h1 : ∀ (h : k < L.length), 0 < L[k].cmp x) (h2 : ∀ (h : 0 < k), ¬ 0 < (L[k - 1]'(by omega)).cmp x) :
    L.take k ++ x :: L.drop k = insE x L := by
  have e1 : ∀ y ∈ L.take k, y.le x = true := by
    intro y hy
    obtain ⟨j, hj, rfl⟩ := List.mem_iff_getElem.1 hy
    have hjk : j < k := by simp at hj; omega
    have hk0 : 0 < k := by omega
    have hlast := h2 hk0
    rw [En.cmp_pos] at hlast
    simp only [Bool.not_eq_false] at hlast
    rw [List.getElem_take]
    rcases Nat.lt_or_ge j (k - 1) with h | h
    · exact En.le_trans (List.pairwise_iff_getElem.1 hs j (k - 1) (by omega) (by omega) h) hlast
    · have : j = k - 1 := by omega
      subst this; exact hlast
  have e2 : ∀ y ∈ L.drop k, y.le x = false := by
    intro y hy
    obtain ⟨j, hj, rfl⟩ := List.mem_iff_getElem.1 hy
    have hkl : k < L.length := by simp at hj; omega
    have hfirst := h1 hkl
    rw [En.cmp_pos] at hfirst
    rw [List.getElem_drop]
    rcases Nat.eq_zero_or_pos j with h | h
    · subst h; simpa using hfirst
    · cases hc : (L[k + j]'(by simp at hj; omega)).le x with
      | false => rfl
      | true =>
        have := En.le_trans (List.pairwise_iff_getElem.1 hs k (k + j) hkl (by simp at hj; omega) (by omega)) hc
        rw [this] at hfirst; cases hfirst
  unfold insE
  conv => rhs; rw [← List.take_append_drop k L]
  rw [List.filter_append, List.filter_append, List.filter_eq_self.2 e1, List.filter_eq_nil_iff.2 (fun y hy => by simp [e2 y hy])]
  rw [List.filter_eq_nil_iff.2 (fun y hy => by simp [e1 y hy]), List.filter_eq_self.2 (fun y hy => by simp [e2 y hy])]
  simp

/-! ### memory -/
def En.cells (e : En) : List Value := [.int .i64 e.t, .int .u8 e.s, .int .i64 e.c, .int .i64 e.p, .int .i64 e.n, .int .i64 e.k, .int .i64 e.h, .slice e.A e.args.length e.cap]
def flat (L : List En) : List Value := L.flatMap En.cells
theorem flat_length (L : List En) : (flat L).length = L.length * 8 := by
  unfold flat
  induction L with
  | nil => rfl
  | cons e L ih => rw [List.flatMap_cons, List.length_append, ih]; simp [En.cells]; omega
theorem flat_append (L M : List En) : flat (L ++ M) = flat L ++ flat M := by simp [flat]
theorem flat_one (L : List En) : ∀ u ∈ flat L, u.oneCell' = true := by
  intro u hu
  obtain ⟨e, _, he⟩ := List.mem_flatMap.1 hu
  simp only [En.cells, List.mem_cons, List.not_mem_nil, or_false] at he
  rcases he with rfl | rfl | rfl | rfl | rfl | rfl | rfl | rfl <;> rfl
theorem flat_take (L : List En) (k : Nat) : (flat L).take (k * 8) = flat (L.take k) := by
  by_cases hk : k ≤ L.length
  · conv => lhs; rw [← List.take_append_drop k L, flat_append]
    rw [List.take_append_of_le_length (by rw [flat_length, List.length_take]; omega), List.take_of_length_le (by rw [flat_length, List.length_take]; omega)]
  · rw [List.take_of_length_le (by rw [flat_length]; omega), List.take_of_length_le (by omega)]
theorem flat_drop (L : List En) (k : Nat) : (flat L).drop (k * 8) = flat (L.drop k) := by
  by_cases hk : k ≤ L.length
  · conv => lhs; rw [← List.take_append_drop k L, flat_append]
    have : k * 8 = (flat (L.take k)).length := by rw [flat_length, List.length_take]; omega
    rw [this, List.drop_left]
  · rw [List.drop_of_length_le (by rw [flat_length]; omega), List.drop_of_length_le (by omega)]; rfl
theorem flat_range {w : World} {g : Nat} {L : List En} (h : w.rangeAt g 0 (flat L)) {j : Nat} {e : En} (hj : L[j]? = some e) : w.rangeAt g (j * 8) e.cells := by
  have h1 := range_take (k := 8) (range_drop (off := j * 8) h rfl)
  rw [flat_drop] at h1
  have hlt : j < L.length := (List.getElem?_eq_some_iff.1 hj).1
  have he : L[j] = e := (List.getElem?_eq_some_iff.1 hj).2
  rw [List.drop_eq_getElem_cons hlt, he] at h1
  have : (flat (e :: L.drop (j + 1))).take 8 = e.cells := by
    show (e.cells ++ flat (L.drop (j + 1))).take 8 = e.cells
    rw [List.take_append_of_le_length (by simp [En.cells])]
    rfl
  rw [this] at h1
  exact h1

def ArgsOk (w : World) (B : Nat) (e : En) : Prop := w.ownsRow B 2 1 (.slice e.A e.args.length e.cap) e.args.length (ints e.args)

/-- An agenda in memory: block a holds the slice v, whose row holds L, in order. -/
structure Ag (w : World) (B a : Nat) (v : Value) (L : List En) : Prop where
  blk : w.heap[a]? = some (.cells #[v] 85 (0, 0))
  low : B ≤ a
  row : w.ownsRow B 82 8 v L.length (flat L)
  args : ∀ e ∈ L, ArgsOk w B e
  sorted : SortedE L

/-- What an agenda's own calls may turn. -/
def own (a : Nat) (v : Value) (g : Nat) : Prop := g = a ∨ v.ownBlock = some g

theorem Ag.ext {w w' : World} {B a : Nat} {v : Value} {L : List En} (h : Ag w B a v L) (k : Ext w w') : Ag w' B a v L :=
  ⟨(k.block a (lt_of_block h.blk)).trans h.blk, h.low, own_ext h.row k, fun e he => own_ext (h.args e he) k, h.sorted⟩
theorem Ag.keeps {w w' : World} {B a : Nat} {v : Value} {L : List En} {X : Nat → Prop} (h : Ag w B a v L) (k : Keeps X w w') (h1 : ¬ X a) (h2 : ∀ g, v.ownBlock = some g → ¬ X g) (h3 : ∀ e ∈ L, ∀ g, (Value.slice e.A e.args.length e.cap).ownBlock = some g → ¬ X g) : Ag w' B a v L :=
  ⟨(k.block a (lt_of_block h.blk) h1).trans h.blk, h.low, own_keeps h.row k h2, fun e he => own_keeps (h.args e he) k (h3 e he), h.sorted⟩
end Go.Proofs.Ytnamppkicefbjaa
