/- Lists that are compared and sorted: plain facts with no program in sight. Own text. -/
namespace Go.Sep
theorem drop_of_get {α : Type} {l : List α} {k : Nat} {y : α} (hy : l[k]? = some y) : l.drop k = y :: l.drop (k + 1) := by
  obtain ⟨h1, h2⟩ := List.getElem?_eq_some_iff.1 hy
  rw [← h2]; exact List.drop_eq_getElem_cons h1
theorem take_of_get {α : Type} {l : List α} {k : Nat} {y : α} (hy : l[k]? = some y) : l.take (k + 1) = l.take k ++ [y] := by
  obtain ⟨h1, h2⟩ := List.getElem?_eq_some_iff.1 hy
  rw [← h2]; exact List.take_succ_eq_append_getElem h1
theorem mem_at {α β : Type} {l : List α} {i : Nat} {y : α} (h : l[i]? = some y) (f : α → β) : f y ∈ l.map f := List.mem_map.2 ⟨y, List.mem_of_getElem? h, rfl⟩
/-! ### comparisons -/
def cmpI (a b : Int) : Int := if a < b then -1 else if b < a then 1 else 0
def cmpBy {α : Type} (c : α → α → Int) : List α → List α → Int
  | [], [] => 0
  | [], _ :: _ => -1
  | _ :: _, [] => 1
  | a :: l, b :: m => if c a b = 0 then cmpBy c l m else c a b
def orL : List Int → Int
  | [] => 0
  | x :: l => if x = 0 then orL l else x
theorem cmpBy_step {α : Type} {c : α → α → Int} {l m : List α} {i : Nat} {x y : α} (hx : l[i]? = some x) (hy : m[i]? = some y) : cmpBy c (l.drop i) (m.drop i) = if c x y = 0 then cmpBy c (l.drop (i + 1)) (m.drop (i + 1)) else c x y := by
  rw [drop_of_get hx, drop_of_get hy]; rfl
structure Cmp {α : Type} (c : α → α → Int) : Prop where
  anti : ∀ x y, c y x = - c x y
  trans : ∀ x y z, c x y ≤ 0 → c y z ≤ 0 → c x z ≤ 0
section
variable {α β : Type} {c : α → α → Int}
theorem Cmp.refl (h : Cmp c) (x : α) : c x x = 0 := by have := h.anti x x; omega
theorem Cmp.ltle (h : Cmp c) {x y z : α} (h1 : c x y < 0) (h2 : c y z ≤ 0) : c x z < 0 := by
  have a1 := h.anti x z; have a2 := h.anti x y
  have := h.trans y z x h2
  omega
theorem Cmp.lelt (h : Cmp c) {x y z : α} (h1 : c x y ≤ 0) (h2 : c y z < 0) : c x z < 0 := by
  have a1 := h.anti x z; have a2 := h.anti y z
  have := h.trans z x y
  omega
theorem Cmp.eqtrans (h : Cmp c) {x y z : α} (h1 : c x y = 0) (h2 : c y z = 0) : c x z = 0 := by
  have a1 := h.anti x z; have a2 := h.anti x y; have a3 := h.anti y z
  have := h.trans x y z; have := h.trans z y x
  omega
theorem Cmp.comap (h : Cmp c) (f : β → α) : Cmp (fun x y => c (f x) (f y)) := ⟨fun _ _ => h.anti _ _, fun _ _ _ => h.trans _ _ _⟩
theorem Cmp.lex {d : α → α → Int} (h : Cmp c) (k : Cmp d) : Cmp (fun x y => if c x y = 0 then d x y else c x y) := by
  constructor
  · intro x y
    have := h.anti x y; have := k.anti x y
    show (if c y x = 0 then d y x else c y x) = -(if c x y = 0 then d x y else c x y)
    split <;> split <;> omega
  · intro x y z h1 h2
    replace h1 : (if c x y = 0 then d x y else c x y) ≤ 0 := h1
    replace h2 : (if c y z = 0 then d y z else c y z) ≤ 0 := h2
    show (if c x z = 0 then d x z else c x z) ≤ 0
    by_cases e1 : c x y = 0
    · by_cases e2 : c y z = 0
      · rw [if_pos e1] at h1; rw [if_pos e2] at h2; rw [if_pos (h.eqtrans e1 e2)]; exact k.trans _ _ _ h1 h2
      · rw [if_neg e2] at h2
        have := h.lelt (x := x) (y := y) (z := z) (by omega) (by omega)
        rw [if_neg (by omega)]; omega
    · rw [if_neg e1] at h1
      have h3 : c y z ≤ 0 := by
        by_cases e2 : c y z = 0
        · omega
        · rw [if_neg e2] at h2; exact h2
      have := h.ltle (x := x) (y := y) (z := z) (by omega) h3
      rw [if_neg (by omega)]; omega
theorem Cmp.zero : Cmp (fun (_ _ : α) => 0) := ⟨fun _ _ => rfl, fun _ _ _ _ _ => Int.le_refl _⟩
theorem cmp_cmpI : Cmp cmpI := by
  constructor
  · intro x y; unfold cmpI; split <;> split <;> first | omega | (split <;> omega) | rfl
  · intro x y z h1 h2
    have e : ∀ a b, cmpI a b ≤ 0 ↔ a ≤ b := fun a b => by unfold cmpI; split <;> first | omega | (split <;> omega)
    rw [e] at *; omega
theorem cmpI_zero {a b : Int} : cmpI a b = 0 ↔ a = b := by unfold cmpI; split <;> first | omega | (split <;> omega)
theorem cmpI_neg {a b : Int} : cmpI a b < 0 ↔ a < b := by unfold cmpI; split <;> first | omega | (split <;> omega)
theorem cmpBy_nil_left (l : List α) : cmpBy c [] l ≤ 0 := by cases l <;> simp [cmpBy]
theorem Cmp.by (h : Cmp c) : Cmp (cmpBy c) := by
  constructor
  · intro x
    induction x with
    | nil => intro y; cases y <;> simp [cmpBy]
    | cons a l ih =>
      intro y
      cases y with
      | nil => simp [cmpBy]
      | cons b m =>
        have := h.anti a b; have := ih m
        simp only [cmpBy]; split <;> split <;> omega
  · intro x
    induction x with
    | nil => intro y z _ _; exact cmpBy_nil_left z
    | cons a l ih =>
      intro y z h1 h2
      cases y with
      | nil => simp [cmpBy] at h1
      | cons b m =>
        cases z with
        | nil => simp [cmpBy] at h2
        | cons e n =>
          simp only [cmpBy] at *
          by_cases e1 : c a b = 0
          · by_cases e2 : c b e = 0
            · rw [if_pos e1] at h1; rw [if_pos e2] at h2; rw [if_pos (h.eqtrans e1 e2)]; exact ih m n h1 h2
            · rw [if_neg e2] at h2
              have := h.lelt (x := a) (y := b) (z := e) (by omega) (by omega)
              rw [if_neg (by omega)]; omega
          · rw [if_neg e1] at h1
            have h3 : c b e ≤ 0 := by
              by_cases e2 : c b e = 0
              · omega
              · rw [if_neg e2] at h2; exact h2
            have := h.ltle (x := a) (y := b) (z := e) (by omega) h3
            rw [if_neg (by omega)]; omega
theorem cmpBy_zero (hz : ∀ x y, c x y = 0 → x = y) : ∀ {l m : List α}, cmpBy c l m = 0 → l = m
  | [], [], _ => rfl
  | [], _ :: _, h => by simp [cmpBy] at h
  | _ :: _, [], h => by simp [cmpBy] at h
  | a :: l, b :: m, h => by
    simp only [cmpBy] at h
    by_cases e : c a b = 0
    · rw [if_pos e] at h; rw [hz a b e, cmpBy_zero hz h]
    · rw [if_neg e] at h; exact absurd h e
/-! ### the sort by insertion -/
def insB (c : α → α → Int) (x : α) : List α → List α
  | [] => [x]
  | y :: r => if c x y < 0 then y :: insB c x r else x :: y :: r
def insR (c : α → α → Int) (x : α) (S : List α) : List α := (insB c x S.reverse).reverse
def isort (c : α → α → Int) (l : List α) : List α := l.foldl (fun S x => insR c x S) []
theorem isort_snoc (l : List α) (x : α) : isort c (l ++ [x]) = insR c x (isort c l) := by simp [isort]
theorem insB_perm (x : α) : ∀ S : List α, (insB c x S).Perm (x :: S)
  | [] => List.Perm.refl _
  | y :: r => by
    unfold insB; split
    · exact ((insB_perm x r).cons y).trans (List.Perm.swap _ _ _)
    · exact List.Perm.refl _
theorem insR_perm (x : α) (S : List α) : (insR c x S).Perm (x :: S) :=
  ((List.reverse_perm _).trans (insB_perm x _)).trans ((List.reverse_perm S).cons x)
theorem isort_perm_aux : ∀ (l S : List α), (l.foldl (fun S x => insR c x S) S).Perm (l ++ S)
  | [], _ => List.Perm.refl _
  | x :: l, S => by
    rw [List.foldl_cons]
    exact (isort_perm_aux l _).trans (((insR_perm x S).append_left l).trans List.perm_middle)
theorem isort_perm (l : List α) : (isort c l).Perm l := by have := isort_perm_aux (c := c) l []; rwa [List.append_nil] at this
theorem isort_len (l : List α) : (isort c l).length = l.length := (isort_perm l).length_eq
theorem insB_split (x : α) : ∀ (q p : List α), (∀ y ∈ q, c x y < 0) → (∀ y, p.head? = some y → ¬ c x y < 0) → insB c x (q ++ p) = q ++ x :: p
  | [], p, _, hp => by
    cases p with
    | nil => rfl
    | cons y p => simp only [List.nil_append, insB]; rw [if_neg (hp y rfl)]
  | y :: q, p, hq, hp => by
    simp only [List.cons_append, insB]
    rw [if_pos (hq y (List.mem_cons_self ..)), insB_split x q p (fun z hz => hq z (List.mem_cons_of_mem _ hz)) hp]
/-- Where the element comes to rest. -/
theorem insR_split {x : α} {p q : List α} (hq : ∀ y ∈ q, c x y < 0) (hp : ∀ y, p.getLast? = some y → ¬ c x y < 0) : insR c x (p ++ q) = p ++ x :: q := by
  unfold insR
  rw [List.reverse_append, insB_split x q.reverse p.reverse (fun y hy => hq y (List.mem_reverse.1 hy)) (fun y hy => hp y (by rw [← hy, List.head?_reverse]))]
  simp
theorem insB_sorted (h : Cmp c) (x : α) : ∀ {S : List α}, S.Pairwise (fun a b => c b a ≤ 0) → (insB c x S).Pairwise (fun a b => c b a ≤ 0)
  | [], _ => by simp [insB]
  | y :: r, hS => by
    obtain ⟨h1, h2⟩ := List.pairwise_cons.1 hS
    unfold insB; split
    · rename_i hlt
      refine List.pairwise_cons.2 ⟨fun z hz => ?_, insB_sorted h x h2⟩
      rcases List.mem_cons.1 ((insB_perm x r).mem_iff.1 hz) with rfl | hz
      · omega
      · exact h1 z hz
    · rename_i hge
      have a := h.anti x y
      refine List.pairwise_cons.2 ⟨fun z hz => ?_, hS⟩
      rcases List.mem_cons.1 hz with rfl | hz
      · omega
      · exact h.trans _ _ _ (h1 z hz) (by omega)
theorem isort_sorted (h : Cmp c) (l : List α) : (isort c l).Pairwise (fun a b => c a b ≤ 0) := by
  suffices ∀ (l S : List α), S.Pairwise (fun a b => c a b ≤ 0) → (l.foldl (fun S x => insR c x S) S).Pairwise (fun a b => c a b ≤ 0) from this l [] List.Pairwise.nil
  intro l
  induction l with
  | nil => exact fun _ h => h
  | cons x l ih =>
    intro S hS
    rw [List.foldl_cons]
    refine ih _ ?_
    unfold insR
    exact List.pairwise_reverse.2 (insB_sorted h x (List.pairwise_reverse.2 hS))
/-- Lists in order, with no two that compare equal, are told by their members. -/
theorem strict_unique (h : Cmp c) : ∀ {l m : List α}, l.Pairwise (fun a b => c a b < 0) → m.Pairwise (fun a b => c a b < 0) → (∀ x, x ∈ l ↔ x ∈ m) → l = m
  | [], [], _, _, _ => rfl
  | [], b :: m, _, _, he => absurd ((he b).2 (List.mem_cons_self ..)) (by simp)
  | a :: l, [], _, _, he => absurd ((he a).1 (List.mem_cons_self ..)) (by simp)
  | a :: l, b :: m, hl, hm, he => by
    obtain ⟨l1, l2⟩ := List.pairwise_cons.1 hl
    obtain ⟨m1, m2⟩ := List.pairwise_cons.1 hm
    have rf := h.refl
    have hab : a = b := by
      rcases List.mem_cons.1 ((he a).1 (List.mem_cons_self ..)) with e | e
      · exact e
      rcases List.mem_cons.1 ((he b).2 (List.mem_cons_self ..)) with e2 | e2
      · exact e2.symm
      have := m1 a e; have := l1 b e2; have := h.anti a b
      omega
    subst hab
    have : l = m := strict_unique h l2 m2 fun x => by
      constructor
      · intro hx
        rcases List.mem_cons.1 ((he x).1 (List.mem_cons_of_mem _ hx)) with e | e
        · subst e; have := l1 x hx; have := rf x; omega
        · exact e
      · intro hx
        rcases List.mem_cons.1 ((he x).2 (List.mem_cons_of_mem _ hx)) with e | e
        · subst e; have := m1 x hx; have := rf x; omega
        · exact e
    rw [this]
/-- A list in strict order, in whatever order it is handed over, is sorted into itself. -/
theorem isort_strict (h : Cmp c) {l m : List α} (hm : m.Pairwise (fun a b => c a b < 0)) (hp : l.Perm m) : isort c l = m := by
  have hq := (isort_perm (c := c) l).trans hp
  refine strict_unique h ?_ hm fun x => hq.mem_iff
  have hs := isort_sorted h l
  have hnd : (isort c l).Pairwise (fun a b => c a b ≠ 0) := hq.symm.pairwise (hm.imp (fun {a b} hab => by omega)) (fun {a b} hab => by have := h.anti a b; omega)
  exact (hs.and hnd).imp fun {a b} hab => by have := hab.1; have := hab.2; omega
/-! ### insertion of what is not there yet -/
def insU [DecidableEq α] (c : α → α → Int) (x : α) : Bool → List α → List α
  | d, [] => if d = true then [] else [x]
  | d, y :: r => if y = x then y :: insU c x true r else if d = false ∧ c x y < 0 then x :: y :: insU c x true r else y :: insU c x d r
def sortU [DecidableEq α] (c : α → α → Int) (l : List α) : List α := l.foldl (fun S x => insU c x false S) []
theorem sortU_snoc [DecidableEq α] (l : List α) (x : α) : sortU c (l ++ [x]) = insU c x false (sortU c l) := by simp [sortU]
theorem insU_true [DecidableEq α] (x : α) : ∀ S : List α, insU c x true S = S
  | [] => rfl
  | y :: r => by
    unfold insU
    by_cases h : y = x
    · rw [if_pos h, insU_true x r]
    · rw [if_neg h, if_neg (fun e => by cases e.1), insU_true x r]
theorem insU_len [DecidableEq α] (x : α) : ∀ S : List α, (insU c x false S).length ≤ S.length + 1
  | [] => by simp [insU]
  | y :: r => by
    have := insU_len x r
    unfold insU
    split
    · simp [insU_true]
    · split
      · simp [insU_true]
      · simp only [List.length_cons]; omega
theorem sortU_len [DecidableEq α] (l : List α) : (sortU c l).length ≤ l.length := by
  suffices ∀ (l S : List α), (l.foldl (fun S x => insU c x false S) S).length ≤ l.length + S.length from this l []
  intro l
  induction l with
  | nil => intro S; simp
  | cons x l ih =>
    intro S
    have h1 := ih (insU c x false S); have h2 := insU_len (c := c) x S
    rw [List.foldl_cons, List.length_cons]
    omega
theorem insU_mem [DecidableEq α] (x z : α) : ∀ S : List α, z ∈ insU c x false S ↔ z = x ∨ z ∈ S
  | [] => by simp [insU]
  | y :: r => by
    have ih := insU_mem x z r
    unfold insU
    split
    · rename_i h
      subst h
      simp [insU_true]
    · split
      · simp [insU_true]
      · simp only [List.mem_cons, ih]
        constructor
        · rintro (h | h | h) <;> simp [h]
        · rintro (h | h | h) <;> simp [h]
theorem insU_strict [DecidableEq α] (h : Cmp c) (hz : ∀ x y, c x y = 0 → x = y) (x : α) : ∀ {S : List α}, S.Pairwise (fun a b => c a b < 0) → (insU c x false S).Pairwise (fun a b => c a b < 0)
  | [], _ => by simp [insU]
  | y :: r, hS => by
    obtain ⟨h1, h2⟩ := List.pairwise_cons.1 hS
    unfold insU
    split
    · rw [insU_true]; exact hS
    · rename_i hne
      split
      · rename_i hlt
        rw [insU_true]
        refine List.pairwise_cons.2 ⟨fun z hz => ?_, hS⟩
        rcases List.mem_cons.1 hz with rfl | hz
        · exact hlt.2
        · exact h.ltle hlt.2 (by have := h1 z hz; omega)
      · rename_i hge
        refine List.pairwise_cons.2 ⟨fun z hz' => ?_, insU_strict h hz x h2⟩
        rcases (insU_mem x z r).1 hz' with rfl | hz'
        · have a := h.anti z y
          have : c z y ≠ 0 := fun e => hne (hz _ _ e).symm
          have : ¬ c z y < 0 := fun e => hge ⟨rfl, e⟩
          omega
        · exact h1 z hz'
theorem sortU_strict [DecidableEq α] (h : Cmp c) (hz : ∀ x y, c x y = 0 → x = y) (l : List α) : (sortU c l).Pairwise (fun a b => c a b < 0) := by
  suffices ∀ (l S : List α), S.Pairwise (fun a b => c a b < 0) → (l.foldl (fun S x => insU c x false S) S).Pairwise (fun a b => c a b < 0) from this l [] List.Pairwise.nil
  intro l
  induction l with
  | nil => exact fun _ h => h
  | cons x l ih => intro S hS; rw [List.foldl_cons]; exact ih _ (insU_strict h hz x hS)
theorem sortU_mem [DecidableEq α] (l : List α) (z : α) : z ∈ sortU c l ↔ z ∈ l := by
  suffices ∀ (l S : List α), z ∈ l.foldl (fun S x => insU c x false S) S ↔ z ∈ l ∨ z ∈ S from by simpa [sortU] using this l []
  intro l
  induction l with
  | nil => intro S; simp
  | cons x l ih =>
    intro S
    rw [List.foldl_cons, ih, insU_mem, List.mem_cons]
    constructor
    · rintro (h | h | h) <;> simp [h]
    · rintro ((h | h) | h) <;> simp [h]
theorem sortU_idem [DecidableEq α] (h : Cmp c) (hz : ∀ x y, c x y = 0 → x = y) {l : List α} (hl : l.Pairwise (fun a b => c a b < 0)) : sortU c l = l :=
  strict_unique h (sortU_strict h hz l) hl fun z => sortU_mem l z
theorem insU_at [DecidableEq α] {x y : α} {d : Bool} {O : List α} {j : Nat} (hy : O[j]? = some y) : insU c x d (O.drop j) = if y = x then y :: insU c x true (O.drop (j + 1)) else if d = false ∧ c x y < 0 then x :: y :: insU c x true (O.drop (j + 1)) else y :: insU c x d (O.drop (j + 1)) := by
  rw [drop_of_get hy]; rfl
/-! ### a swap of two neighbours in a list -/
theorem swap_set (p t : List α) (x y : α) : (((p ++ [y]) ++ x :: t).set (p ++ [y]).length y).set p.length x = p ++ x :: y :: t := by
  simp
theorem isort_one (l : List α) : isort c (l.take 1) ++ l.drop 1 = l := by
  cases l with
  | nil => rfl
  | cons x l => simp [isort, insR, insB]
theorem isort_next {l : List α} {i : Nat} {x : α} {p q : List α} (hx : l[i]? = some x) (hpq : isort c (l.take i) = p ++ q) (hq : ∀ y ∈ q, c x y < 0) (hp : ∀ y, p.getLast? = some y → ¬ c x y < 0) : isort c (l.take (i + 1)) = p ++ x :: q := by
  rw [take_of_get hx, isort_snoc, hpq, insR_split hq hp]
theorem snoc_of_pos {l : List α} (h : 0 < l.length) : ∃ p y, l = p ++ [y] := by
  rcases List.eq_nil_or_concat l with rfl | ⟨p, y, rfl⟩
  · simp at h
  · exact ⟨p, y, List.concat_eq_append⟩
theorem get_mid (p t : List α) (x : α) : (p ++ x :: t)[p.length]? = some x := by simp
end
end Go.Sep
