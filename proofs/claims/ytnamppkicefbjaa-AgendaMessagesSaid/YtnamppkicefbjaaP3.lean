/- Plain law: the agenda's list and the reference's list. No program in sight. Own text. -/
import Derived.Test.YtnamppkicefbjaaR1
namespace Go.Proofs.Ytnamppkicefbjaa
open Go.RowKit Go.Flow Go.Mem

def En.rkey (e : En) : List Int := [e.t, rs e.s, pl0 e.s e.p e.n e.h, pl1 e.s e.n, pl2 e.s e.k]
def En.rle (x y : En) : Bool := lexLe x.rkey y.rkey
def bef (x y : En) : Bool := rlt5 x.t (rs x.s) (pl0 x.s x.p x.n x.h) (pl1 x.s x.n) (pl2 x.s x.k) y.t (rs y.s) (pl0 y.s y.p y.n y.h) (pl1 y.s y.n) (pl2 y.s y.k)
def Good (e : En) : Prop := e.s = 4 ∨ e.s = 5 ∨ e.s = 6
theorem rs_good {e : En} (h : Good e) : rs e.s = e.s := by
  rcases h with h | h | h <;> rw [h] <;> rfl
theorem rle_trans {x y z : En} (h : x.rle y = true) (k : y.rle z = true) : x.rle z = true := lexLe_trans _ _ _ h k
theorem rle_total (x y : En) : x.rle y = true ∨ y.rle x = true := lexLe_total _ _ rfl
theorem lexLe_same (a : Int) (r r' : List Int) : lexLe (a :: r) (a :: r') = lexLe r r' := by
  simp [lexLe]
theorem le_rle {x y : En} (hx : Good x) (hy : Good y) (hc : x.c = y.c) : x.le y = x.rle y := by
  unfold En.le En.rle En.key En.rkey
  rw [rs_good hx, rs_good hy, hc, lexLe_same]
theorem le_apart {x y : En} (hc : x.c ≠ y.c) : x.le y = decide (x.c < y.c) := by
  unfold En.le En.key
  simp only [lexLe]
  rcases Int.lt_trichotomy x.c y.c with h | h | h
  · simp [h]
  · exact absurd h hc
  · have h1 : ¬ x.c < y.c := by omega
    simp [h, h1]
theorem bef_rle (x y : En) : bef x y = !y.rle x := by
  unfold bef rlt5 En.rle En.rkey
  simp only [lexLe]
  generalize rs x.s = x0
  generalize pl0 x.s x.p x.n x.h = x1
  generalize pl1 x.s x.n = x2
  generalize pl2 x.s x.k = x3
  generalize rs y.s = y0
  generalize pl0 y.s y.p y.n y.h = y1
  generalize pl1 y.s y.n = y2
  generalize pl2 y.s y.k = y3
  have step : ∀ (a b : Int) (R R' : Bool), R = !R' → (if a ≠ b then decide (a < b) else R) = !(if b < a then true else if a < b then false else R') := by
    intro a b R R' h
    rcases Int.lt_trichotomy a b with h1 | h1 | h1
    · have h2 : ¬ b < a := by omega
      have h3 : a ≠ b := by omega
      simp [h1, h2, h3]
    · subst h1; simpa using h
    · have h2 : ¬ a < b := by omega
      have h3 : a ≠ b := by omega
      simp [h1, h2, h3]
  refine step _ _ _ _ (step _ _ _ _ (step _ _ _ _ (step _ _ _ _ ?_)))
  have := step x3 y3 false true rfl
  rcases Int.lt_trichotomy x3 y3 with h1 | h1 | h1
  · have h2 : ¬ y3 < x3 := by omega
    simp [h1, h2]
  · subst h1; simp
  · have h2 : ¬ x3 < y3 := by omega
    simp [h1, h2]

/-! ### the reference's insertion -/
def SortedR (l : List En) : Prop := l.Pairwise fun x y => x.rle y = true
def insW (x : En) : List En → List En
  | [] => [x]
  | y :: r => if bef x y = true then x :: y :: r else y :: insW x r
theorem insW_split (x : En) : ∀ (l1 l2 : List En), (∀ y ∈ l1, bef x y = false) → insW x (l1 ++ l2) = l1 ++ insW x l2
  | [], _, _ => rfl
  | y :: r, l2, h => by
    have h1 : bef x y = false := h y List.mem_cons_self
    show (if bef x y = true then _ else _) = _
    rw [if_neg (by simp [h1])]
    have := insW_split x r l2 (fun z hz => h z (List.mem_cons_of_mem _ hz))
    show y :: insW x (r ++ l2) = _
    rw [this]; rfl
theorem insW_parts (x : En) : ∀ l : List En, ∃ l1 l2, l = l1 ++ l2 ∧ insW x l = l1 ++ x :: l2
  | [] => ⟨[], [], rfl, rfl⟩
  | y :: r => by
    by_cases h : bef x y = true
    · exact ⟨[], y :: r, rfl, by simp [insW, h]⟩
    · obtain ⟨l1, l2, h1, h2⟩ := insW_parts x r
      exact ⟨y :: l1, l2, by rw [h1]; rfl, by simp [insW, h, h2]⟩
def insF (x : En) (l : List En) : List En := l.filter (fun y => y.rle x) ++ x :: l.filter (fun y => !y.rle x)
theorem insW_insF (x : En) : ∀ l : List En, SortedR l → insW x l = insF x l
  | [], _ => rfl
  | y :: r, h => by
    have hr := (List.pairwise_cons.1 h)
    by_cases hb : bef x y = true
    · have hy : y.rle x = false := by rw [bef_rle] at hb; simpa using hb
      have hall : ∀ z ∈ r, z.rle x = false := fun z hz => by
        cases hc : z.rle x with
        | false => rfl
        | true => rw [rle_trans (hr.1 z hz) hc] at hy; cases hy
      have e1 : r.filter (fun y => y.rle x) = [] := List.filter_eq_nil_iff.2 fun z hz => by simp [hall z hz]
      have e2 : r.filter (fun y => !y.rle x) = r := List.filter_eq_self.2 fun z hz => by simp [hall z hz]
      simp [insW, hb, insF, hy, e1, e2]
    · have hy : y.rle x = true := by rw [bef_rle] at hb; simpa using hb
      have := insW_insF x r hr.2
      simp [insW, hb, insF, hy, this]
theorem insF_sorted {x : En} {l : List En} (h : SortedR l) : SortedR (insF x l) := by
  unfold SortedR insF
  rw [List.pairwise_append]
  refine ⟨List.Pairwise.filter _ h, ?_, ?_⟩
  · rw [List.pairwise_cons]
    refine ⟨fun y hy => ?_, List.Pairwise.filter _ h⟩
    have := (List.mem_filter.1 hy).2
    rcases rle_total x y with h1 | h1
    · exact h1
    · simp [h1] at this
  · intro y hy z hz
    have h1 : y.rle x = true := (List.mem_filter.1 hy).2
    rcases List.mem_cons.1 hz with rfl | hz
    · exact h1
    · have h2 := (List.mem_filter.1 hz).2
      rcases rle_total x z with h3 | h3
      · exact rle_trans h1 h3
      · simp [h3] at h2
theorem insW_sorted {x : En} {l : List En} (h : SortedR l) : SortedR (insW x l) := by
  rw [insW_insF x l h]; exact insF_sorted h
theorem insW_perm (x : En) (l : List En) : (insW x l).Perm (x :: l) := by
  obtain ⟨l1, l2, h1, h2⟩ := insW_parts x l
  rw [h2, h1]
  exact List.perm_middle
theorem filter_perm {α : Type} (p : α → Bool) : ∀ L : List α, (L.filter p ++ L.filter fun y => !p y).Perm L
  | [] => List.Perm.nil
  | x :: L => by
    have h := filter_perm p L
    cases hp : p x
    · simp only [List.filter_cons, hp]
      simp only [Bool.not_false, if_true, Bool.false_eq_true, if_false]
      exact List.perm_middle.trans (h.cons x)
    · simp only [List.filter_cons, hp]
      simp only [Bool.not_true, if_true, Bool.false_eq_true, if_false]
      exact h.cons x
theorem insE_perm (x : En) (L : List En) : (insE x L).Perm (x :: L) := by
  unfold insE
  exact List.perm_middle.trans ((filter_perm (fun y => y.le x) L).cons x)

/-! ### both lists say the same -/
def comp (c : Int) (e : En) : Bool := decide (e.c = c)
structure Same (L l : List En) : Prop where
  sl : SortedR l
  gL : ∀ e ∈ L, Good e
  gl : ∀ e ∈ l, Good e
  eq : ∀ c, (L.filter (comp c)).map En.bare = (l.filter (comp c)).map En.bare
  perm : (L.map En.bare).Perm (l.map En.bare)
theorem Same.len {L l : List En} (h : Same L l) : L.length = l.length := by
  have := h.perm.length_eq
  simpa using this
theorem bare_filter (p : En → Bool) (hp : ∀ e : En, p e.bare = p e) (L : List En) : (L.filter p).map En.bare = (L.map En.bare).filter p := by
  induction L with
  | nil => rfl
  | cons e L ih =>
    rw [List.map_cons, List.filter_cons, List.filter_cons, hp e]
    cases p e <;> simp [ih]
theorem filter_swap (p q : En → Bool) (L : List En) : (L.filter p).filter q = (L.filter q).filter p := by
  rw [List.filter_filter, List.filter_filter]
  congr 1
  funext e
  exact Bool.and_comm _ _
theorem Same.filter {L l : List En} (h : Same L l) (p : En → Bool) (hp : ∀ e : En, p e.bare = p e) : Same (L.filter p) (l.filter p) := by
  refine ⟨List.Pairwise.filter _ h.sl, fun e he => h.gL e (List.mem_filter.1 he).1, fun e he => h.gl e (List.mem_filter.1 he).1, fun c => ?_, ?_⟩
  · rw [filter_swap p, filter_swap p, bare_filter p hp, bare_filter p hp, h.eq c]
  · rw [bare_filter p hp, bare_filter p hp]
    exact h.perm.filter p
theorem Same.nil : Same [] [] := ⟨List.Pairwise.nil, fun _ h => (List.not_mem_nil h).elim, fun _ h => (List.not_mem_nil h).elim, fun _ => rfl, List.Perm.nil⟩
theorem Same.take {L l : List En} (h : Same L l) (c tick : Int) : (L.filter (inTake c tick)).map En.bare = (l.filter (inTake c tick)).map En.bare := by
  have e : ∀ N : List En, N.filter (inTake c tick) = (N.filter (comp c)).filter (fun e => decide (e.t ≤ tick)) := fun N => by
    rw [List.filter_filter]
    congr 1
    funext e
    simp only [inTake, comp, Bool.decide_and]
    exact Bool.and_comm _ _
  rw [e L, e l, bare_filter (fun e => decide (e.t ≤ tick)) (fun _ => rfl) (L.filter (comp c)), bare_filter (fun e => decide (e.t ≤ tick)) (fun _ => rfl) (l.filter (comp c)), h.eq c]
theorem insE_comp {x : En} {L : List En} (hx : Good x) (hL : ∀ e ∈ L, Good e) : (insE x L).filter (comp x.c) = insF x (L.filter (comp x.c)) := by
  unfold insE insF
  have hxc : comp x.c x = true := by simp [comp]
  rw [List.filter_append, List.filter_cons, if_pos hxc, filter_swap _ (comp x.c), filter_swap _ (comp x.c)]
  have e1 : ∀ e ∈ L.filter (comp x.c), e.le x = e.rle x := fun e he => by
    have h1 := List.mem_filter.1 he
    exact le_rle (hL e h1.1) hx (by simpa [comp] using h1.2)
  rw [List.filter_congr (p := fun y : En => y.le x) (q := fun y : En => y.rle x) (fun e he => e1 e he), List.filter_congr (p := fun y : En => !y.le x) (q := fun y : En => !y.rle x) (fun e he => by rw [e1 e he])]
theorem insF_comp (x : En) (l : List En) : (insF x l).filter (comp x.c) = insF x (l.filter (comp x.c)) := by
  unfold insF
  have hxc : comp x.c x = true := by simp [comp]
  rw [List.filter_append, List.filter_cons, if_pos hxc, filter_swap _ (comp x.c), filter_swap _ (comp x.c)]
theorem insF_bare (x : En) (l : List En) : (insF x l).map En.bare = insF x.bare (l.map En.bare) := by
  unfold insF
  rw [List.map_append, List.map_cons, bare_filter _ (fun _ => rfl), bare_filter _ (fun _ => rfl)]
  rfl
theorem insE_other {x : En} {L : List En} {c : Int} (hc : x.c ≠ c) : (insE x L).filter (comp c) = L.filter (comp c) := by
  unfold insE
  have hxc : comp c x = false := by simp [comp, hc]
  rw [List.filter_append, List.filter_cons, if_neg (by simp [hxc]), filter_swap _ (comp c), filter_swap _ (comp c)]
  have e1 : ∀ e ∈ L.filter (comp c), e.le x = decide (c < x.c) := fun e he => by
    have h1 := (List.mem_filter.1 he).2
    have h2 : e.c = c := by simpa [comp] using h1
    rw [le_apart (by omega), h2]
  rw [List.filter_congr (p := fun y : En => y.le x) (q := fun _ => decide (c < x.c)) (fun e he => e1 e he), List.filter_congr (p := fun y : En => !y.le x) (q := fun _ => !decide (c < x.c)) (fun e he => by rw [e1 e he])]
  by_cases h : c < x.c
  · simp [h]
  · simp [h]
theorem insW_other {x : En} {l : List En} {c : Int} (hc : x.c ≠ c) : (insW x l).filter (comp c) = l.filter (comp c) := by
  obtain ⟨l1, l2, h1, h2⟩ := insW_parts x l
  have hxc : comp c x = false := by simp [comp, hc]
  rw [h2, h1, List.filter_append, List.filter_cons, if_neg (by simp [hxc]), List.filter_append]
theorem Same.add {L l : List En} (h : Same L l) {x x' : En} (hx : Good x) (hb : x'.bare = x.bare) : Same (insE x' L) (insW x l) := by
  have hx' : Good x' := by
    have : x'.s = x.s := by have h1 := congrArg En.s hb; exact h1
    unfold Good at *
    rw [this]; exact hx
  have hcc : x'.c = x.c := by have h1 := congrArg En.c hb; exact h1
  refine ⟨insW_sorted h.sl, fun e he => ?_, fun e he => ?_, fun c => ?_, ?_⟩
  · rcases List.mem_cons.1 ((insE_perm x' L).mem_iff.1 he) with rfl | h1
    · exact hx'
    · exact h.gL e h1
  · rcases List.mem_cons.1 ((insW_perm x l).mem_iff.1 he) with rfl | h1
    · exact hx
    · exact h.gl e h1
  · by_cases hc : x.c = c
    · subst hc
      rw [← hcc, insE_comp hx' h.gL, hcc, insW_insF x l h.sl, insF_comp, insF_bare, insF_bare, hb, h.eq]
    · rw [insE_other (by omega), insW_other hc, h.eq]
  · refine ((insE_perm x' L).map _).trans (List.Perm.trans ?_ ((insW_perm x l).map _).symm)
    rw [List.map_cons, List.map_cons, hb]
    exact h.perm.cons _
end Go.Proofs.Ytnamppkicefbjaa
