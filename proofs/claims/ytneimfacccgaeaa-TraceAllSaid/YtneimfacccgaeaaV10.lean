/- The order of events, and the steps that Normal makes. Own text (walks printed by sx.py). -/
import Derived.Test.YtneimfacccgaeaaV9
import Derived.Test.YtneimfacccgaeaaL4
namespace Go.Proofs.Ytneimfacccgaeaa
open Go.RowKit Go.Flow Go.Mem Go.Sep
theorem cmpI_zero (a b : Int) : cmpI a b = 0 ↔ a = b := by unfold cmpI; split <;> (try split) <;> omega
theorem cmpI_neg (a b : Int) : cmpI b a = - cmpI a b := by unfold cmpI; repeat' split
                                                           all_goals omega
theorem cmpL_neg : ∀ l m : List Int, cmpL m l = - cmpL l m
  | [], [] => rfl
  | [], _ :: _ => rfl
  | _ :: _, [] => rfl
  | a :: l, b :: m => by
    unfold cmpL
    rw [cmpI_neg a b, cmpL_neg l m]
    by_cases h : cmpI a b = 0
    · rw [if_pos h, if_pos (by omega)]
    · rw [if_neg h, if_neg (by omega)]
theorem cmpL_zero : ∀ l m : List Int, cmpL l m = 0 ↔ l = m
  | [], [] => by simp [cmpL]
  | [], _ :: _ => by simp [cmpL]
  | _ :: _, [] => by simp [cmpL]
  | a :: l, b :: m => by
    unfold cmpL
    by_cases h : cmpI a b = 0
    · rw [if_pos h, cmpL_zero l m]; simp [(cmpI_zero a b).1 h]
    · rw [if_neg h]; simp only [List.cons.injEq]
      exact ⟨fun e => (h e).elim, fun e => (h ((cmpI_zero a b).2 e.1)).elim⟩
theorem cmpI_lt (a b : Int) : cmpI a b < 0 ↔ a < b := by unfold cmpI; split <;> (try split) <;> omega
theorem cmpL_trans : ∀ l m n : List Int, cmpL l m < 0 → cmpL m n < 0 → cmpL l n < 0
  | [], [], n, h, _ => by simp [cmpL] at h
  | _ :: _, [], n, h, _ => by simp [cmpL] at h
  | [], _ :: _, [], _, h => by simp [cmpL] at h
  | [], _ :: _, _ :: _, _, _ => by simp [cmpL]
  | _ :: _, _ :: _, [], _, h => by simp [cmpL] at h
  | a :: l, b :: m, c :: n, h1, h2 => by
    unfold cmpL at h1 h2 ⊢
    by_cases e1 : cmpI a b = 0
    · rw [if_pos e1] at h1
      obtain rfl := (cmpI_zero a b).1 e1
      by_cases e2 : cmpI a c = 0
      · rw [if_pos e2] at h2 ⊢; exact cmpL_trans l m n h1 h2
      · rw [if_neg e2] at h2 ⊢; exact h2
    · rw [if_neg e1] at h1
      have l1 := (cmpI_lt a b).1 h1
      by_cases e2 : cmpI b c = 0
      · obtain rfl := (cmpI_zero b c).1 e2
        rw [if_neg e1]; exact h1
      · rw [if_neg e2] at h2
        have l2 := (cmpI_lt b c).1 h2
        have l3 : cmpI a c < 0 := (cmpI_lt a c).2 (by omega)
        rw [if_neg (by omega)]; exact l3
theorem cmpL_self (l : List Int) : cmpL l l = 0 := (cmpL_zero l l).2 rfl
/-- Not after. -/
def leV (a b : List Int) : Prop := ¬ cmpL b a < 0
theorem leV_total (a b : List Int) : leV a b ∨ leV b a := by
  unfold leV; have := cmpL_neg a b; omega
theorem leV_anti {a b : List Int} (h1 : leV a b) (h2 : leV b a) : a = b := (cmpL_zero a b).1 (by unfold leV at *; have := cmpL_neg a b; omega)
theorem leV_trans {a b c : List Int} (h1 : leV a b) (h2 : leV b c) : leV a c := by
  unfold leV at *
  intro h
  by_cases e : cmpL c b < 0
  · exact h2 e
  · rcases Int.lt_trichotomy (cmpL b c) 0 with h3 | h3 | h3
    · exact h1 (cmpL_trans b c a h3 h)
    · obtain rfl := (cmpL_zero b c).1 h3; exact h1 h
    · have := cmpL_neg b c; omega
/-- A value at its place, behind those that are not after it. -/
def insV (e : List Int) : List (List Int) → List (List Int)
  | [] => [e]
  | x :: l => if cmpL e x < 0 then e :: x :: l else x :: insV e l
theorem insV_perm (e : List Int) : ∀ l, (insV e l).Perm (e :: l)
  | [] => List.Perm.refl _
  | x :: l => by
    unfold insV
    split
    · exact List.Perm.refl _
    · exact ((insV_perm e l).cons x).trans (List.Perm.swap _ _ _)
theorem insV_sorted (e : List Int) : ∀ l, l.Pairwise leV → (insV e l).Pairwise leV
  | [], _ => by simp [insV]
  | x :: l, h => by
    rw [List.pairwise_cons] at h
    unfold insV
    split
    · rename_i h1
      have h2 : leV e x := by unfold leV; have := cmpL_neg e x; omega
      refine List.pairwise_cons.2 ⟨fun y hy => ?_, List.pairwise_cons.2 h⟩
      rcases List.mem_cons.1 hy with rfl | h3
      · exact h2
      · exact leV_trans h2 (h.1 y h3)
    · rename_i h1
      refine List.pairwise_cons.2 ⟨fun y hy => ?_, insV_sorted e l h.2⟩
      rcases List.mem_cons.1 ((insV_perm e l).mem_iff.1 hy) with rfl | h3
      · exact h1
      · exact h.1 y h3
def sortV (l : List (List Int)) : List (List Int) := l.foldl (fun o e => insV e o) []
theorem sortV_snoc (l : List (List Int)) (e : List Int) : sortV (l ++ [e]) = insV e (sortV l) := by simp [sortV]
theorem foldl_ins : ∀ (l o : List (List Int)), o.Pairwise leV → (l.foldl (fun o e => insV e o) o).Pairwise leV ∧ (l.foldl (fun o e => insV e o) o).Perm (o ++ l)
  | [], o, h => ⟨h, by simp⟩
  | e :: l, o, h => by
    obtain ⟨h1, h2⟩ := foldl_ins l (insV e o) (insV_sorted e o h)
    exact ⟨h1, h2.trans (((insV_perm e o).append_right l).trans (by simpa using List.perm_middle.symm))⟩
theorem sortV_sorted (l : List (List Int)) : (sortV l).Pairwise leV := (foldl_ins l [] List.Pairwise.nil).1
theorem sortV_perm (l : List (List Int)) : (sortV l).Perm l := (foldl_ins l [] List.Pairwise.nil).2.trans (List.Perm.of_eq (List.nil_append l))
theorem sorted_uniq : ∀ {l m : List (List Int)}, l.Perm m → l.Pairwise leV → m.Pairwise leV → l = m
  | [], m, p, _, _ => (List.nil_perm.1 p).symm
  | x :: l, [], p, _, _ => (List.perm_nil.1 p)
  | x :: l, y :: m, p, h1, h2 => by
    rw [List.pairwise_cons] at h1 h2
    have hx : x ∈ y :: m := p.mem_iff.1 (List.mem_cons_self ..)
    have hy : y ∈ x :: l := p.mem_iff.2 (List.mem_cons_self ..)
    have e : x = y := by
      rcases List.mem_cons.1 hx with h | h
      · exact h
      · rcases List.mem_cons.1 hy with h' | h'
        · exact h'.symm
        · exact leV_anti (h1.1 y h') (h2.1 x h)
    subst e
    rw [sorted_uniq (List.perm_cons x |>.1 p) h1.2 h2.2]
theorem sorted_eq {l m : List (List Int)} (p : l.Perm m) (h : l.Pairwise leV) : l = sortV m := sorted_uniq (p.trans (sortV_perm m).symm) h (sortV_sorted m)
theorem sortV_congr {l m : List (List Int)} (p : l.Perm m) : sortV l = sortV m := sorted_eq ((sortV_perm l).trans p) (sortV_sorted l)
/-- What Normal has seen, the steps of the events themselves. -/
structure NS where
  next : List (Int × Int)
  after : List ((Int × Int × Int) × Int)
  till : List ((Int × Int × Int) × Int)
  steps : List (List Ev)
def NS.at_ (s : NS) (e : Ev) : Int :=
  if e.rl = 1 then max ((aget s.next e.c).getD 0) ((aget s.till e.key).getD 0)
  else if e.rl = 2 then max ((aget s.next e.c).getD 0) ((aget s.after e.key).getD 0)
  else (aget s.next e.c).getD 0
def put (st : List (List Ev)) (k : Nat) (e : Ev) : List (List Ev) := if k = st.length then st ++ [[e]] else st.set k ((st[k]?).getD [] ++ [e])
def NS.step (s : NS) (e : Ev) : NS where
  next := aset s.next e.c (s.at_ e + 1)
  after := if e.rl = 1 then aset s.after e.key (max ((aget s.after e.key).getD 0) (s.at_ e + 1)) else s.after
  till := if e.rl = 2 then aset s.till e.key (max ((aget s.till e.key).getD 0) (s.at_ e + 1)) else s.till
  steps := put s.steps (s.at_ e).toNat e
def NS.all (s : NS) (l : List Ev) : NS := l.foldl NS.step s
def NS.nil : NS := ⟨[], [], [], []⟩
theorem NS.all_snoc (s : NS) {l : List Ev} {i : Nat} {e : Ev} (h : l[i]? = some e) : s.all (l.take (i + 1)) = (s.all (l.take i)).step e := by
  rw [take_of_get h]; simp [NS.all]
/-- The numbers stay within the steps that are there. -/
structure NS.Ok (s : NS) : Prop where
  next : ∀ c, 0 ≤ (aget s.next c).getD 0 ∧ (aget s.next c).getD 0 ≤ s.steps.length
  after : ∀ c, 0 ≤ (aget s.after c).getD 0 ∧ (aget s.after c).getD 0 ≤ s.steps.length
  till : ∀ c, 0 ≤ (aget s.till c).getD 0 ∧ (aget s.till c).getD 0 ≤ s.steps.length
theorem NS.Ok.nil : NS.nil.Ok := ⟨fun _ => by simp [NS.nil, aget], fun _ => by simp [NS.nil, aget], fun _ => by simp [NS.nil, aget]⟩
theorem NS.Ok.at_ {s : NS} (h : s.Ok) (e : Ev) : 0 ≤ s.at_ e ∧ s.at_ e ≤ s.steps.length := by
  have h1 := h.next e.c; have h2 := h.after e.key; have h3 := h.till e.key
  unfold NS.at_
  split
  · omega
  · split <;> omega
theorem put_length {st : List (List Ev)} {k : Nat} {e : Ev} (h : k ≤ st.length) : st.length ≤ (put st k e).length ∧ k < (put st k e).length := by
  unfold put
  split
  · simp; omega
  · simp; omega
theorem NS.Ok.step {s : NS} (h : s.Ok) (e : Ev) : (s.step e).Ok := by
  have ha := h.at_ e
  obtain ⟨l1, l2⟩ := put_length (st := s.steps) (k := (s.at_ e).toNat) (e := e) (by omega)
  refine ⟨fun c => ?_, fun c => ?_, fun c => ?_⟩
  · have := h.next c
    show 0 ≤ (aget (aset s.next e.c (s.at_ e + 1)) c).getD 0 ∧ (aget (aset s.next e.c (s.at_ e + 1)) c).getD 0 ≤ ((put s.steps (s.at_ e).toNat e).length : Int)
    rw [aget_aset]
    split
    · simp only [Option.getD_some]; omega
    · omega
  · have := h.after c
    have h2 := h.after e.key
    show 0 ≤ (aget (if e.rl = 1 then aset s.after e.key (max ((aget s.after e.key).getD 0) (s.at_ e + 1)) else s.after) c).getD 0 ∧ (aget (if e.rl = 1 then aset s.after e.key (max ((aget s.after e.key).getD 0) (s.at_ e + 1)) else s.after) c).getD 0 ≤ ((put s.steps (s.at_ e).toNat e).length : Int)
    split
    · rw [aget_aset]
      split
      · simp only [Option.getD_some]; omega
      · omega
    · omega
  · have := h.till c
    have h2 := h.till e.key
    show 0 ≤ (aget (if e.rl = 2 then aset s.till e.key (max ((aget s.till e.key).getD 0) (s.at_ e + 1)) else s.till) c).getD 0 ∧ (aget (if e.rl = 2 then aset s.till e.key (max ((aget s.till e.key).getD 0) (s.at_ e + 1)) else s.till) c).getD 0 ≤ ((put s.steps (s.at_ e).toNat e).length : Int)
    split
    · rw [aget_aset]
      split
      · simp only [Option.getD_some]; omega
      · omega
    · omega
theorem NS.Ok.all {s : NS} (h : s.Ok) : ∀ l : List Ev, (s.all l).Ok := by
  intro l
  induction l generalizing s with
  | nil => exact h
  | cons e l ih => exact ih (h.step e)
theorem put_count (st : List (List Ev)) (k : Nat) (e : Ev) (h : k ≤ st.length) : (put st k e).length ≤ st.length + 1 := by
  unfold put
  split <;> simp
theorem NS.steps_le (s : NS) (h : s.Ok) : ∀ l : List Ev, (s.all l).steps.length ≤ s.steps.length + l.length := by
  intro l
  induction l generalizing s with
  | nil => simp [NS.all]
  | cons e l ih =>
    have h1 := ih (s.step e) (h.step e)
    have h2 := put_count s.steps (s.at_ e).toNat e (by have := h.at_ e; omega)
    have h3 : (s.step e).steps.length = (put s.steps (s.at_ e).toNat e).length := rfl
    show ((s.step e).all l).steps.length ≤ _
    simp only [List.length_cons]; omega
end Go.Proofs.Ytneimfacccgaeaa
