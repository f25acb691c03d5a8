/- Exchanges, and slices.Clone. Own text (walks printed by sx.py). -/
import Derived.Test.YtneimfacccgaeaaV28
import Derived.Test.YtneimfacccgaeaaVx
namespace Go.Proofs.Ytneimfacccgaeaa
open Go.RowKit Go.Flow Go.Mem Go.Sep
theorem swap_list {m : List Ev} {k : Nat} {u v : Ev} (hu : m[k]? = some u) (hv : m[k + 1]? = some v) : m = m.take k ++ u :: v :: m.drop (k + 2) := by
  conv => lhs; rw [← List.take_append_drop k m, drop_of_get hu, drop_of_get hv]
theorem swap_set {m : List Ev} {k : Nat} {u v : Ev} (hu : m[k]? = some u) (hv : m[k + 1]? = some v) : (m.set k v).set (k + 1) u = m.take k ++ v :: u :: m.drop (k + 2) := by
  have h1 := (List.getElem?_eq_some_iff.1 hv).1
  have hk : (m.take k).length = k := by rw [List.length_take]; omega
  have e : ∀ (A : List Ev) (B : List Ev), A.length = k → ((A ++ u :: v :: B).set k v).set (k + 1) u = A ++ v :: u :: B := fun A B hA => by
    rw [List.set_append_right _ _ (by omega), List.set_append_right _ _ (by omega), hA]
    simp
  conv => lhs; rw [swap_list hu hv]
  exact e _ _ hk
theorem Swap.of {m : List Ev} {k : Nat} {u v : Ev} (hu : m[k]? = some u) (hv : m[k + 1]? = some v) : Swap m ((m.set k v).set (k + 1) u) k where
  at_ i := by
    have h1 := (List.getElem?_eq_some_iff.1 hv).1
    rw [List.getElem?_set, List.getElem?_set]
    unfold sw
    by_cases e1 : i = k + 1
    · subst e1; simp [h1, hu]
    · rw [if_neg (fun h => e1 h.symm)]
      by_cases e2 : i = k
      · subst e2; rw [if_pos rfl, if_pos (by omega), if_pos rfl, hv]
      · rw [if_neg (fun h => e2 h.symm), if_neg e2, if_neg e1]
  len := by simp
  lt := (List.getElem?_eq_some_iff.1 hv).1
theorem Swap.ne {m : List Ev} {k : Nat} {u v : Ev} (hu : m[k]? = some u) (hv : m[k + 1]? = some v) (hd : u.dep v = true) (hne : ¬ u.val = v.val) : ¬ normV m = normV ((m.set k v).set (k + 1) u) := fun e => by
  let Q : List Int → Bool := fun z => decide (z = u.val) || decide (z = v.val)
  have hQ : ∀ (l : List Ev) (i j : Nat) (x y : Ev), i < j → l[i]? = some x → l[j]? = some y → Q x.val = true → Q y.val = true → x.dep y = true := by
    intro l i j x y _ _ _ h1 h2
    have h1 : x.val = u.val ∨ x.val = v.val := by simpa [Q] using h1
    have h2 : y.val = u.val ∨ y.val = v.val := by simpa [Q] using h2
    rcases h1 with h1 | h1 <;> rcases h2 with h2 | h2 <;> rw [dep_val h1 h2]
    · exact dep_self u
    · exact hd
    · rw [dep_comm]; exact hd
    · exact dep_self v
  have p1 := norm_proj (l := m) Q (hQ m)
  have p2 := norm_proj (l := (m.set k v).set (k + 1) u) Q (hQ _)
  rw [← e, p1, swap_set hu hv] at p2
  conv at p2 => lhs; rw [swap_list hu hv]
  simp only [List.map_append, List.map_cons, List.filter_append] at p2
  have q1 : Q u.val = true := by simp [Q]
  have q2 : Q v.val = true := by simp [Q]
  rw [List.filter_cons_of_pos q1, List.filter_cons_of_pos q2, List.filter_cons_of_pos q2, List.filter_cons_of_pos q1] at p2
  have := List.append_cancel_left p2
  simp only [List.cons.injEq] at this
  exact hne this.1
theorem swap_filter {m : List Ev} {k : Nat} {u v : Ev} (hu : m[k]? = some u) (hv : m[k + 1]? = some v) (hd : u.dep v = false) (c : Int) : ((m.set k v).set (k + 1) u).filter (fun e => decide (e.c = c)) = m.filter (fun e => decide (e.c = c)) := by
  have hc : ¬ u.c = v.c := fun h => by
    have := (dep_iff u v).2 (.inl h)
    rw [this] at hd; cases hd
  rw [swap_set hu hv]
  conv => rhs; rw [swap_list hu hv]
  rw [List.filter_append, List.filter_append]
  congr 1
  by_cases h1 : u.c = c
  · have h2 : ¬ v.c = c := fun h => hc (h1.trans h.symm)
    simp [h1, h2]
  · by_cases h2 : v.c = c <;> simp [h1, h2]
theorem swap_mem {m a : List Ev} {k : Nat} {u v : Ev} (hu : m[k]? = some u) (hv : m[k + 1]? = some v) (h : ∀ e ∈ m, e ∈ a) : ∀ e ∈ (m.set k v).set (k + 1) u, e ∈ a := fun e he => by
  rcases List.mem_or_eq_of_mem_set he with h1 | rfl
  · rcases List.mem_or_eq_of_mem_set h1 with h2 | rfl
    · exact h e h2
    · exact h _ (List.mem_of_getElem? hv)
  · exact h _ (List.mem_of_getElem? hu)
set_option maxHeartbeats 2000000 in
set_option maxRecDepth 100000 in
theorem cloneS_fn (Al : Option Addr) (cl : Nat) (l : List Ev) (hA : Al.isNone = false) (hl : l.length ≤ 1000000) :
    Does Try.prog 30 [.slice Al l.length cl] [ros Ev.cells Al l] (fun v Γ' => ∃ A q, v = .slice A l.length q ∧ Γ' = [rows Ev.cells 37 9 A q l]) := by
  refine Does.enter Try.func30 rfl Try.ntmps30 rfl (fun w0 => ?_)
  refine To.seq ?_
  refine To.reg ?_
  refine To.rd rfl rfl rfl (Rd.assign rfl rfl) ?_
  refine To.nil ?_
  refine To.thenN ?_
  refine To.seq ?_
  refine To.seq ?_
  refine To.reg ?_
  refine To.rd rfl rfl rfl (Rd.move rfl rfl) ?_
  refine To.rd rfl rfl rfl (Rd.as (v' := .bool false) (congrArg Value.bool hA) (Rd.eqlSl rfl Try.underlying22 rfl rfl)) ?_
  refine To.nil ?_
  refine To.thenN ?_
  refine To.condF rfl ?_
  refine To.skip ?_
  refine To.thenN ?_
  refine To.seq ?_
  refine To.reg ?_
  refine To.mk rfl rfl rfl (Mk.slice0R (enc := Ev.cells) rfl s22) ?_
  rintro _ _ ⟨A5, rfl, rfl⟩
  refine To.as [rows Ev.cells 37 9 A5 0 ([] : List Ev), ros Ev.cells Al l] rfl ?_
  refine To.rd rfl rfl rfl (Rd.move rfl rfl) ?_
  refine To.ge rfl rfl rfl (Ge.appendL encE (i := 0) (m := l) rfl s22 rfl rfl rfl (src_ro (i := 1) rfl) (by first | omega | (simp only [List.length_append, List.length_cons, List.length_nil]; omega)) (by first | omega | (simp only [List.length_append, List.length_cons, List.length_nil]; omega))) ?_
  rintro _ _ ⟨A7, q7, rfl, rfl⟩
  refine To.as [rows Ev.cells 37 9 A7 q7 (([] : List Ev) ++ l), ros Ev.cells Al l] rfl ?_
  refine To.rd rfl rfl rfl (Rd.assign rfl rfl) ?_
  refine To.nil ?_
  refine To.thenN ?_
  refine To.ret ?_
  refine To.only [0] rfl ?_
  refine To.end1 (.inl rfl) Try.results30 rfl ?_
  exact ⟨_, _, rfl, rfl⟩
end Go.Proofs.Ytneimfacccgaeaa
