/- Units without tables, sends and disk run as they are verified. Plain facts. Own text. -/
import Derived.Test.YtoehnbacbobhiaaGreatDoorX9
set_option linter.unusedVariables false
set_option linter.unusedSimpArgs false
namespace Go.Proofs.YtoehnbacbobhiaaGreatDoor
open Go.Sep
theorem pushes_of (i : Ins) : (1 ≤ (i.op : Int) ∧ (i.op : Int) ≤ 5 → popsN i = 0 ∧ (rowOf i.op).pushes = 1) ∧ ((i.op : Int) = 9 ∨ (i.op : Int) = 10 → (rowOf i.op).pushes = 1) ∧ (11 ≤ (i.op : Int) ∧ (i.op : Int) ≤ 23 → (rowOf i.op).pushes = 1) ∧ ((i.op : Int) = 24 ∨ (i.op : Int) = 28 → (rowOf i.op).pushes = 0) ∧ ((i.op : Int) = 27 ∨ (i.op : Int) = 29 ∨ (i.op : Int) = 34 → popsN i = 0 ∧ (rowOf i.op).pushes = 0) := by
  have key : ∀ o : Nat, o < 35 → (1 ≤ o ∧ o ≤ 5 → (rowOf o).pops = 0 ∧ (rowOf o).pushes = 1) ∧ (o = 9 ∨ o = 10 → (rowOf o).pushes = 1) ∧ (11 ≤ o ∧ o ≤ 23 → (rowOf o).pushes = 1) ∧ (o = 24 ∨ o = 28 → (rowOf o).pushes = 0) ∧ (o = 27 ∨ o = 29 ∨ o = 34 → (rowOf o).pops = 0 ∧ (rowOf o).pushes = 0) := by decide
  have h := key i.op
  unfold popsN
  refine ⟨fun h1 => ?_, fun h1 => ?_, fun h1 => ?_, fun h1 => ?_, fun h1 => ?_⟩
  · rw [if_neg (by omega)]; exact (h (by omega)).1 (by omega)
  · exact (h (by omega)).2.1 (by omega)
  · exact (h (by omega)).2.2.1 (by omega)
  · exact (h (by omega)).2.2.2.1 (by omega)
  · rw [if_neg (by omega)]; exact (h (by omega)).2.2.2.2 (by omega)
theorem formed_ops {pr : Int} {nc : Nat} {x : Ins} (h : formedB pr nc x = true) : 1 ≤ (x.op : Int) ∧ (x.op : Int) ≤ 34 := by
  unfold formedB at h
  simp only [Bool.and_eq_true, decide_eq_true_eq] at h
  exact ⟨h.1.1.1.1.1.1, h.1.1.1.1.1.2⟩
theorem formed_a {pr : Int} {nc : Nat} {x : Ins} (h : formedB pr nc x = true) (h1 : (x.op : Int) ≠ 27 ∧ (x.op : Int) ≠ 28 ∧ (x.op : Int) ≠ 32) : ((x.op : Int) ≠ 3 → 0 ≤ x.a ∧ x.a ≤ 63) ∧ ((x.op : Int) = 3 → 0 ≤ x.a ∧ x.a < pr) := by
  unfold formedB at h
  simp only [Bool.and_eq_true] at h
  obtain ⟨_, hr⟩ := h
  rw [if_neg (by omega)] at hr
  constructor
  · intro h3
    rw [if_neg h3] at hr
    by_cases hb : ((x.op : Int) = 30 ∨ (x.op : Int) = 31) ∧ (x.b < 0 ∨ 63 < x.b ∨ x.n < 0 ∨ 4 < x.n)
    · rw [if_pos hb] at hr; cases hr
    · rw [if_neg hb] at hr
      simpa using hr
  · intro h3
    rw [if_pos h3] at hr
    simpa using hr
theorem step_shape {s : Sm} {x : Ins} {d : Dv} (hs : Simple x) (hops : 1 ≤ (x.op : Int) ∧ (x.op : Int) ≤ 34) (hp : popsN x ≤ d.stack.length) :
    ((stepV s x d).stack.length : Int) = aftH d.stack.length x ∧ (stepV s x d).vars.length = d.vars.length ∧ (stepV s x d).effs = d.effs ∧ (0 ≤ d.cost ∧ d.cost ≤ 200 → 0 ≤ (stepV s x d).cost ∧ (stepV s x d).cost ≤ 200) ∧
    (((x.op : Int) = 27 ∧ (stepV s x d).next = x.a) ∨ ((x.op : Int) = 28 ∧ ((stepV s x d).next = x.a ∨ (stepV s x d).next = d.next)) ∨ ((x.op : Int) = 34 ∧ (stepV s x d).next = s.code.length) ∨ ((x.op : Int) ≠ 27 ∧ (x.op : Int) ≠ 34 ∧ (stepV s x d).next = d.next)) := by
  obtain ⟨s1, s2, s3, s4, s5, s6, s7, s8, s9⟩ := hs
  have hpo := pops_of x
  have hpu := pushes_of x
  have hlen : (d.stack.length : Int) - popsN x + (rowOf x.op).pushes = aftH d.stack.length x := rfl
  by_cases c1 : (x.op : Int) = 1
  · have e : stepV s x d = { d with stack := d.stack ++ [x.n] } := by unfold stepV; rw [if_pos c1]
    rw [e]
    refine ⟨by first | omega | (simp only [List.length_append, List.length_cons, List.length_nil, List.length_dropLast]; omega), by first | rfl | exact List.length_set, rfl, fun h => h, .inr (.inr (.inr ⟨by omega, by omega, rfl⟩))⟩
  by_cases c2 : (x.op : Int) = 2
  · have e : stepV s x d = { d with stack := d.stack ++ [d.vars.getD x.a.toNat 0] } := by unfold stepV; rw [if_neg c1, if_pos c2]
    rw [e]
    refine ⟨by first | omega | (simp only [List.length_append, List.length_cons, List.length_nil, List.length_dropLast]; omega), by first | rfl | exact List.length_set, rfl, fun h => h, .inr (.inr (.inr ⟨by omega, by omega, rfl⟩))⟩
  by_cases c3 : (x.op : Int) = 3
  · have e : stepV s x d = { d with stack := d.stack ++ [s.args.getD x.a.toNat 0] } := by unfold stepV; rw [if_neg c1, if_neg c2, if_pos c3]
    rw [e]
    refine ⟨by first | omega | (simp only [List.length_append, List.length_cons, List.length_nil, List.length_dropLast]; omega), by first | rfl | exact List.length_set, rfl, fun h => h, .inr (.inr (.inr ⟨by omega, by omega, rfl⟩))⟩
  by_cases c4 : (x.op : Int) = 4
  · have e : stepV s x d = { d with stack := d.stack ++ [tru (s.flags.getD x.a.toNat false)] } := by unfold stepV; rw [if_neg c1, if_neg c2, if_neg c3, if_pos c4]
    rw [e]
    refine ⟨by first | omega | (simp only [List.length_append, List.length_cons, List.length_nil, List.length_dropLast]; omega), by first | rfl | exact List.length_set, rfl, fun h => h, .inr (.inr (.inr ⟨by omega, by omega, rfl⟩))⟩
  by_cases c5 : (x.op : Int) = 5
  · have e : stepV s x d = { d with stack := d.stack ++ [s.now] } := by unfold stepV; rw [if_neg c1, if_neg c2, if_neg c3, if_neg c4, if_pos c5]
    rw [e]
    refine ⟨by first | omega | (simp only [List.length_append, List.length_cons, List.length_nil, List.length_dropLast]; omega), by first | rfl | exact List.length_set, rfl, fun h => h, .inr (.inr (.inr ⟨by omega, by omega, rfl⟩))⟩
  by_cases c6 : (x.op : Int) = 9 ∨ (x.op : Int) = 10
  · have e : stepV s x d = { d with stack := d.stack.dropLast ++ [unV x.op (d.stack.getLastD 0)] } := by unfold stepV; rw [if_neg c1, if_neg c2, if_neg c3, if_neg c4, if_neg c5, if_pos c6]
    rw [e]
    refine ⟨by first | omega | (simp only [List.length_append, List.length_cons, List.length_nil, List.length_dropLast]; omega), by first | rfl | exact List.length_set, rfl, fun h => h, .inr (.inr (.inr ⟨by omega, by omega, rfl⟩))⟩
  by_cases c7 : (x.op : Int) = 24
  · have e : stepV s x d = { d with stack := d.stack.dropLast, vars := d.vars.set x.a.toNat (d.stack.getLastD 0) } := by unfold stepV; rw [if_neg c1, if_neg c2, if_neg c3, if_neg c4, if_neg c5, if_neg c6, if_pos c7]
    rw [e]
    refine ⟨by first | omega | (simp only [List.length_append, List.length_cons, List.length_nil, List.length_dropLast]; omega), by first | rfl | exact List.length_set, rfl, fun h => h, .inr (.inr (.inr ⟨by omega, by omega, rfl⟩))⟩
  by_cases c8 : (x.op : Int) = 27
  · have e : stepV s x d = { d with next := x.a } := by unfold stepV; rw [if_neg c1, if_neg c2, if_neg c3, if_neg c4, if_neg c5, if_neg c6, if_neg c7, if_pos c8]
    rw [e]
    refine ⟨by first | omega | (simp only [List.length_append, List.length_cons, List.length_nil, List.length_dropLast]; omega), by first | rfl | exact List.length_set, rfl, fun h => h, .inl ⟨c8, rfl⟩⟩
  by_cases c9 : (x.op : Int) = 28
  · have e : stepV s x d = { d with stack := d.stack.dropLast, next := if d.stack.getLastD 0 = 0 then x.a else d.next } := by unfold stepV; rw [if_neg c1, if_neg c2, if_neg c3, if_neg c4, if_neg c5, if_neg c6, if_neg c7, if_neg c8, if_pos c9]
    rw [e]
    refine ⟨by first | omega | (simp only [List.length_append, List.length_cons, List.length_nil, List.length_dropLast]; omega), by first | rfl | exact List.length_set, rfl, fun h => h, .inr (.inl ⟨c9, ?_⟩)⟩
    show (if d.stack.getLastD 0 = 0 then x.a else d.next) = x.a ∨ (if d.stack.getLastD 0 = 0 then x.a else d.next) = d.next
    split
    · exact .inl rfl
    · exact .inr rfl
  by_cases c10 : (x.op : Int) = 29
  · have e : stepV s x d = { d with fault := decide (d.cost = 200), cost := min (d.cost + 1) 200 } := by unfold stepV; rw [if_neg c1, if_neg c2, if_neg c3, if_neg c4, if_neg c5, if_neg c6, if_neg c7, if_neg c8, if_neg c9, if_pos c10]
    rw [e]
    refine ⟨by first | omega | (simp only [List.length_append, List.length_cons, List.length_nil, List.length_dropLast]; omega), by first | rfl | exact List.length_set, rfl, fun h => by show 0 ≤ min (d.cost + 1) 200 ∧ min (d.cost + 1) 200 ≤ 200; omega, .inr (.inr (.inr ⟨by omega, by omega, rfl⟩))⟩
  have c11 : ¬ ((x.op : Int) = 30 ∨ (x.op : Int) = 31) := by omega
  have c12 : ¬ ((x.op : Int) = 32 ∨ (x.op : Int) = 33) := by omega
  have c14 : ¬ ((x.op : Int) = 6 ∨ (x.op : Int) = 7 ∨ (x.op : Int) = 8 ∨ (x.op : Int) = 25 ∨ (x.op : Int) = 26) := by omega
  by_cases c13 : (x.op : Int) = 34
  · have e : stepV s x d = { d with next := s.code.length } := by unfold stepV; rw [if_neg c1, if_neg c2, if_neg c3, if_neg c4, if_neg c5, if_neg c6, if_neg c7, if_neg c8, if_neg c9, if_neg c10, if_neg c11, if_neg c12, if_pos c13]
    rw [e]
    refine ⟨by first | omega | (simp only [List.length_append, List.length_cons, List.length_nil, List.length_dropLast]; omega), by first | rfl | exact List.length_set, rfl, fun h => h, .inr (.inr (.inl ⟨c13, rfl⟩))⟩
  · have e : stepV s x d = { d with stack := d.stack.dropLast.dropLast ++ [binV x.op (d.stack.dropLast.getLastD 0) (d.stack.getLastD 0)] } := by unfold stepV; rw [if_neg c1, if_neg c2, if_neg c3, if_neg c4, if_neg c5, if_neg c6, if_neg c7, if_neg c8, if_neg c9, if_neg c10, if_neg c11, if_neg c12, if_neg c13, if_neg c14]
    rw [e]
    refine ⟨by first | omega | (simp only [List.length_append, List.length_cons, List.length_nil, List.length_dropLast]; omega), by first | rfl | exact List.length_set, rfl, fun h => h, .inr (.inr (.inr ⟨by omega, by omega, rfl⟩))⟩
def InvR (T : List Int) (n nv : Nat) (d : Dv) : Prop := (0 ≤ d.next ∧ d.next ≤ n) ∧ (d.next < n → T[d.next.toNat]? = some (d.stack.length : Int)) ∧ d.vars.length = nv ∧ (0 ≤ d.cost ∧ d.cost ≤ 200) ∧ d.effs = []
theorem runs_simple {A : Option Addr} {q nv : Nat} {st : Int} {l : List Ins} {T : List Int} (hst : st ≤ 64) (hform : ∀ x ∈ l, formedB 0 l.length x = true) (hT : ∀ k x, l[k]? = some x → ∃ m, OkAt T st k x m) (href : ∀ x ∈ l, referB x nv 0 0 = true) (hsim : ∀ x ∈ l, Simple x) : Runs (s0 A q l) (InvR T l.length nv) where
  next d h := h.1.1
  effs d h := by rw [h.2.2.2.2]; simp
  fit d x h hx := by
    obtain ⟨⟨n0, n1⟩, h1, h2, h3, h4⟩ := h
    have hx : l[d.next.toNat]? = some x := hx
    have hxm := List.mem_of_getElem? hx
    have hlt : d.next < l.length := by have := (List.getElem?_eq_some_iff.1 hx).1; omega
    obtain ⟨m, hm⟩ := hT _ x hx
    have e1 := h1 hlt
    have hmm : m = (d.stack.length : Int) := by have := hm.here; rw [e1] at this; exact (Option.some.inj this).symm
    have hf := hform x hxm
    have hr := href x hxm
    have hfo := formed_ops hf
    have hsm := hsim x hxm
    have hfa := @formed_a _ _ _ hf
    have hmt := hm.top
    have hmp := hm.pops
    refine ⟨⟨fun ho => ?_, fun ho => ?_, fun ho => ?_, fun ho => ?_, fun ho => ?_, hfo, ?_, ?_, h3⟩, hsm⟩
    · unfold referB at hr
      rw [if_pos ho] at hr
      have a1 := hfa (by omega)
      have a2 := of_decide_eq_true hr
      have a3 := a1.1 (by omega)
      exact ⟨a3.1, by show x.a < (d.vars.length : Int); rw [h2]; exact a2⟩
    · have := (hfa (by omega)).2 ho; omega
    · unfold referB at hr
      rw [if_neg (by omega), if_pos ho] at hr
      have a2 := of_decide_eq_true hr
      have a3 := (hfa (by omega)).1 (by omega)
      omega
    · obtain ⟨s1, s2, s3, s4, s5, _⟩ := hsm; omega
    · obtain ⟨_, _, _, _, _, s6, s7, _⟩ := hsm; omega
    · show popsN x ≤ (d.stack.length : Int); omega
    · show d.stack.length ≤ 4001; omega
  step d x h hx _ := by
    obtain ⟨⟨n0, n1⟩, h1, h2, h3, h4⟩ := h
    have hx : l[d.next.toNat]? = some x := hx
    have hxm := List.mem_of_getElem? hx
    have hlt : d.next < l.length := by have := (List.getElem?_eq_some_iff.1 hx).1; omega
    obtain ⟨m, hm⟩ := hT _ x hx
    have e1 := h1 hlt
    have hmm : m = (d.stack.length : Int) := by have := hm.here; rw [e1] at this; exact (Option.some.inj this).symm
    have hf := hform x hxm
    have hfo := formed_ops hf
    have hff := form_facts hf
    obtain ⟨p1, p2, p3, p4, p5⟩ := step_shape (s := s0 A q l) (d := { d with next := d.next + 1 }) (hsim x hxm) hfo (by show popsN x ≤ (d.stack.length : Int); have := hm.pops; omega)
    have p1 : ((stepV (s0 A q l) x { d with next := d.next + 1 }).stack.length : Int) = aftH m x := by rw [p1, hmm]
    have hn1 : ((x.op : Nat) : Int) ≠ 27 → ((x.op : Nat) : Int) ≠ 34 → T[(d.next + 1).toNat]? = some (aftH m x) := fun a b => by rw [show (d.next + 1).toNat = d.next.toNat + 1 from by omega]; exact hm.next a b
    have htg : ((x.op : Nat) : Int) = 27 ∨ ((x.op : Nat) : Int) = 28 → tgt x = some x.a := fun a => by unfold tgt; rw [if_pos a]
    refine ⟨?_, ?_, by rw [p2]; exact h2, p4 h3, by rw [p3]; exact h4⟩
    · rcases p5 with ⟨a, b⟩ | ⟨a, b | b⟩ | ⟨a, b⟩ | ⟨a, b, c⟩
      · rw [htg (.inl a)] at hff; simp only [Option.getD_some] at hff; rw [b]; omega
      · rw [htg (.inr a)] at hff; simp only [Option.getD_some] at hff; rw [b]; omega
      · rw [b]; show 0 ≤ d.next + 1 ∧ d.next + 1 ≤ (l.length : Int); omega
      · rw [b]; show 0 ≤ (l.length : Int) ∧ (l.length : Int) ≤ (l.length : Int); omega
      · rw [c]; show 0 ≤ d.next + 1 ∧ d.next + 1 ≤ (l.length : Int); omega
    · intro _
      rw [p1]
      rcases p5 with ⟨a, b⟩ | ⟨a, b | b⟩ | ⟨a, b⟩ | ⟨a, b, c⟩
      · rw [b]; exact hm.jump _ (htg (.inl a))
      · rw [b]; exact hm.jump _ (htg (.inr a))
      · rw [b]; exact hn1 (by omega) (by omega)
      · rename_i hlt2; rw [b] at hlt2; exact absurd hlt2 (Int.lt_irrefl _)
      · rw [c]; exact hn1 a b
theorem simple_run {A Av : Option Addr} {q qv : Nat} {st : Int} {l : List Ins} {V : List Int} (hv : verifyV 0 st l = 0) (href : ∀ x ∈ l, referB x V.length 0 0 = true) (hsim : ∀ x ∈ l, Simple x) : ∃ I : Dv → Prop, Runs (s0 A q l) I ∧ I (d0V V) := by
  obtain ⟨h1, h2, h3, h4, T, h5, h6, h7⟩ := verified hv
  refine ⟨InvR T l.length V.length, runs_simple h1 h4 h5 href hsim, ⟨⟨Int.le_refl _, Int.natCast_nonneg _⟩, fun hlt => ?_, rfl, (show (0 : Int) ≤ 0 ∧ (0 : Int) ≤ 200 by decide), rfl⟩⟩
  rcases h7 with h7 | h7
  · rw [h7] at hlt; simp at hlt
  · exact h7
end Go.Proofs.YtoehnbacbobhiaaGreatDoor
