/- A step of the reference, beside a step of the machine. Plain facts. Own text. -/
import Derived.Test.YtoehnbacbobhiaaGreatDoorX37
set_option linter.unusedVariables false
set_option linter.unusedSimpArgs false
namespace Go.Proofs.YtoehnbacbobhiaaGreatDoor
open Go.Sep
def rs (d : Dv) : List Int × List (List (Int × Int)) × List (Int × Int) × List EfV × Int := (d.vars, d.tabs, d.disk, d.effs, d.cost)
def RStep (s : Sm) (x : Ins) (d : Dv) (a nx : Int) (e : Dv) : Prop :=
  (((x.op : Nat) : Int) = 34 ∧ e = { d with fault := true }) ∨
  (((x.op : Nat) : Int) ≠ 34 ∧ (stepV s x { d with next := a + 1 }).fault = true ∧ e.fault = true ∧ rs e = rs (stopV (stepV s x { d with next := a + 1 }))) ∨
  (((x.op : Nat) : Int) ≠ 34 ∧ (stepV s x { d with next := a + 1 }).fault = false ∧ { e with next := nx } = stepV s x { d with next := a + 1 })
theorem RStep.good {s : Sm} {x : Ins} {d e : Dv} {a nx : Int} (h34 : ((x.op : Nat) : Int) ≠ 34) (hf : d.fault = false) (h : { e with next := nx } = stepV s x { d with next := a + 1 }) (he : e.fault = d.fault) : RStep s x d a nx e := by
  refine .inr (.inr ⟨h34, ?_, h⟩)
  rw [← h]; exact he.trans hf
theorem stepV_bin {s : Sm} {x : Ins} {d : Dv} (h : 11 ≤ ((x.op : Nat) : Int) ∧ ((x.op : Nat) : Int) ≤ 23) : stepV s x d = { d with stack := d.stack.dropLast.dropLast ++ [binV x.op (d.stack.dropLast.getLastD 0) (d.stack.getLastD 0)] } := by
  unfold stepV
  rw [if_neg (by omega), if_neg (by omega), if_neg (by omega), if_neg (by omega), if_neg (by omega), if_neg (by omega), if_neg (by omega), if_neg (by omega), if_neg (by omega), if_neg (by omega), if_neg (by omega), if_neg (by omega), if_neg (by omega), if_neg (by omega)]
theorem stepV_24 {s : Sm} {x : Ins} {d : Dv} (h : ((x.op : Nat) : Int) = 24) : stepV s x d = { d with stack := d.stack.dropLast, vars := d.vars.set x.a.toNat (d.stack.getLastD 0) } := by
  unfold stepV
  rw [if_neg (by omega), if_neg (by omega), if_neg (by omega), if_neg (by omega), if_neg (by omega), if_neg (by omega), if_pos h]
theorem stepV_27 {s : Sm} {x : Ins} {d : Dv} (h : ((x.op : Nat) : Int) = 27) : stepV s x d = { d with next := x.a } := by
  unfold stepV
  rw [if_neg (by omega), if_neg (by omega), if_neg (by omega), if_neg (by omega), if_neg (by omega), if_neg (by omega), if_neg (by omega), if_pos h]
theorem stepV_28 {s : Sm} {x : Ins} {d : Dv} (h : ((x.op : Nat) : Int) = 28) : stepV s x d = { d with stack := d.stack.dropLast, next := if d.stack.getLastD 0 = 0 then x.a else d.next } := by
  unfold stepV
  rw [if_neg (by omega), if_neg (by omega), if_neg (by omega), if_neg (by omega), if_neg (by omega), if_neg (by omega), if_neg (by omega), if_neg (by omega), if_pos h]
theorem stepV_29 {s : Sm} {x : Ins} {d : Dv} (h : ((x.op : Nat) : Int) = 29) : stepV s x d = { d with fault := decide (d.cost = 200), cost := min (d.cost + 1) 200 } := by
  unfold stepV
  rw [if_neg (by omega), if_neg (by omega), if_neg (by omega), if_neg (by omega), if_neg (by omega), if_neg (by omega), if_neg (by omega), if_neg (by omega), if_neg (by omega), if_pos h]
theorem stepV_1 {s : Sm} {x : Ins} {d : Dv} (h : ((x.op : Nat) : Int) = 1) : stepV s x d = { d with stack := d.stack ++ [x.n] } := by
  unfold stepV
  rw [if_pos h]
theorem stepV_2 {s : Sm} {x : Ins} {d : Dv} (h : ((x.op : Nat) : Int) = 2) : stepV s x d = { d with stack := d.stack ++ [d.vars.getD x.a.toNat 0] } := by
  unfold stepV
  rw [if_neg (by omega), if_pos h]
theorem stepV_3 {s : Sm} {x : Ins} {d : Dv} (h : ((x.op : Nat) : Int) = 3) : stepV s x d = { d with stack := d.stack ++ [s.args.getD x.a.toNat 0] } := by
  unfold stepV
  rw [if_neg (by omega), if_neg (by omega), if_pos h]
theorem stepV_4 {s : Sm} {x : Ins} {d : Dv} (h : ((x.op : Nat) : Int) = 4) : stepV s x d = { d with stack := d.stack ++ [tru (s.flags.getD x.a.toNat false)] } := by
  unfold stepV
  rw [if_neg (by omega), if_neg (by omega), if_neg (by omega), if_pos h]
theorem stepV_5 {s : Sm} {x : Ins} {d : Dv} (h : ((x.op : Nat) : Int) = 5) : stepV s x d = { d with stack := d.stack ++ [s.now] } := by
  unfold stepV
  rw [if_neg (by omega), if_neg (by omega), if_neg (by omega), if_neg (by omega), if_pos h]
theorem stepV_un {s : Sm} {x : Ins} {d : Dv} (h : ((x.op : Nat) : Int) = 9 ∨ ((x.op : Nat) : Int) = 10) : stepV s x d = { d with stack := d.stack.dropLast ++ [unV x.op (d.stack.getLastD 0)] } := by
  unfold stepV
  rw [if_neg (by omega), if_neg (by omega), if_neg (by omega), if_neg (by omega), if_neg (by omega), if_pos h]
theorem ite_next {p : Prop} [Decidable p] {a b a' b' : Dv} {n : Int} (h1 : a = { a' with next := n } ∧ a'.fault = false) (h2 : b = { b' with next := n } ∧ b'.fault = false) : (if p then a else b) = { (if p then a' else b') with next := n } ∧ (if p then a' else b').fault = false := by split <;> assumption
theorem load_next {s : Sm} {x : Ins} {d : Dv} {n : Int} (h : 1 ≤ ((x.op : Nat) : Int) ∧ ((x.op : Nat) : Int) ≤ 10) (hf : d.fault = false) : stepV s x { d with next := n } = { stepV s x d with next := n } ∧ (stepV s x d).fault = false := by
  by_cases h3 : ((x.op : Nat) : Int) = 6 ∨ ((x.op : Nat) : Int) = 7 ∨ ((x.op : Nat) : Int) = 8 ∨ ((x.op : Nat) : Int) = 25 ∨ ((x.op : Nat) : Int) = 26
  · rw [stepV_table h3, stepV_table h3]
    unfold tableV
    simp only []
    exact ite_next ⟨rfl, hf⟩ (ite_next ⟨rfl, hf⟩ (ite_next ⟨rfl, hf⟩ (ite_next ⟨rfl, hf⟩ ⟨rfl, hf⟩)))
  · have hk : ((x.op : Nat) : Int) = 1 ∨ ((x.op : Nat) : Int) = 2 ∨ ((x.op : Nat) : Int) = 3 ∨ ((x.op : Nat) : Int) = 4 ∨ ((x.op : Nat) : Int) = 5 ∨ (((x.op : Nat) : Int) = 9 ∨ ((x.op : Nat) : Int) = 10) := by omega
    rcases hk with hk | hk | hk | hk | hk | hk
    · rw [stepV_1 hk, stepV_1 hk]; exact ⟨rfl, hf⟩
    · rw [stepV_2 hk, stepV_2 hk]; exact ⟨rfl, hf⟩
    · rw [stepV_3 hk, stepV_3 hk]; exact ⟨rfl, hf⟩
    · rw [stepV_4 hk, stepV_4 hk]; exact ⟨rfl, hf⟩
    · rw [stepV_5 hk, stepV_5 hk]; exact ⟨rfl, hf⟩
    · rw [stepV_un hk, stepV_un hk]; exact ⟨rfl, hf⟩
theorem rstep_load {s : Sm} {x : Ins} {d e : Dv} {a : Int} (h : 1 ≤ ((x.op : Nat) : Int) ∧ ((x.op : Nat) : Int) ≤ 10) (hf : d.fault = false) (hv : e = stepV s x d) : RStep s x d a (a + 1) e := by
  obtain ⟨h1, h2⟩ := load_next (s := s) (n := a + 1) h hf
  exact RStep.good (by omega) hf (by rw [h1, hv]) (by rw [hv, h2, hf])
theorem rstep_bin {s : Sm} {x : Ins} {d e : Dv} {a : Int} (h : 11 ≤ ((x.op : Nat) : Int) ∧ ((x.op : Nat) : Int) ≤ 23) (hf : d.fault = false) (hv : e = { d with stack := d.stack.take (d.stack.length - 2) ++ [binV x.op (d.stack.dropLast.getLastD 0) (d.stack.getLastD 0)] }) : RStep s x d a (a + 1) e := by
  rw [tk2] at hv
  exact RStep.good (by omega) hf (by rw [stepV_bin h, hv]) (by rw [hv])
theorem rstep_24 {s : Sm} {x : Ins} {d e : Dv} {a : Int} (h : ((x.op : Nat) : Int) = 24) (hf : d.fault = false) (hv : e = { d with stack := d.stack.take (d.stack.length - 1), vars := d.vars.set x.a.toNat (d.stack.getLastD 0) }) : RStep s x d a (a + 1) e := by
  rw [tk1] at hv
  exact RStep.good (by omega) hf (by rw [stepV_24 h, hv]) (by rw [hv])
theorem tableV_25 {x : Ins} {d : Dv} (h : ((x.op : Nat) : Int) = 25) : tableV x d = { d with stack := d.stack.dropLast.dropLast, tabs := d.tabs.set x.a.toNat (putR (d.tabs.getD x.a.toNat []) (d.stack.dropLast.getLastD 0) (d.stack.getLastD 0)) } := by
  unfold tableV
  exact (if_neg (by omega)).trans ((if_neg (by omega)).trans ((if_neg (by omega)).trans (if_pos h)))
theorem tableV_26 {x : Ins} {d : Dv} (h : ((x.op : Nat) : Int) = 26) : tableV x d = { d with stack := d.stack.dropLast, tabs := d.tabs.set x.a.toNat (delT (d.tabs.getD x.a.toNat []) (d.stack.getLastD 0)) } := by
  unfold tableV
  exact (if_neg (by omega)).trans ((if_neg (by omega)).trans ((if_neg (by omega)).trans (if_neg (by omega))))
theorem rstep_25 {s : Sm} {x : Ins} {d e : Dv} {a : Int} (h : ((x.op : Nat) : Int) = 25) (hf : d.fault = false) (hv : e = { d with stack := d.stack.take (d.stack.length - 2), tabs := d.tabs.set x.a.toNat (putR (d.tabs.getD x.a.toNat []) (d.stack.dropLast.getLastD 0) (d.stack.getLastD 0)) }) : RStep s x d a (a + 1) e := by
  rw [tk2] at hv
  exact RStep.good (by omega) hf (by rw [stepV_table (by omega), tableV_25 h, hv]) (by rw [hv])
theorem rstep_26 {s : Sm} {x : Ins} {d e : Dv} {a : Int} (h : ((x.op : Nat) : Int) = 26) (hf : d.fault = false) (hv : e = { d with stack := d.stack.take (d.stack.length - 1), tabs := d.tabs.set x.a.toNat (delT (d.tabs.getD x.a.toNat []) (d.stack.getLastD 0)) }) : RStep s x d a (a + 1) e := by
  rw [tk1] at hv
  exact RStep.good (by omega) hf (by rw [stepV_table (by omega), tableV_26 h, hv]) (by rw [hv])
theorem rstep_27 {s : Sm} {x : Ins} {d : Dv} {a : Int} (h : ((x.op : Nat) : Int) = 27) (hf : d.fault = false) : RStep s x d a x.a d := RStep.good (by omega) hf (by rw [stepV_27 h]) rfl
theorem rstep_28 {s : Sm} {x : Ins} {d e : Dv} {a nx : Int} (h : ((x.op : Nat) : Int) = 28) (hf : d.fault = false) (hv : e = { d with stack := d.stack.take (d.stack.length - 1) }) (hn : nx = if d.stack.getLastD 0 = 0 then x.a else a + 1) : RStep s x d a nx e := by
  rw [tk1] at hv
  exact RStep.good (by omega) hf (by rw [stepV_28 h, hv, hn]) (by rw [hv])
theorem rstep_29 {s : Sm} {x : Ins} {d e : Dv} {a : Int} (h : ((x.op : Nat) : Int) = 29) (hf : d.fault = false) (hc : 0 ≤ d.cost ∧ d.cost ≤ 200) (hv : e = payV d) : RStep s x d a (a + 1) e := by
  have e1 := stepV_29 (s := s) (d := { d with next := a + 1 }) h
  unfold payV at hv
  by_cases c : 200 ≤ d.cost
  · rw [if_pos c] at hv
    have c2 : d.cost = 200 := by omega
    refine .inr (.inl ⟨by omega, ?_, by rw [hv]; rfl, ?_⟩)
    · rw [e1]; exact decide_eq_true c2
    · rw [e1, hv]
      show (d.vars, d.tabs, d.disk, d.effs ++ [faultE], d.cost) = (d.vars, d.tabs, d.disk, d.effs ++ [faultE], min (d.cost + 1) 200)
      rw [c2]; rfl
  · rw [if_neg c] at hv
    refine .inr (.inr ⟨by omega, ?_, ?_⟩)
    · rw [e1]; exact decide_eq_false (by show ¬ d.cost = 200; omega)
    · rw [e1, hv]
      show ({ d with cost := d.cost + 1, next := a + 1 } : Dv) = { d with next := a + 1, fault := decide (d.cost = 200), cost := min (d.cost + 1) 200 }
      rw [decide_eq_false (show ¬ d.cost = 200 by omega), show min (d.cost + 1) 200 = d.cost + 1 by omega, ← hf]
theorem rstep_sent {s : Sm} {x : Ins} {d e : Dv} {a : Int} {ef : EfV} {st : List Int} (h : ((x.op : Nat) : Int) = 30 ∨ ((x.op : Nat) : Int) = 31) (hf : d.fault = false) (hs : 0 ≤ d.sends ∧ d.sends ≤ 8) (hv : e = sentV ef { d with stack := st })
    (hg : d.sends ≠ 8 → sendV x { d with next := a + 1 } = { d with next := a + 1, sends := d.sends + 1, stack := st, effs := d.effs ++ [ef] }) : RStep s x d a (a + 1) e := by
  have e1 := stepV_send (s := s) (d := { d with next := a + 1 }) h
  unfold sentV at hv
  by_cases c : 8 ≤ d.sends
  · rw [if_pos c] at hv
    have e2 := sendV_8 (x := x) (d := { d with next := a + 1 }) (show d.sends = 8 by omega)
    refine .inr (.inl ⟨by omega, ?_, by rw [hv]; rfl, ?_⟩)
    · rw [e1, e2]
    · rw [e1, e2, hv]; rfl
  · rw [if_neg c] at hv
    have e2 := hg (by omega)
    refine .inr (.inr ⟨by omega, ?_, ?_⟩)
    · rw [e1, e2]; exact hf
    · rw [e1, e2, hv]
theorem rstep_30 {s : Sm} {x : Ins} {d e : Dv} {a : Int} {kn : Nat} (h : ((x.op : Nat) : Int) = 30) (hf : d.fault = false) (hs : 0 ≤ d.sends ∧ d.sends ≤ 8) (hkn : x.n = ((kn : Nat) : Int)) (hv : e = sentV ⟨1, x.a, x.b, 0, 0, 0, false, d.stack.drop (d.stack.length - kn)⟩ { d with stack := d.stack.take (d.stack.length - kn) }) : RStep s x d a (a + 1) e :=
  rstep_sent (.inl h) hf hs hv fun h8 => by
    rw [sendV_30 (d := { d with next := a + 1 }) h8 (by omega), hkn, Int.toNat_natCast]
theorem rstep_31 {s : Sm} {x : Ins} {d e : Dv} {a : Int} {kn : Nat} (h : ((x.op : Nat) : Int) = 31) (hf : d.fault = false) (hs : 0 ≤ d.sends ∧ d.sends ≤ 8) (hkn : x.n = ((kn : Nat) : Int)) (ha : x.a = 0) (hl : kn < d.stack.length) (hv : e = sentV ⟨2, 0, x.b, (d.stack.drop (d.stack.length - (kn + 1))).headD 0, 0, 0, false, (d.stack.drop (d.stack.length - (kn + 1))).drop 1⟩ { d with stack := d.stack.take (d.stack.length - (kn + 1)) }) : RStep s x d a (a + 1) e :=
  rstep_sent (.inr h) hf hs hv fun h8 => by
    rw [sendV_31 (d := { d with next := a + 1 }) h8 h, hkn, Int.toNat_natCast, ha]
    have e1 : (d.stack.take (d.stack.length - kn)).dropLast = d.stack.take (d.stack.length - (kn + 1)) := by
      rw [List.dropLast_eq_take, List.length_take, List.take_take]
      congr 1; omega
    have e2 : (d.stack.drop (d.stack.length - (kn + 1))).drop 1 = d.stack.drop (d.stack.length - kn) := by
      rw [List.drop_drop]; congr 1; omega
    have e3 : (d.stack.take (d.stack.length - kn)).getLastD 0 = (d.stack.drop (d.stack.length - (kn + 1))).headD 0 := by
      rw [List.getLastD_eq_getLast?, List.getLast?_eq_getElem?, List.length_take, List.headD_eq_head?_getD, List.head?_drop]
      rw [List.getElem?_take_of_lt (by omega), show min (d.stack.length - kn) d.stack.length - 1 = d.stack.length - (kn + 1) by omega]
    show ({ d with next := a + 1, sends := d.sends + 1, stack := (d.stack.take (d.stack.length - kn)).dropLast, effs := d.effs ++ [⟨2, 0, x.b, (d.stack.take (d.stack.length - kn)).getLastD 0, 0, 0, false, d.stack.drop (d.stack.length - kn)⟩] } : Dv) = _
    rw [e1, e2, e3]
theorem rstep_32 {s : Sm} {x : Ins} {d e : Dv} {a nx : Int} (h : ((x.op : Nat) : Int) = 32) (hf : d.fault = false) (hv : e = storeV s (d.stack.dropLast.getLastD 0) (d.stack.getLastD 0) { d with stack := d.stack.take (d.stack.length - 2) }) (hn : nx = if decide (s.dsk + d.disks ∈ s.fail) = true then x.b else a + 1) : RStep s x d a nx e := by
  rw [tk2] at hv
  refine RStep.good (by omega) hf ?_ (by rw [hv]; rfl)
  rw [stepV_disk (.inl h), diskV_32 h, hv, hn]
  rfl
theorem rstep_33 {s : Sm} {x : Ins} {d e : Dv} {a nx : Int} {ka : Nat} (h : ((x.op : Nat) : Int) = 33) (hf : d.fault = false) (hka : x.a = ((ka : Nat) : Int)) (hv : e = fetchV s ka (d.stack.getLastD 0) { d with stack := d.stack.take (d.stack.length - 1) }) (hn : nx = if decide (s.dsk + d.disks ∈ s.fail) = true then x.b else a + 1) : RStep s x d a nx e := by
  rw [tk1] at hv
  unfold fetchV at hv
  by_cases c : s.dsk + d.disks ∈ s.fail
  · rw [if_pos (decide_eq_true c)] at hv
    rw [if_pos (decide_eq_true c)] at hn
    refine RStep.good (by omega) hf ?_ (by rw [hv])
    rw [stepV_disk (.inr h), diskV_33b (x := x) (d := { d with next := a + 1 }) (by omega) c, hv, hn]
  · rw [if_neg (by rw [decide_eq_false c]; decide)] at hv
    rw [if_neg (by rw [decide_eq_false c]; decide)] at hn
    refine RStep.good (by omega) hf ?_ (by rw [hv])
    rw [stepV_disk (.inr h), diskV_33g (x := x) (d := { d with next := a + 1 }) (by omega) c, hv, hn, hka, Int.toNat_natCast]
theorem rstep_34 {s : Sm} {x : Ins} {d e : Dv} {a nx : Int} (h : ((x.op : Nat) : Int) = 34) (hv : e = { d with fault := true }) : RStep s x d a nx e := .inl ⟨h, hv⟩
end Go.Proofs.YtoehnbacbobhiaaGreatDoor
