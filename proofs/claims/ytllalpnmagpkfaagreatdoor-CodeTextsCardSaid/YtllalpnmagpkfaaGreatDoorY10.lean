/- The units of good plans and of raw instructions are within range; plain. Own text. -/
import Derived.Test.YtllalpnmagpkfaaGreatDoorS1
import Derived.Test.YtllalpnmagpkfaaGreatDoorYa
set_option linter.unusedVariables false
set_option linter.unusedSimpArgs false
namespace Go.Proofs.YtllalpnmagpkfaaGreatDoor
open Go.RowKit Go.Flow Go.Mem Go.Sep Go.In
theorem num_each {c : Ct} (hok : c.Ok) {np n : Nat} : Each c np (fun x => 0 ≤ x.n ∧ x.n < 9) ∧ EachJ n c.ints (fun x => 0 ≤ x.n ∧ x.n < 9) := by
 refine ⟨⟨fun k h1 h2 => ⟨h1, h2⟩, fun op ho => ?_, fun k hk => ?_, fun k hk => ?_, fun k hk => ?_, fun k hk => ?_, fun op ho => ?_, fun to h k h1 h2 h3 => ?_, fun h k h1 h2 => ?_⟩, ⟨fun op t ho ht => ?_, fun t ht => ?_, fun k t hk ht => ?_⟩⟩ <;> dsimp only <;> omega
theorem good_num {F : Fl} (h : GoodF F.pure) {ci : Nat} {c : Cm} (hc : F.comps[ci]? = some c) {v : Vs} (hv : v ∈ c.vers) {x : Hd} (hx : x ∈ v.l) : ∀ i ∈ codeR F c x, 0 ≤ i.n ∧ i.n < 9 := by
 obtain ⟨ct, ar, ok⟩ := h.okC (pure_comp hc)
 have hgv := ok.vers v.pure (List.mem_map.2 ⟨v, hv, rfl⟩)
 obtain ⟨k, hk⟩ := List.getElem?_of_mem hx
 have gh := hgv.2.2 k x.pure (by show (v.l.map Hd.pure)[k]? = _; rw [List.getElem?_map, hk]; rfl)
 obtain ⟨np, hnp, hps, hst⟩ := gh.ps
 have hnp2 : np ≤ 2 := (ok.ok.each ar (mog ok.arr)).2.2 np (mog hnp)
 have hps : x.ps = nms 112 np := hps
 have hst : ∀ s ∈ St.pL x.body, StE ct np 3 s := hst
 have his : (ccR F.pure c.name c.vars (nms 112 np)).Is ct np := ok.isR hnp2
 have fe := num_each ok.ok (np := np) (n := (codeR F c x).length)
 have e1 : codeR F c x = cB (ccR F.pure c.name c.vars (nms 112 np)) (St.pL x.body) 0 := by show cB (ccR F.pure c.name c.vars x.ps) _ _ = _; rw [hps]
 have := cB_all (Q := fun i => 0 ≤ i.n ∧ i.n < 9) (n := (codeR F c x).length) (St.pL x.body) 0 (cc := ccR F.pure c.name c.vars (nms 112 np)) (fun s hs p hp => (hst s hs).all ok.ok fe.1 fe.2 his p hp) (by rw [← e1]; omega)
 rw [← e1] at this
 exact this
theorem inR_of {pr : Int} {nc : Nat} {x : Ins} (h : formR pr nc x = true) (hc : nc ≤ 4000) (hn : 0 ≤ x.n ∧ x.n < 9) : InR x := by
 have ho := formR_op h
 unfold formR uA uB uN jR at h
 simp only [Bool.and_eq_true, Bool.not_eq_true', Bool.or_eq_false_iff, Bool.and_eq_false_iff, Bool.not_eq_false', decide_eq_false_iff_not, decide_eq_true_eq, Bool.or_eq_true] at h
 have ha : -9223372036854775808 ≤ x.a ∧ x.a ≤ 9223372036854775807 ∧ -9223372036854775808 ≤ x.b ∧ x.b ≤ 9223372036854775807 := by
  by_cases h27 : ((x.op : Nat) : Int) = 27 ∨ ((x.op : Nat) : Int) = 28
  · rw [if_pos h27] at h; omega
  · rw [if_neg h27] at h
    by_cases h32 : ((x.op : Nat) : Int) = 32 ∨ ((x.op : Nat) : Int) = 33
    · rw [if_pos h32] at h; omega
    · rw [if_neg h32] at h; omega
 exact ⟨ho.1, ho.2, ha.1, ha.2.1, ha.2.2.1, ha.2.2.2, by omega, by omega⟩
theorem rU_in {F : Fl} (h : GoodF F.pure) {ci : Nat} {c : Cm} (hc : F.comps[ci]? = some c) (vn : Nat) (s : ByteArray) : ∀ x ∈ (rU F c vn s).l, InR x := by
 have hf := rU_len h hc vn s
 cases ho : fndV s none (c.vers.take vn) with
 | none =>
   have e : rU F c vn s = ⟨false, 0, 0, []⟩ := by unfold rU; rw [ho]
   rw [e]; exact fun x hx => (by cases hx)
 | some x =>
   have e : rU F c vn s = ⟨true, x.ps.length, (heightR (codeR F c x)).1, codeR F c x⟩ := by unfold rU; rw [ho]
   obtain ⟨v, hv, hx⟩ := fnd_good h hc ho
   have g := good_num h hc hv hx
   intro i hi
   refine inR_of (hf.2.2 i hi) (by omega) (g i (by rw [e] at hi; exact hi))
def opM (y : Ins) : Ins := ⟨1 + y.op % 34, y.a, y.b, y.n⟩
theorem inR_opM {y : Ins} (h : Rg y) : InR (opM y) := by
 obtain ⟨⟨a1, a2⟩, ⟨b1, b2⟩, n1, n2⟩ := h
 exact ⟨by show 1 ≤ 1 + y.op % 34; omega, by show 1 + y.op % 34 ≤ 34; omega, by show _ ≤ y.a; omega, by show y.a ≤ _; omega, by show _ ≤ y.b; omega, by show y.b ≤ _; omega, by show _ ≤ y.n; omega, by show y.n ≤ _; omega⟩
end Go.Proofs.YtllalpnmagpkfaaGreatDoor
