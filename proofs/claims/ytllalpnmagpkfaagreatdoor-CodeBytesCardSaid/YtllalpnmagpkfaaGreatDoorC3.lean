/- The heights of the stack, and the unit verified. Own text (walks printed by sx.py). -/
import Derived.Test.YtllalpnmagpkfaaGreatDoorC2
set_option linter.unusedVariables false
set_option linter.unusedSimpArgs false
namespace Go.Proofs.YtllalpnmagpkfaaGreatDoor
open Go.RowKit Go.Flow Go.Mem Go.Sep
theorem form_facts {pr : Int} {nc : Nat} {x : Ins} (h : formedB pr nc x = true) : (((x.op : Nat) : Int) = 30 ∨ ((x.op : Nat) : Int) = 31 → 0 ≤ x.n ∧ x.n ≤ 4) ∧ 0 ≤ (tgt x).getD 0 ∧ (tgt x).getD 0 ≤ nc := by
 unfold formedB at h
 simp only [Bool.and_eq_true, decide_eq_true_eq, Bool.not_eq_true', Bool.and_eq_false_iff, Bool.or_eq_false_iff, decide_eq_false_iff_not] at h
 obtain ⟨⟨_, ht⟩, hr⟩ := h
 constructor
 · intro hop
   rw [if_neg (by omega), if_neg (by omega)] at hr
   by_cases hb : x.b < 0 ∨ 63 < x.b ∨ x.n < 0 ∨ 4 < x.n
   · rw [if_pos ⟨hop, hb⟩] at hr; cases hr
   · omega
 · rcases ht with ht | ht
   · have : tgt x = none := by simpa using ht
     rw [this]; exact ⟨Int.le_refl _, Int.natCast_nonneg _⟩
   · omega
def popsN (x : Ins) : Int := if ((x.op : Nat) : Int) = 30 ∨ ((x.op : Nat) : Int) = 31 then (rowOf x.op).pops + x.n else (rowOf x.op).pops
def okH (y v : Int) : Prop := y < 0 ∨ y = v
instance (y v : Int) : Decidable (okH y v) := inferInstanceAs (Decidable (_ ∨ _))
def aftH (m : Int) (x : Ins) : Int := m - popsN x + (rowOf x.op).pushes
def nextH (h : List Int) (i : Nat) (x : Ins) (v : Int) : Option (List Int) :=
 if ((x.op : Nat) : Int) ≠ 27 ∧ ((x.op : Nat) : Int) ≠ 34 then (if okH (h.getD (i + 1) 0) v then some (h.set (i + 1) v) else none) else some h
def jumpH (h : List Int) (x : Ins) (v : Int) : Option (List Int) :=
 if (tgt x).isSome = true then (if okH (h.getD ((tgt x).getD 0).toNat 0) v then some (h.set ((tgt x).getD 0).toNat v) else none) else some h
def stepH (h : List Int) (top : Int) (i : Nat) (x : Ins) : Option (List Int × Int) :=
 let m := max (h.getD i 0) 0
 if m < popsN x ∨ (((x.op : Nat) : Int) = 34 ∧ m ≠ 0) then none else
 (nextH (h.set i m) i x (aftH m x)).bind fun h2 => (jumpH h2 x (aftH m x)).map fun h3 => (h3, max (max top m) (aftH m x))
def goH : Nat → List Ins → List Int → Int → Option (List Int × Int)
 | _, [], h, top => some (h, top)
 | i, x :: r, h, top => (stepH h top i x).bind fun p => goH (i + 1) r p.1 p.2
def heightsV (l : List Ins) : Int × Bool := match goH 0 l (List.replicate (l.length + 1) (-1)) 0 with
 | none => (0, false)
 | some (h, top) => (top, decide (h.getD l.length 0 ≤ 0))
theorem heights_none {l : List Ins} (h : goH 0 l (List.replicate (l.length + 1) (-1)) 0 = none) : heightsV l = (0, false) := by unfold heightsV; rw [h]
theorem getD_of {l : List Int} {i : Nat} {y : Int} (h : l[i]? = some y) : l.getD i 0 = y := by rw [List.getD_eq_getElem?_getD, h]; rfl
theorem all_set {l : List Int} {i : Nat} {v lo hi : Int} (h : ∀ y ∈ l, lo ≤ y ∧ y ≤ hi) (hv : lo ≤ v ∧ v ≤ hi) : ∀ y ∈ l.set i v, lo ≤ y ∧ y ≤ hi := fun y hy => by
 rcases List.mem_or_eq_of_mem_set hy with h1 | rfl
 · exact h y h1
 · exact hv
end Go.Proofs.YtllalpnmagpkfaaGreatDoor
