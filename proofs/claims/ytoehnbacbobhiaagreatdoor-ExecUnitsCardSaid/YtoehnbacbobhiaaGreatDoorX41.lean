/- The reference's run, beside the machine's. Plain facts. Own text. -/
import Derived.Test.YtoehnbacbobhiaaGreatDoorX40
set_option linter.unusedVariables false
set_option linter.unusedSimpArgs false
namespace Go.Proofs.YtoehnbacbobhiaaGreatDoor
open Go.Sep
theorem Fit.at_ {s : Sm} {x : Ins} {d : Dv} {n : Int} (h : Fit s x { d with next := n }) : Fit s x d := ⟨h.var, h.par, h.flag, h.tab, h.sends, h.ops, h.pops, h.height, h.cost⟩
def sameM (s t : Sm) : Prop := s.code = t.code ∧ s.args = t.args ∧ s.now = t.now ∧ s.flags = t.flags ∧ s.dsk = t.dsk ∧ ∀ y, y ∈ s.fail ↔ y ∈ t.fail
theorem stepV_sameM {s t : Sm} (h : sameM s t) (x : Ins) (d : Dv) : stepV s x d = stepV t x d := by
  obtain ⟨h1, h2, h3, h4, h5, h6⟩ := h
  have e : decide (s.dsk + d.disks ∈ s.fail) = decide (t.dsk + d.disks ∈ t.fail) := by rw [h5]; exact decide_eq_decide.2 (h6 _)
  have e2 : diskV s x d = diskV t x d := by unfold diskV; rw [e]
  unfold stepV
  rw [h1, h2, h3, h4, e2]
theorem Fit.sameM {s t : Sm} (h : sameM s t) {x : Ins} {d : Dv} (f : Fit t x d) : Fit s x d := ⟨f.var, by rw [h.2.1]; exact f.par, by rw [h.2.2.2.1]; exact f.flag, f.tab, f.sends, f.ops, f.pops, f.height, f.cost⟩
theorem RStep.sameM {s t : Sm} (h : sameM s t) {x : Ins} {d e : Dv} {a nx : Int} (r : RStep s x d a nx e) : RStep t x d a nx e := by
  unfold RStep at *
  rwa [stepV_sameM h] at r
def RJ (s : Sm) (I : Nat → Dv → Prop) (v0 : Dv) (k : Nat) (z : Int) (d : Dv) : Prop :=
  (d.fault = false ∧ 0 ≤ z ∧ runV s 1048576 v0 = runV s (1048576 - k) { d with next := z } ∧ I k { d with next := z }) ∨ (d.fault = true ∧ rs (runV s 1048576 v0) = rs d)
theorem stepV_34 {s : Sm} {x : Ins} {d : Dv} (h : ((x.op : Nat) : Int) = 34) : stepV s x d = { d with next := s.code.length } := by
  unfold stepV
  rw [if_neg (by omega), if_neg (by omega), if_neg (by omega), if_neg (by omega), if_neg (by omega), if_neg (by omega), if_neg (by omega), if_neg (by omega), if_neg (by omega), if_neg (by omega), if_neg (by omega), if_neg (by omega), if_pos h]
theorem RJ.step {s : Sm} {I : Nat → Dv → Prop} (hR : Runs2 s I) {v0 d e : Dv} {k a : Nat} {nx : Int} {x : Ins} (h : RJ s I v0 k a d) (hf : d.fault = false) (hk : k < 1048576) (hx : s.code[a]? = some x) (hs : RStep s x d a nx e) : RJ s I v0 (k + 1) nx e := by
  rcases h with ⟨_, h0, hv, hI⟩ | ⟨h1, _⟩
  · have hlt : ({ d with next := ((a : Nat) : Int) } : Dv).next < s.code.length := by
      have := (List.getElem?_eq_some_iff.1 hx).1
      show ((a : Nat) : Int) < _
      omega
    have hx2 : s.code[({ d with next := ((a : Nat) : Int) } : Dv).next.toNat]? = some x := by show s.code[((a : Nat) : Int).toNat]? = some x; rw [Int.toNat_natCast]; exact hx
    have e1 := runV_step hlt hx2 (1048576 - (k + 1))
    rw [show 1048576 - (k + 1) + 1 = 1048576 - k by omega, ← hv] at e1
    have e2 : (stepV s x { ({ d with next := ((a : Nat) : Int) } : Dv) with next := ({ d with next := ((a : Nat) : Int) } : Dv).next + 1 }) = stepV s x { d with next := a + 1 } := rfl
    rw [e2] at e1
    rcases hs with ⟨h34, he⟩ | ⟨h34, h5, h6, h7⟩ | ⟨h34, h5, h6⟩
    · rw [stepV_34 h34, if_neg (by rw [hf]; decide)] at e1
      have e3 : runV s (1048576 - (k + 1)) { d with next := ((s.code.length : Nat) : Int) } = { d with next := ((s.code.length : Nat) : Int) } := runV_end (by show ¬ ((s.code.length : Nat) : Int) < ((s.code.length : Nat) : Int); omega) _
      exact .inr ⟨by rw [he], by rw [e1]; exact (congrArg rs e3).trans (by rw [he]; rfl)⟩
    · rw [if_pos h5] at e1
      exact .inr ⟨h6, by rw [e1, h7]⟩
    · rw [if_neg (by rw [h5]; decide), ← h6] at e1
      have hI2 := hR.step k _ x hI hk hx2 h5
      have hI3 : I (k + 1) { e with next := nx } := by rw [h6]; exact hI2
      refine .inl ⟨?_, hR.next _ _ hI3, e1, hI3⟩
      have := congrArg Dv.fault h6
      exact this.trans h5
  · rw [hf] at h1; cases h1
theorem RJ.over {s : Sm} {I : Nat → Dv → Prop} {v0 d : Dv} {k : Nat} {z : Int} (h : RJ s I v0 k z d) (hf : d.fault = true ∨ ¬ z < s.code.length) : rs (runV s 1048576 v0) = rs d := by
  rcases h with ⟨h0, _, hv, _⟩ | ⟨_, h⟩
  · rcases hf with hf | hf
    · rw [h0] at hf; cases hf
    · rw [hv, runV_end hf]; rfl
  · exact h
theorem RJ.late {s : Sm} {I : Nat → Dv → Prop} {v0 d : Dv} {z : Int} (h : RJ s I v0 1048576 z d) (hf : d.fault = false) (hz : z < s.code.length) : rs (runV s 1048576 v0) = rs (endV d) := by
  rcases h with ⟨_, _, hv, _⟩ | ⟨h, _⟩
  · rw [hv, Nat.sub_self, runV, if_pos (show ({ d with next := z } : Dv).next < s.code.length from hz)]; rfl
  · rw [hf] at h; cases h
theorem RJ.fit {s t : Sm} {I : Nat → Dv → Prop} (hR : Runs2 t I) (hst : sameM s t) {v0 d : Dv} {k a : Nat} {x : Ins} (h : RJ t I v0 k a d) (hf : d.fault = false) (hx : t.code[a]? = some x) (hfl : s.fail.length ≤ 1000000) : Fit s x d ∧ Okr s d := by
  rcases h with ⟨_, h0, hv, hI⟩ | ⟨h1, _⟩
  · have hx2 : t.code[({ d with next := ((a : Nat) : Int) } : Dv).next.toNat]? = some x := by show t.code[((a : Nat) : Int).toNat]? = some x; rw [Int.toNat_natCast]; exact hx
    obtain ⟨f, o⟩ := hR.fit k _ x hI hx2
    exact ⟨Fit.at_ (n := ((a : Nat) : Int)) (Fit.at_ (f.sameM hst)), ⟨o.tabs, o.disk, hfl, o.effs, o.sends, o.disks, by rw [hst.2.2.2.2.1]; exact o.dsk⟩⟩
  · rw [hf] at h1; cases h1
theorem RJ.effs {s : Sm} {I : Nat → Dv → Prop} (hR : Runs2 s I) {v0 d : Dv} {k : Nat} {z : Int} (h : RJ s I v0 k z d) (hf : d.fault = false) : d.effs.length ≤ 2000000 := by
  rcases h with ⟨_, _, _, hI⟩ | ⟨h1, _⟩
  · have := hR.effs _ _ hI
    exact this
  · rw [hf] at h1; cases h1
theorem formed_a0 {pr : Int} {nc : Nat} {x : Ins} (h : formedB pr nc x = true) (h31 : ((x.op : Nat) : Int) = 31) : x.a = 0 := by
  have hu : usesB x.op 65 = false := by
    have ho : x.op = 31 := by omega
    rw [ho]; decide +kernel
  unfold formedB at h
  rw [hu] at h
  simp only [Bool.and_eq_true, Bool.not_false, Bool.true_and, Bool.not_eq_true', decide_eq_false_iff_not, Classical.not_not] at h
  exact h.1.1.1.1.2
end Go.Proofs.YtoehnbacbobhiaaGreatDoor
