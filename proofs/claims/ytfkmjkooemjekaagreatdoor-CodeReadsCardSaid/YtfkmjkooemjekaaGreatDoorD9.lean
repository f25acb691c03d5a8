/- Bytes as a string. Own text. -/
import Derived.Test.YtfkmjkooemjekaaGreatDoorD8
import Derived.Laws.BytesString
set_option linter.unusedVariables false
set_option linter.unusedSimpArgs false
namespace Go.Proofs.YtfkmjkooemjekaaGreatDoor
open Go.RowKit Go.Flow Go.Mem Go.Sep
def strOf (l : List Nat) : ByteArray := (l.map fun n : Nat => (n : Int)).foldl (fun r n => r.push (UInt8.ofNat n.toNat)) ByteArray.empty
theorem encY_map (l : List Nat) : l.flatMap encY = (l.map fun n : Nat => (n : Int)).map (Value.int .u8) := by
  induction l with
  | nil => rfl
  | cons a r ih => rw [List.flatMap_cons, ih]; rfl
theorem Rd.bytesStr {P : Program} {o : Oper} {ρ : Slots} {Γ : List Chunk} {x : Operand} {src dst e : TypeId} {A : Option Addr} {l : List Nat} {cap : Nat} (ho : o.op = .convert src dst x) (hs : P.underlying src = some (.slice e)) (he : P.underlying e = some (.int .u8)) (hd : P.underlying dst = some .string)
    (hx : ev ρ x = some (.slice A l.length cap)) (hr : ∀ w, oks Γ w → (ros encY A l).holds w) : Rd P o ρ Γ (.string (strOf l)) := fun a w ha hw => by
  have hq : Src w A (l.flatMap encY) := hr w hw
  have hc := run_convert_bytes_string (P := P) w src dst e A l.length cap hs he hd
  have hb : (Conv.bytesToString (.slice A l.length cap)).run P w = .ok (.string (strOf l)) w := by
    cases A with
    | none =>
      have hl : l = [] := by
        rcases hq with h | ⟨g, off, h, _⟩
        · cases l with
          | nil => rfl
          | cons z r => exact absurd (congrArg List.length h) (by simp [encY])
        · cases h
      subst hl
      simp [Conv.bytesToString, strOf, Sem.run_pure]
    | some ad =>
      refine run_bytesToString w ad l.length cap (l.map fun n : Nat => (n : Int)) ?_
      have hcell : ∀ j v, (l.flatMap encY)[j]? = some v → w.cell? (ad.add j) = some v := by
        intro j v hv
        rcases hq with h | ⟨g, off, h, h2⟩
        · rw [h] at hv; cases hv
        · injection h with h; subst h
          rw [Addr.add_mid]; exact h2 j v hv
      have h3 := run_loadCells_list (P := P) (w := w) ad (l.flatMap encY) hcell
      rw [encY_map, List.length_map, List.length_map] at h3
      exact h3
  unfold execOp
  simp [ho, ha.eval hx, hc, hb]
end Go.Proofs.YtfkmjkooemjekaaGreatDoor
