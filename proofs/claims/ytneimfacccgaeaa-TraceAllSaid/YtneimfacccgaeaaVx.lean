/- Small laws: where rows lie, values of events. Own text. -/
import Derived.Test.YtneimfacccgaeaaV19
import Derived.Test.YtneimfacccgaeaaL5
import Derived.Test.YtneimfacccgaeaaL4
namespace Go.Proofs.Ytneimfacccgaeaa
open Go.RowKit Go.Flow Go.Mem Go.Sep
theorem dep_val {x y x' y' : Ev} (hx : x.val = x'.val) (hy : y.val = y'.val) : x.dep y = x'.dep y' := by
  have a := (val_eq x x').1 hx
  have b := (val_eq y y').1 hy
  unfold Ev.dep Ev.arr
  simp only [a, b]
theorem Rd.eqlSl {P : Program} {o : Oper} {ρ : Slots} {Γ : List Chunk} {x y : Operand} {t t' e : TypeId} {A : Option Addr} {n c : Nat} (ho : o.op = .binOp .eql t x y t') (ht : P.underlying t = some (.slice e)) (hx : ev ρ x = some (.slice A n c)) (hy : ev ρ y = some (.slice none 0 0)) : Rd P o ρ Γ (.bool A.isNone) := Rd.bin ho hx hy fun w => by
  have key : ∀ d, (Op.equalIn (d + 1) t (.slice A n c) (.slice none 0 0)).run P w = .ok A.isNone w := fun d => by
    cases A <;> simp [Op.equalIn, run_underlying ht]
  have h : (Op.equal t (.slice A n c) (.slice none 0 0)).run P w = .ok A.isNone w := key 9999
  cases A <;> simp [eqGuard, binOp, h]
/-- Where a row lies that is not empty. -/
theorem ros_some {Γ : List Chunk} {w : World} {α : Type} {enc : α → List Value} {size : Nat} (E : Enc enc size) (hp : 0 < size) {A : Option Addr} {l : List α} (h0 : 0 < l.length) (i : Nat) (h : Γ[i]? = some (ros enc A l)) (hs : sat Γ w) : A.isNone = false := by
  rcases (show Src w A (l.flatMap enc) from hs.each _ (List.mem_of_getElem? h)) with h1 | ⟨g, off, rfl, _⟩
  · have := E.flat_len l
    rw [h1] at this
    have h2 : 0 < l.length * size := Nat.mul_pos h0 hp
    simp at this; omega
  · rfl
theorem rows_some {Γ : List Chunk} {w : World} {α : Type} {enc : α → List Value} {size : Nat} (E : Enc enc size) (hp : 0 < size) {e : TypeId} {cap : Nat} {A : Option Addr} {l : List α} (h0 : 0 < l.length) (i : Nat) (h : Γ[i]? = some (rows enc e size A cap l)) (hs : sat Γ w) : A = some ⟨blk A, ofs A, none⟩ := by
  obtain ⟨A', cap', h1, h2, _⟩ := own_form (show w.ownsRow 0 e size (.slice A l.length cap) l.length (l.flatMap enc) from hs.each _ (List.mem_of_getElem? h))
  simp only [Value.slice.injEq] at h1
  rw [← h1.1] at h2
  rcases h2 with h3 | ⟨g, off, rfl, _⟩
  · have := E.flat_len l
    rw [h3] at this
    have h2 : 0 < l.length * size := Nat.mul_pos h0 hp
    simp at this; omega
  · rfl
/-- An address within a slice, whatever lies there. -/
theorem Rd.indexS {P : Program} {o : Oper} {ρ : Slots} {Γ : List Chunk} {x y : Operand} {t e : TypeId} {size bytes : Nat} {zs : List Value} {A : Option Addr} {n cap j : Nat} {k : IntKind} (hA : A = some ⟨blk A, ofs A, none⟩) (ho : o.op = .indexAddr t x y) (hx : ev ρ x = some (.slice A n cap)) (hy : ev ρ y = some (.int k j)) (ht : SliceTy P t e size bytes zs) (hj : j < n) : Rd P o ρ Γ (.pointer (some ⟨blk A, ofs A + j * size, none⟩)) := fun a w ha _ => by
  obtain ⟨it, zv, h2, h3, h4, _⟩ := ht.inf
  unfold execOp
  rw [hA] at hx
  simp [ho, ha.eval hx, ha.eval hy, Instr.indexAt, asIntOf, run_underlying ht.und, hj, sizeOf, typeInfo, h2, h4, Addr.add_mid]
end Go.Proofs.Ytneimfacccgaeaa
