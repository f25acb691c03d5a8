/- More steps: rounds one by one, three results, a letter of a word. Own text. -/
import Derived.Test.YtoehnbacbobhiaaDoorSepe
import Derived.Test.YtoehnbacbobhiaaDoorSepp
import Derived.LoopN
namespace Go.Sep
open Go.RowKit Go.Flow Go.Mem
section
variable {P : Program} {C : Cx} {ρ : Slots} {Γ : List Chunk} {Q : Exit → Act → World → Prop} {o : Oper} {x y : Operand} {t t' : TypeId}
/-- A loop of so many rounds at most, walked round by round. -/
theorem To.rounds {c : Code} (n : Nat) (h : To C ρ Γ (Code.rounds P c Q n)) : To C ρ Γ ((Code.loop c).wp P Q) := fun a w ha hp => wp_loop_rounds n (h a w ha hp)
theorem To.roundS {c : Code} {n : Nat} (h : To C ρ Γ (c.wp P (Exit.then (Code.rounds P c Q n) Q))) : To C ρ Γ (Code.rounds P c Q (n + 1)) := h
theorem To.end3 {R : Value → List Chunk → Prop} {fn : Func} {ex : Exit} {t u s : Nat} {v v' v'' : Value} (hex : ex = .ret ∨ ex = .normal) (hres : fn.results = #[.tmp t, .tmp u, .tmp s]) (hv : look ρ t = some v) (hv' : look ρ u = some v') (hv'' : look ρ s = some v'') (h : R (.tuple #[v, v', v'']) Γ) (hds : C.ds = [] := by rfl) : To C ρ Γ (bodyPost P fn (Fin C R) ex) :=
  To.ends hex (fun a w ha _ => by
    unfold results
    rw [hres]
    simp [Array.getD_eq_getD_getElem?, ha.sees t v hv, ha.sees u v' hv', ha.sees s v'' hv'']) h hds
/-- A letter of a word. -/
theorem Rd.indexStr {s : ByteArray} {j : Nat} {k : IntKind} (ho : o.op = .index t x y) (ht : P.underlying t = some .string) (hx : ev ρ x = some (.string s)) (hy : ev ρ y = some (.int k (j : Int))) (hj : j < s.size) : Rd P o ρ Γ (.int .u8 (s.data[j]'hj).toNat) := fun a w ha _ => by
  unfold execOp
  simp [ho, ha.eval hx, ha.eval hy, Instr.index, asIntOf, run_underlying ht, hj]
  rfl
/-- A letter of a word: whatever it is, it is one. -/
theorem To.letter {ops : Array Oper} {rest : List Oper} {d : Nat} {s : ByteArray} {j : Nat} {k : IntKind} (hg : grd ops ρ o = some true) (hd : o.dst = some d) (hn : Nat.blt d C.n = true) (ho : o.op = .index t x y) (ht : P.underlying t = some .string) (hx : ev ρ x = some (.string s)) (hy : ev ρ y = some (.int k (j : Int))) (hj : j < s.size)
    (h : ∀ n : Nat, n < 256 → To C ((d, .int .u8 (n : Int)) :: ρ) Γ (wpList P ops Q rest)) : To C ρ Γ (wpList P ops Q (o :: rest)) :=
  To.rd hg hd hn (Rd.indexStr ho ht hx hy hj) (h _ (UInt8.toNat_lt _))
end
theorem Rd.eqlSl {P : Program} {o : Oper} {ρ : Slots} {Γ : List Chunk} {x y : Operand} {t t' e : TypeId} {A : Option Addr} {n c : Nat} (ho : o.op = .binOp .eql t x y t') (ht : P.underlying t = some (.slice e)) (hx : ev ρ x = some (.slice A n c)) (hy : ev ρ y = some (.slice none 0 0)) : Rd P o ρ Γ (.bool A.isNone) := Rd.bin ho hx hy fun w => by
  have key : ∀ d, (Op.equalIn (d + 1) t (.slice A n c) (.slice none 0 0)).run P w = .ok A.isNone w := fun d => by
    cases A <;> simp [Op.equalIn, run_underlying ht]
  have h : (Op.equal t (.slice A n c) (.slice none 0 0)).run P w = .ok A.isNone w := key 9999
  cases A <;> simp [eqGuard, binOp, h]
/-- Where a row lies that is not empty. -/
theorem ros_some {Γ : List Chunk} {w : World} {α : Type} {enc : α → List Value} {size : Nat} (E : Enc enc size) (hp : 0 < size) {A : Option Addr} {l : List α} (h0 : 0 < l.length) (i : Nat) (h : Γ[i]? = some (ros enc A l)) (hs : sat Γ w) : A.isNone = false := by
  rcases (show Src w A (l.flatMap enc) from hs.each _ (List.mem_of_getElem? h)) with h1 | ⟨g, off, rfl, _⟩
  · have := E.flat_len l
    rw [h1] at this
    have h2 : 0 < l.length * size := Nat.mul_pos h0 hp
    simp at this; omega
  · rfl
theorem rows_some {Γ : List Chunk} {w : World} {α : Type} {enc : α → List Value} {size : Nat} (E : Enc enc size) (hp : 0 < size) {e : TypeId} {cap : Nat} {A : Option Addr} {l : List α} (h0 : 0 < l.length) (i : Nat) (h : Γ[i]? = some (rows enc e size A cap l)) (hs : sat Γ w) : A = some ⟨blk A, ofs A, none⟩ := by
  obtain ⟨A', cap', h1, h2, _⟩ := own_form (show w.ownsRow 0 e size (.slice A l.length cap) l.length (l.flatMap enc) from hs.each _ (List.mem_of_getElem? h))
  simp only [Value.slice.injEq] at h1
  rw [← h1.1] at h2
  rcases h2 with h3 | ⟨g, off, rfl, _⟩
  · have := E.flat_len l
    rw [h3] at this
    have h2 : 0 < l.length * size := Nat.mul_pos h0 hp
    simp at this; omega
  · rfl
/-- An address within a slice, whatever lies there. -/
theorem Rd.indexS {P : Program} {o : Oper} {ρ : Slots} {Γ : List Chunk} {x y : Operand} {t e : TypeId} {size bytes : Nat} {zs : List Value} {A : Option Addr} {n cap j : Nat} {k : IntKind} (hA : A = some ⟨blk A, ofs A, none⟩) (ho : o.op = .indexAddr t x y) (hx : ev ρ x = some (.slice A n cap)) (hy : ev ρ y = some (.int k j)) (ht : SliceTy P t e size bytes zs) (hj : j < n) : Rd P o ρ Γ (.pointer (some ⟨blk A, ofs A + j * size, none⟩)) := fun a w ha _ => by
  obtain ⟨it, zv, h2, h3, h4, _⟩ := ht.inf
  unfold execOp
  rw [hA] at hx
  simp [ho, ha.eval hx, ha.eval hy, Instr.indexAt, asIntOf, run_underlying ht.und, hj, sizeOf, typeInfo, h2, h4, Addr.add_mid]
end Go.Sep
