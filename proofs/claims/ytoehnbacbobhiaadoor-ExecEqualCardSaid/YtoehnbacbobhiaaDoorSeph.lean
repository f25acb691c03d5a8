/- Slices of zeros of any size of element. Own text. -/
import Derived.Test.YtoehnbacbobhiaaDoorSepb
namespace Go.Sep
open Go.RowKit Go.Flow Go.Mem
theorem flat_repl {zs : List Value} {s : Nat} (hs : zs.length = s) (hp : 0 < s) : ∀ (n k : Nat), (List.replicate n zs).flatten[k]? = if k < n * s then zs[k % s]? else none
  | 0, k => by simp
  | n + 1, k => by
    rw [List.replicate_succ, List.flatten_cons, List.getElem?_append, hs]
    split
    · rename_i h
      rw [if_pos (by rw [Nat.add_mul, Nat.one_mul]; omega), Nat.mod_eq_of_lt h]
    · rename_i h
      rw [flat_repl hs hp n (k - s), Nat.add_mul, Nat.one_mul]
      have e : (k - s) % s = k % s := by
        conv => rhs; rw [show k = (k - s) + s by omega, Nat.add_mod_right]
      by_cases h2 : k - s < n * s
      · rw [if_pos h2, if_pos (by omega), e]
      · rw [if_neg h2, if_neg (by omega)]
theorem madeCells_listN (zs : List Value) (n s : Nat) (hs : zs.length = s) (hp : 0 < s) : (madeCells zs.toArray (n * s)).toList = (List.replicate n zs).flatten := by
  apply List.ext_getElem?
  intro k
  rw [flat_repl hs hp]
  unfold madeCells
  by_cases hk : k < n * s
  · have h1 : k % s < zs.length := by rw [hs]; exact Nat.mod_lt _ hp
    simp only [List.size_toArray, Array.toList_map, Array.toList_range, List.getElem?_map, List.getElem?_range hk, Option.map_some, hs, if_pos hk]
    rw [List.getElem?_eq_getElem h1]
    simp [h1]
  · simp [hk]
section
variable {P : Program} {o : Oper} {ρ : Slots} {Γ : List Chunk} {x y : Operand} {t : TypeId}
theorem Mk.makeRowsN {α : Type} {enc : α → List Value} {z : α} {e : TypeId} {bytes n size : Nat} {kl kc : IntKind} (hz : (enc z).length = size) (hp : 0 < size) (ho : o.op = .makeSlice t x y) (ht : SliceTy P t e size bytes (enc z)) (hx : ev ρ x = some (.int kl (n : Int))) (hy : ev ρ y = some (.int kc (n : Int))) (hb : bytes * n ≤ 281474976710656) (hc : n ≤ maxLen) :
    Mk P o ρ Γ (fun v N => ∃ b, v = .slice (some ⟨b, 0, none⟩) (List.replicate n z).length n ∧ N = [rows enc e size (some ⟨b, 0, none⟩) n (List.replicate n z)]) := by
  have h := Mk.makeN (P := P) (Γ := Γ) ho ht hx hy hb hc
  intro a w ha hs
  obtain ⟨v, N, w', h1, ⟨b, h2, h3⟩, h4⟩ := h a w ha hs
  refine ⟨v, N, w', h1, ⟨b, by rw [h2, List.length_replicate], ?_⟩, h4⟩
  rw [h3, madeCells_listN _ n size hz hp]
  unfold rows
  rw [List.length_replicate]
  rw [List.flatMap_def, List.map_replicate]
end
end Go.Sep
