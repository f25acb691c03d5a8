/- append onto an empty slice: nothing that was there is changed. Own text. -/
import Derived.Test.YtoehnbacbobhiaaDoorSeps
namespace Go.Sep
open Go.RowKit Go.Flow Go.Mem
section
variable {P : Program} {o : Oper} {ρ : Slots} {Γ : List Chunk} {x y : Operand}
theorem append_empty_eq {w : World} {t ty e : TypeId} {i : TypeInfo} {z : Value} (ht : P.underlying t = some (.slice e)) (hi : P.info? e = some i) (hz : i.zero = some z) (b a : Addr) (n c : Nat) (news : List Value) (hl : news.length = n * i.size) (hnews : ∀ j v, news[j]? = some v → w.cell? (a.add j) = some v)
    (h0 : 0 < n) (h63 : (n : Int) ≤ 9223372036854775807) (h48 : n * i.bytes ≤ 281474976710656) : (Builtin.append_ #[t, t] ty #[.slice (some b) 0 0, .slice (some a) n c]).run P w = (Builtin.append_ #[t, t] ty #[.slice none 0 0, .slice (some a) n c]).run P w := by
  rw [run_append_nil (P := P) (w := w) t ty e i z ht hi hz a n c news hl hnews h0 h63 h48,
    run_append_grow (P := P) (w := w) t ty e i z ht hi hz b 0 0 [] (by simp) (by simp) a n c news hl hnews (by omega) (by simpa using h63) (by rw [Nat.zero_add, nextslicecap_zero h0]; exact h48)]
  simp
/-- append(s, t...), s empty and without room, t not empty: a row of one's own. -/
theorem Mk.appendNew {α : Type} {enc : α → List Value} {size : Nat} (E : Enc enc size) {t e : TypeId} {bytes : Nat} {zs : List Value} {A B : Option Addr} {cb : Nat} {m : List α} (ho : o.op = .call { callee := .builtin .append, args := #[x, y], argTypes := #[t, t] }) (ht : SliceTy P t e size bytes zs)
    (hx : ev ρ x = some (.slice A 0 0)) (hy : ev ρ y = some (.slice B m.length cb)) (hs : ∀ w, oks Γ w → Src w B (m.flatMap enc)) (h0 : 0 < m.length) (h63 : m.length ≤ 9223372036854775807) (hby : m.length * bytes ≤ 140737488355328) :
    Mk P o ρ Γ (fun v N => ∃ A' cap', v = .slice A' m.length cap' ∧ N = [rows enc e size A' cap' m]) := fun a w ha hG => by
  obtain ⟨it, zv, h2, h3, h4, h5, h6⟩ := ht.inf
  have hsrc := hs w hG
  have hnil : w.ownsRow 0 e size (.slice none 0 0) 0 [] := World.ownsRow_nil w 0 e size
  obtain ⟨v', w', hrun, h7, h8, h9⟩ := run_append_from (P := P) w 0 t o.type e it zv size bytes ht.und h2 h3 h4 h5 (by rw [h6]; simpa using ht.len) ht.pos _ 0 [] hnil B m.length cb (m.flatMap enc) (E.flat_len m) hsrc (E.flat_one m) (by simp only [maxLen]; omega) (by rw [Nat.zero_add]; exact hby) (Nat.zero_le _)
  have hrun2 : (Builtin.append_ #[t, t] o.type #[.slice A 0 0, .slice B m.length cb]).run P w = .ok v' w' := by
    rw [← hrun]
    cases A with
    | none => rfl
    | some b =>
      rcases hsrc with h | ⟨g, off, rfl, hr⟩
      · have := E.flat_len m
        rw [h] at this
        have hp := ht.pos
        have : 0 < m.length * size := Nat.mul_pos h0 hp
        simp at *; omega
      · exact append_empty_eq ht.und h2 h3 b ⟨g, off, none⟩ m.length cb (m.flatMap enc) (by rw [E.flat_len, h4]) (fun j v hv => by rw [Addr.add_mid]; exact hr j v hv) h0 (by omega) (by rw [h5]; omega)
  rw [Nat.zero_add, List.nil_append] at h7
  obtain ⟨A', cap', rfl, _⟩ := own_form h7
  have hnew : ∀ g, g ∈ blks A' → g = w.heap.size := fun g hg => by
    obtain ⟨ad, rfl, rfl⟩ := mem_blks.1 hg
    rcases h9 with h9 | h9
    · simp [Value.ownBlock] at h9
    · simp [Value.ownBlock] at h9; exact h9
  refine ⟨_, _, w', ?_, ⟨A', cap', rfl, rfl⟩, ⟨⟨fun c hc => by rw [List.mem_singleton.1 hc]; exact h7, by cases A' <;> simp [owns, rows, row, blks], by simp [reads, rows, row]⟩, h8.mono fun _ _ h => by simp [Value.ownBlock] at h, fun g hg hl => ?_, by simp [reads, rows, row]⟩⟩
  · unfold execOp
    simp only [ho, resolve, invoke, builtin, Sem.run_bind, Sem.run_pure, Result.andThen_ok, List.map_toArray, List.map_cons, List.map_nil, ha.eval hx, ha.eval hy, hrun2]
  · have : g ∈ blks A' := by simpa [owns, rows, row] using hg
    have := hnew g this; omega
/-- append(s), nothing appended. -/
theorem Rd.append0 {t e : TypeId} {size bytes : Nat} {zs : List Value} {A B : Option Addr} {n cap m cb : Nat} (ho : o.op = .call { callee := .builtin .append, args := #[x, y], argTypes := #[t, t] }) (ht : SliceTy P t e size bytes zs)
    (hx : ev ρ x = some (.slice A n cap)) (hy : ev ρ y = some (.slice B m cb)) (hm : m = 0) (hc : n ≤ cap) : Rd P o ρ Γ (.slice A n cap) := fun a w ha _ => by
  obtain ⟨it, zv, h2, h3, h4, h5, h6⟩ := ht.inf
  subst hm
  have : (Builtin.append_ #[t, t] o.type #[.slice A n cap, .slice B 0 cb]).run P w = .ok (.slice A n cap) w := by
    cases A <;> cases B <;> simp [Builtin.append_, run_underlying ht.und, sizeOf, typeInfo, h2, Builtin.lenOf, Builtin.firstCells, hc, storeCells, loadCells, loadCellsFrom]
  unfold execOp
  simp only [ho, resolve, invoke, builtin, Sem.run_bind, Sem.run_pure, Result.andThen_ok, List.map_toArray, List.map_cons, List.map_nil, ha.eval hx, ha.eval hy, this]
theorem Mk.slice0R {α : Type} {enc : α → List Value} {size : Nat} {t e : TypeId} {bytes : Nat} {zs : List Value} (ho : o.op = .buildSlice t 0 #[]) (ht : SliceTy P t e size bytes zs) : Mk P o ρ Γ (fun v N => ∃ A, v = .slice A ([] : List α).length 0 ∧ N = [rows enc e size A 0 ([] : List α)]) := Mk.slice0 ho ht
end
end Go.Sep
