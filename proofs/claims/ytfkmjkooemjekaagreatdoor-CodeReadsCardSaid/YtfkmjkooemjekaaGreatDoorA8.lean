/- The interpreter of known runs: a word's letters appended; a word out of a row of bytes. Own text. -/
import Derived.Test.YtfkmjkooemjekaaGreatDoorA7
import Derived.Lib.AppendStr
import Derived.Lib.UnsafeStr
set_option linter.unusedVariables false
set_option linter.unusedSimpArgs false
namespace Go.In
open Go.RowKit Go.Flow Go.Mem Go.Sep
def byteSl (P : Program) (t : TypeId) : Option Nat :=
  match P.underlying t with
  | some (.slice e) => match P.info? e with
    | some i => match i.zero with
      | some (.int .u8 0) => bif Nat.beq i.size 1 && Nat.beq i.bytes 1 then some e else none
      | _ => none
    | none => none
  | _ => none
structure ByteSl (P : Program) (t e : TypeId) : Prop where
  und : P.underlying t = some (.slice e)
  inf : ∃ i, P.info? e = some i ∧ i.zero = some (.int .u8 0) ∧ i.size = 1 ∧ i.bytes = 1
theorem byteSl_ok {P : Program} {t : TypeId} {e : Nat} (h : byteSl P t = some e) : ByteSl P t e := by
  unfold byteSl at h
  split at h
  · rename_i e' hu
    split at h
    · rename_i i hi
      split at h
      · rename_i hz
        cases hb : (Nat.beq i.size 1 && Nat.beq i.bytes 1) with
        | false => rw [hb] at h; cases h
        | true =>
          rw [hb] at h; cases h
          rw [Bool.and_eq_true] at hb
          exact ⟨hu, i, hi, hz, Nat.eq_of_beq_eq_true hb.1, Nat.eq_of_beq_eq_true hb.2⟩
      · cases h
    · cases h
  · cases h
section
variable {P : Program} {o : Oper} {ρ : Slots} {Γ : List Chunk} {x y : Operand} {t u e : TypeId}
theorem run_append_str {w : World} {ty : TypeId} (ht : ByteSl P t e) (hu : P.underlying u = some .string) {v : Value} {n : Nat} {xs : List Value} (hown : w.ownsRow 0 e 1 v n xs) (s : ByteArray)
    (hbytes : n + s.size ≤ 140737488355328) :
    ∃ v' w', (Builtin.append_ #[t, u] ty #[v, .string s]).run P w = .ok v' w' ∧ w'.ownsRow 0 e 1 v' (n + s.size) (xs ++ Lib.strCells s) ∧ Keeps (fun g => v.ownBlock = some g) w w' ∧
      ∀ g, v'.ownBlock = some g → v.ownBlock = some g ∨ w.heap.size ≤ g := by
  obtain ⟨i, h2, h3, h4, h5⟩ := ht.inf
  have h63 : n + s.size ≤ maxLen := by simp only [maxLen]; omega
  have hk : ∀ w', w.grownBy w' v.ownBlock → w.drawn ≤ w'.drawn → Keeps (fun g => v.ownBlock = some g) w w' := fun w' h hd => (Keeps.of_grown h hd).mono fun _ _ h => h.symm
  obtain ⟨v', w', hr, g1, g2, _⟩ := Lib.run_append_own_string (P := P) w 0 t u ty e i ht.und hu h2 h3 h4 h5 v n xs hown s h63 hbytes (Nat.zero_le _)
  refine ⟨v', w', hr, g1, hk w' g2 (run_drawn _ _ _ _ hr), fun g hg => ?_⟩
  rcases hown.2 with ⟨rfl, rfl⟩ | ⟨g0, cap, cur, rfl, hbg, hgg, hnc, hcm, hcs, htake⟩
  · have hxl : xs = [] := List.eq_nil_of_length_eq_zero (by simpa using hown.1)
    subst hxl
    obtain ⟨v2, w2, hr2, q1, _, _⟩ := Lib.run_append_own_string (P := P) w w.heap.size t u ty e i ht.und hu h2 h3 h4 h5 (.slice none 0 0) 0 [] (World.ownsRow_nil w _ e 1) s h63 hbytes (Nat.le_refl _)
    rw [hr] at hr2
    cases hr2
    rcases q1.2 with ⟨hv, _⟩ | ⟨g2, _, _, hv, hb, _⟩
    · rw [hv] at hg; cases hg
    · rw [hv] at hg; simp [Value.ownBlock] at hg; subst hg; exact .inr hb
  · by_cases hroom : n + s.size ≤ cap
    · have hcs' : cur.size = cap := by simpa using hcs
      have hr2 := Lib.run_append_room_string (P := P) w t u ty e i ht.und hu h2 h4 g0 n cap cur hgg s hroom (by omega)
      rw [hr] at hr2
      cases hr2
      exact .inl hg
    · have holds : ∀ j u, xs[j]? = some u → w.cell? ((⟨g0, 0, none⟩ : Addr).add j) = some u := hown.cells (g := g0) rfl
      have hr2 := Lib.run_append_grow_string (P := P) w t u ty e i (.int .u8 0) ht.und hu h2 h3 ⟨g0, 0, none⟩ n cap xs (by rw [h4]; simpa using hown.1) holds s (by omega) (by omega) (by rw [h5]; exact growslice_fits (by omega) (by omega))
      rw [hr] at hr2
      cases hr2
      simp [Value.ownBlock] at hg
      exact .inr (by omega)
theorem own_blks {w : World} {A : Option Addr} {n cap : Nat} {g : Nat} (h : g ∈ blks A) : (Value.slice A n cap).ownBlock = some g := by
  obtain ⟨ad, rfl, rfl⟩ := mem_blks.1 h
  rfl
theorem Ge.appendStr {A : Option Addr} {n cap i : Nat} {xs : List Value} {s : ByteArray} (ho : o.op = .call { callee := .builtin .append, args := #[x, y], argTypes := #[t, u] }) (ht : ByteSl P t e) (hu : P.underlying u = some .string)
    (hx : ev ρ x = some (.slice A n cap)) (hy : ev ρ y = some (.string s)) (hi : Γ[i]? = some (row e 1 A n cap xs)) (hby : n + s.size ≤ 140737488355328) :
    Ge P o ρ Γ (fun v Γ' => ∃ A' cap', v = .slice A' (n + s.size) cap' ∧ Γ' = Γ.set i (row e 1 A' (n + s.size) cap' (xs ++ Lib.strCells s))) := fun a w ha hs => by
  have hrow : w.ownsRow 0 e 1 (.slice A n cap) n xs := hs.each _ (List.mem_of_getElem? hi)
  obtain ⟨v', w', hrun, h7, h8, h9⟩ := run_append_str (ty := o.type) ht hu hrow s hby
  obtain ⟨A', cap', rfl, _⟩ := own_form h7
  refine ⟨_, _, w', ?_, ⟨A', cap', rfl, rfl⟩, Post.set hi hs ⟨⟨fun c hc => by rw [List.mem_singleton.1 hc]; exact h7, ?_, by simp [reads, row]⟩, ?_, ?_, by simp [reads, row]⟩⟩
  · unfold execOp
    simp only [ho, resolve, invoke, builtin, Sem.run_bind, Sem.run_pure, Result.andThen_ok, List.map_toArray, List.map_cons, List.map_nil, ha.eval hx, ha.eval hy, hrun]
  · cases A' <;> simp [owns, row, blks]
  · refine h8.mono fun g _ hg => ?_
    cases A with
    | none => simp [Value.ownBlock] at hg
    | some a' => simp [Value.ownBlock] at hg; simp [owns, row, blks, hg]
  · intro g hg hl
    have hg' : g ∈ blks A' := by simpa [owns, row] using hg
    rcases h9 g (own_blks (w := w) hg') with h | h
    · cases A with
      | none => simp [Value.ownBlock] at h
      | some a' => simp [Value.ownBlock] at h; simp [owns, row, blks, h]
    · omega
theorem Mk.appendStr {s : ByteArray} (ho : o.op = .call { callee := .builtin .append, args := #[x, y], argTypes := #[t, u] }) (ht : ByteSl P t e) (hu : P.underlying u = some .string)
    (hx : ev ρ x = some (.slice none 0 0)) (hy : ev ρ y = some (.string s)) (hby : s.size ≤ 140737488355328) :
    Mk P o ρ Γ (fun v N => ∃ A' cap', v = .slice A' s.size cap' ∧ N = [row e 1 A' s.size cap' (Lib.strCells s)]) := fun a w ha _ => by
  obtain ⟨v', w', hrun, h7, h8, h9⟩ := run_append_str (ty := o.type) ht hu (World.ownsRow_nil w 0 e 1) s (by omega)
  rw [Nat.zero_add, List.nil_append] at h7
  obtain ⟨A', cap', rfl, _⟩ := own_form h7
  refine ⟨_, _, w', ?_, ⟨A', cap', rfl, rfl⟩, ⟨⟨fun c hc => by rw [List.mem_singleton.1 hc]; exact h7, ?_, by simp [reads, row]⟩, ?_, ?_, by simp [reads, row]⟩⟩
  · unfold execOp
    simp only [ho, resolve, invoke, builtin, Sem.run_bind, Sem.run_pure, Result.andThen_ok, List.map_toArray, List.map_cons, List.map_nil, ha.eval hx, ha.eval hy, hrun]
  · cases A' <;> simp [owns, row, blks]
  · exact h8.mono fun _ _ h => by simp [Value.ownBlock] at h
  · intro g hg hl
    have hg' : g ∈ blks A' := by simpa [owns, row] using hg
    rcases h9 g (own_blks (w := w) hg') with h | h
    · simp [Value.ownBlock] at h
    · omega
theorem Ge.unsafeStr {b n cap i : Nat} {l : List UInt8} {pt it : TypeId} (ho : o.op = .call { callee := .builtin .unsafeString, args := #[x, y], argTypes := #[pt, it] }) (hp : P.underlying pt = some (.pointer e)) (hc : P.cellsOf e = 1)
    (hx : ev ρ x = some (.pointer (some ⟨b, 0, none⟩))) (hy : ev ρ y = some (.int .i64 (n : Int))) (hi : Γ[i]? = some (row e 1 (some ⟨b, 0, none⟩) n cap (l.map fun z => Value.int .u8 z.toNat))) (hn : 0 < n) (hb : n ≤ 140737488355328) :
    Ge P o ρ Γ (fun v Γ' => v = .string ⟨l.toArray⟩ ∧ Γ' = Γ.eraseIdx i) := fun a w ha hs => by
  have hrow : w.ownsRow 0 e 1 (.slice (some ⟨b, 0, none⟩) n cap) n (l.map fun z => Value.int .u8 z.toNat) := hs.each _ (List.mem_of_getElem? hi)
  have hl : l.length = n := by have := hrow.1; simpa using this
  rcases hrow.2 with ⟨hv, _⟩ | ⟨g, cap', cur, hv, _, hgg, hnc, hcm, hcs, htake⟩
  · cases hv
  simp only [Value.slice.injEq, Option.some.injEq, Addr.mk.injEq] at hv
  obtain ⟨⟨rfl, _⟩, _, rfl⟩ := hv
  have hcell : ∀ j z, l[j]? = some z → w.cell? ((⟨b, 0, none⟩ : Addr).add j) = some (.int .u8 z.toNat) := fun j z hz =>
    hrow.cells (g := b) rfl j _ (by rw [List.getElem?_map, hz]; rfl)
  have hrun := Lib.run_unsafeString_row (P := P) w pt it o.type e hp hc b cur.size (by simp [World.shape?, hgg]) l (by intro h; rw [h] at hl; simp at hl; omega) (by rw [hcs]; omega) (by omega) hcell
  rw [hl] at hrun
  have hpm := perm_eraseIdx hi
  have hs2 := hs.perm hpm
  have hrest : sat (Γ.eraseIdx i) w := Sep.sat.right (Γ := [_]) hs2
  have hnb : ∀ g, g ∈ owns (Γ.eraseIdx i) ∨ g ∈ reads (Γ.eraseIdx i) → g ≠ b := by
    intro g hg e0
    subst e0
    have hown : g ∈ owns [row e 1 (some ⟨g, 0, none⟩) n cap (l.map fun z => Value.int .u8 z.toNat)] := by simp [owns, row, blks]
    rcases hg with hg | hg
    · have := hs2.nodup
      rw [show (row e 1 (some ⟨g, 0, none⟩) n cap (l.map fun z => Value.int .u8 z.toNat) :: Γ.eraseIdx i) = [row e 1 (some ⟨g, 0, none⟩) n cap (l.map fun z => Value.int .u8 z.toNat)] ++ Γ.eraseIdx i from rfl, owns_append] at this
      exact (List.nodup_append.1 this).2.2 g hown g hg rfl
    · exact hs2.apart g (by simp [reads, row]; exact mem_reads.1 hg) (by simp [owns, row, blks])
  have hother : ∀ g, g ≠ b → (w.freeze ⟨b, 0, none⟩ n).heap[g]? = w.heap[g]? := fun g hg => by
    unfold World.freeze
    split
    · rfl
    · simp [Array.getElem?_modify, Ne.symm hg]
  have hsz : (w.freeze ⟨b, 0, none⟩ n).heap.size = w.heap.size := by
    unfold World.freeze; split <;> simp
  refine ⟨_, _, w.freeze ⟨b, 0, none⟩ n, ?_, ⟨rfl, rfl⟩, ⟨⟨fun c hc => ?_, hrest.nodup, hrest.apart⟩, ⟨?_, ?_, ?_, Nat.le_of_eq hsz.symm, fun g hg hn => ?_, ?_⟩, fun g hg _ => ?_, fun g hg _ => ?_⟩⟩
  · unfold execOp
    simp only [ho, resolve, invoke, builtin, Sem.run_bind, Sem.run_pure, Result.andThen_ok, List.map_toArray, List.map_cons, List.map_nil, ha.eval hx, ha.eval hy, hrun]
  · refine c.loc w _ (fun g hg => hother g (hnb g ?_)) (hrest.each c hc)
    exact hg.imp (fun h => mem_owns.2 ⟨c, hc, h⟩) (fun h => mem_reads.2 ⟨c, hc, h⟩)
  · unfold World.freeze; split <;> rfl
  · unfold World.freeze; split <;> rfl
  · unfold World.freeze; split <;> rfl
  · refine hother g fun e0 => hn ?_
    subst e0
    exact (hpm.flatMap_right Chunk.owns).mem_iff.2 (by simp [row, blks])
  · unfold World.freeze; split <;> exact Nat.le_refl _
  · exact (hpm.flatMap_right Chunk.owns).mem_iff.2 (List.mem_append_right _ hg)
  · exact .inr ((hpm.flatMap_right Chunk.reads).mem_iff.2 (List.mem_append_right _ hg))
end
end Go.In
