/- append(s, make([]T, m)...) onto a row of one's own. Own text. -/
import Derived.Test.YtfkmjkooemjekaaGreatDoorC9
import Derived.Lib.AppendZeros
set_option linter.unusedVariables false
set_option linter.unusedSimpArgs false
namespace Go.Sep
open Go.RowKit Go.Flow Go.Mem
section
variable {P : Program}
theorem run_append_z (w : World) (t ti ty e : TypeId) (i : TypeInfo) (z : Value) (size bytes : Nat) (ht : P.underlying t = some (.slice e)) (hti : P.underlying ti = some (.int .i64)) (hi : P.info? e = some i) (hz : i.zero = some z)
    (hsize : i.size = size) (hby : i.bytes = bytes) (hzs : z.cells.size = size) (h1 : ∀ u ∈ z.cells, u.oneCell' = true) (hsz : 0 < size)
    (v : Value) (n : Nat) (xs : List Value) (hown : w.ownsRow 0 e size v n xs) (m : Nat) (hm : 0 < m) (h63 : n + m ≤ maxLen) (hbytes : (n + m) * bytes ≤ 140737488355328) :
    ∃ v' w' ys, (Builtin.append_ #[t, ti] ty #[v, .int .i64 m]).run P w = .ok v' w' ∧ w'.ownsRow 0 e size v' (n + m) ys ∧ Keeps (fun g => v.ownBlock = some g) w w' ∧
      (v'.ownBlock = v.ownBlock ∨ v'.ownBlock = some w.heap.size) := by
  rcases hown.2 with ⟨rfl, rfl⟩ | ⟨g, cap, cur, rfl, hbg, hg, hnc, hcm, hcs, htake⟩
  · have hr := Go.Lib.run_append_nil_zeros (P := P) w t ti ty e i z .i64 .i64 ht hti hi hz m hm (by omega) (by simp only [maxLen] at h63; omega) (by
      subst hby; simp only [Nat.zero_add] at hbytes; omega)
    have hge := grownCap_ge w m 0 e
    have hle := grownCap_le_maxLen w m 0 e (by omega)
    refine ⟨_, _, (Builtin.zeroCells z.cells m).toList, hr, ⟨?_, .inr ⟨w.heap.size, _, _, ?_, Nat.zero_le _, heap_alloc_new w.drew _, ?_, hle, ?_, ?_⟩⟩, (Keeps.of_grown (row := none) (show w.grownBy (w.drew.alloc _) none from ⟨rfl, rfl, rfl, (World.grownBy_alloc w.drew _ none).size, (World.grownBy_alloc w.drew _ none).block⟩) (run_drawn _ _ _ _ hr)).mono fun _ _ h => by simp at h, .inr rfl⟩
    · rw [Array.length_toList, size_zeroCells, hzs, Nat.zero_add]
    · rw [Nat.zero_add]
    · rw [Nat.zero_add]; exact hge
    · simp only [Array.size_append, size_zeroCells, hzs, ← Nat.add_mul]
      congr 1
      omega
    · have hl : (Builtin.zeroCells z.cells m).toList.length = (0 + m) * size := by rw [Array.length_toList, size_zeroCells, hzs, Nat.zero_add]
      rw [Array.toList_append, ← hl]
      exact List.take_left
  · by_cases hroom : n + m ≤ cap
    · subst hsize
      subst hby
      have hl : (Builtin.zeroCells z.cells m).toList.length = m * i.size := by rw [Array.length_toList, size_zeroCells, hzs]
      have hone : ∀ u ∈ (Builtin.zeroCells z.cells m).toList, u.oneCell' = true := by
        intro u hu
        simp only [Builtin.zeroCells, Array.toList_map, List.mem_map, Array.mem_toList_iff, Array.mem_range] at hu
        obtain ⟨j, _, rfl⟩ := hu
        have hj : j % z.cells.size < z.cells.size := Nat.mod_lt _ (by omega)
        rw [getElem!_pos z.cells _ hj]
        exact h1 _ (Array.getElem_mem hj)
      have hfit : n * i.size + (Builtin.zeroCells z.cells m).toList.length ≤ cur.size := by rw [hl, hcs, ← Nat.add_mul]; exact Nat.mul_le_mul_right _ hroom
      have hst := run_storeCells_at P g (n * i.size) e (Builtin.zeroCells z.cells m).toList 0 cur w hg (by simpa using hfit) hone
      simp only [Nat.add_zero] at hst
      have hmb : m * i.bytes ≤ 140737488355328 := Nat.le_trans (Nat.mul_le_mul_right _ (by omega)) hbytes
      have hmb' : ¬ ((281474976710656 : Int) < (m : Int) * (i.bytes : Int)) := by
        have : ((m * i.bytes : Nat) : Int) ≤ 140737488355328 := by omega
        rw [Int.natCast_mul] at this
        omega
      have hw : IntKind.i64.wrap (m : Int) = m := by
        have : (m : Int) ≤ 9223372036854775807 := by simp only [maxLen] at h63; omega
        rw [IntKind.wrap_i64]; omega
      have hneg : ¬ ((m : Int) < 0) := by omega
      have hmax : max (m : Int) 0 = m := by omega
      have hms : ¬ (m * i.size = 0) := by
        have := Nat.mul_pos hm hsz; omega
      have hr : (Builtin.append_ #[t, ti] ty #[.slice (some ⟨g, 0, none⟩) n cap, .int .i64 m]).run P w = .ok (.slice (some ⟨g, 0, none⟩) (n + m) cap) (w.setRow g (cur.toList.take (n * i.size) ++ (Builtin.zeroCells z.cells m).toList ++ cur.toList.drop (n * i.size + (Builtin.zeroCells z.cells m).toList.length)).toArray) := by
        simp only [Array.length_toList] at hst
        simp [Builtin.append_, run_underlying ht, run_underlying hti, sizeOf, typeInfo, zeroValue, hi, hz, asInt, asIntOf, hw, hmb', hroom, hms, hneg, hmax, Addr.add_lit, hst]
      have hkeep : Keeps (fun k => (Value.slice (some ⟨g, 0, none⟩) n cap).ownBlock = some k) w (w.setRow g (cur.toList.take (n * i.size) ++ (Builtin.zeroCells z.cells m).toList ++ cur.toList.drop (n * i.size + (Builtin.zeroCells z.cells m).toList.length)).toArray) :=
        ⟨rfl, rfl, rfl, by simp, fun k _ hk => setRow_other w g k _ (fun e => hk (by simp [Value.ownBlock, e])), run_drawn _ _ _ _ hr⟩
      have hlen : (xs ++ (Builtin.zeroCells z.cells m).toList).length = (n + m) * i.size := by rw [List.length_append, hown.1, hl, Nat.add_mul]
      refine ⟨_, _, xs ++ (Builtin.zeroCells z.cells m).toList, hr, ⟨hlen, .inr ⟨g, cap, _, rfl, hbg, setRow_heap w g cur _ e _ hg, hroom, hcm, ?_, ?_⟩⟩, hkeep, .inl rfl⟩
      · simp only [List.size_toArray, List.length_append, List.length_take, List.length_drop, Array.length_toList] at hfit ⊢
        omega
      · rw [htake, ← hlen]
        exact List.take_left
    · obtain ⟨cap', w', zs, hr, _, h3, h4⟩ := run_append_zeros (P := P) w 0 t ti ty e i z size bytes ht hti hi hz hsize hby hzs hsz g n cap xs hown m (by omega) h63 hbytes (Nat.zero_le _)
      exact ⟨_, _, _, hr, h3, Keeps.of_ext h4, .inr rfl⟩
variable {o : Oper} {ρ : Slots} {Γ : List Chunk} {x y : Operand}
theorem Ge.appendZ {t tn e : TypeId} {size bytes : Nat} {zs xs : List Value} {A : Option Addr} {n cap m i : Nat} (ho : o.op = .call { callee := .builtin .append, args := #[x, y], argTypes := #[t, tn] }) (ht : SliceTy P t e size bytes zs) (htn : P.underlying tn = some (.int .i64))
    (hx : ev ρ x = some (.slice A n cap)) (hy : ev ρ y = some (.int .i64 (m : Int))) (hi : Γ[i]? = some (row e size A n cap xs)) (hm : 0 < m) (h63 : n + m ≤ maxLen) (hby : (n + m) * bytes ≤ 140737488355328) :
    Ge P o ρ Γ (fun v Γ' => ∃ A' cap' ys, v = .slice A' (n + m) cap' ∧ Γ' = Γ.set i (row e size A' (n + m) cap' ys)) := fun a w ha hs => by
  obtain ⟨it, zv, h2, h3, h4, h5, h6⟩ := ht.inf
  have hrow : w.ownsRow 0 e size (.slice A n cap) n xs := hs.each _ (List.mem_of_getElem? hi)
  obtain ⟨v', w', ys, hrun, h7, h8, h9⟩ := run_append_z (P := P) w t tn o.type e it zv size bytes ht.und htn h2 h3 h4 h5 (by rw [h6]; simpa using ht.len) (by rw [h6]; intro u hu; exact ht.one u (by simpa using hu)) ht.pos _ n xs hrow m hm h63 hby
  obtain ⟨A', cap', rfl, _⟩ := own_form h7
  have hb : ∀ g, g ∈ blks A' → g ∈ blks A ∨ g = w.heap.size := fun g hg => by
    obtain ⟨ad, rfl, rfl⟩ := mem_blks.1 hg
    rcases h9 with h9 | h9
    · refine .inl (mem_blks.2 ?_)
      cases A with
      | none => simp [Value.ownBlock] at h9
      | some a' => simp [Value.ownBlock] at h9; exact ⟨a', rfl, h9.symm⟩
    · simp [Value.ownBlock] at h9; exact .inr h9
  refine ⟨_, _, w', ?_, ⟨A', cap', ys, rfl, rfl⟩, Post.set hi hs ⟨⟨fun c hc => by rw [List.mem_singleton.1 hc]; exact h7, ?_, by simp [reads, row]⟩, ?_, ?_, by simp [reads, row]⟩⟩
  · unfold execOp
    simp only [ho, resolve, invoke, builtin, Sem.run_bind, Sem.run_pure, Result.andThen_ok, List.map_toArray, List.map_cons, List.map_nil, ha.eval hx, ha.eval hy, hrun]
  · cases A' <;> simp [owns, row, blks]
  · refine h8.mono fun g _ hg => ?_
    cases A with
    | none => simp [Value.ownBlock] at hg
    | some a' => simp [Value.ownBlock] at hg; simp [owns, row, blks, hg]
  · intro g hg hl
    have hg' : g ∈ blks A' := by simpa [owns, row] using hg
    rcases hb g hg' with h | h
    · simpa [owns, row] using h
    · omega
end
end Go.Sep
