/- Arrays of whole numbers compared; append within what is there. Own text. -/
import Derived.Test.YtoehnbacbobhiaaDoorSepz
import Derived.Test.YtoehnbacbobhiaaDoorSepy
import Derived.ChangeKeysEq
import Derived.ArgAppend
namespace Go.Sep
open Go.RowKit Go.Flow Go.Mem
section
variable {P : Program} {o : Oper} {ρ : Slots} {Γ : List Chunk} {x y : Operand}
structure Arr2 (P : Program) (K : TypeId) : Prop where
  und : ∃ e i, P.underlying K = some (.array 2 e) ∧ P.underlying e = some (.int .i64) ∧ P.info? e = some i ∧ P.cellsOf e = 1
  guard : P.eqGuardType P.depth K = false
theorem Arr2.eq {K : TypeId} (T : Arr2 P K) (d : Nat) (a b c e : Int) (w : World) :
    (Op.equalIn (d + 2) K (.agg #[.int .i64 a, .int .i64 b]) (.agg #[.int .i64 c, .int .i64 e])).run P w = .ok (decide ((a, b) = (c, e))) w := by
  obtain ⟨et, i, h1, h2, h3, h4⟩ := T.und
  rw [run_equalIn_array w (d + 1) _ _ h1 h3, h4]
  have p0 : ∀ u v : Int, (part et #[.int .i64 u, .int .i64 v] 0).run P w = .ok (.int .i64 u) w := fun u v => by simp [part, isAgg, run_underlying h2]
  have p1 : ∀ u v : Int, (part et #[.int .i64 u, .int .i64 v] 1).run P w = .ok (.int .i64 v) w := fun u v => by simp [part, isAgg, run_underlying h2]
  have hr : List.range 2 = [0, 1] := rfl
  rw [hr]
  simp only [Op.eqItems, Sem.run_bind, Nat.zero_mul, Nat.one_mul, p0, p1, Result.andThen_ok, run_equalIn_int _ d et .i64 .i64 _ _ h2, Sem.run_ite]
  by_cases e1 : a = c <;> by_cases e2 : b = e <;> simp [e1, e2]
theorem Rd.neqA2 {K t' : TypeId} {p q : Int × Int} (T : Arr2 P K) (ho : o.op = .binOp .neq K x y t') (hx : ev ρ x = some (.agg #[.int .i64 p.1, .int .i64 p.2])) (hy : ev ρ y = some (.agg #[.int .i64 q.1, .int .i64 q.2])) : Rd P o ρ Γ (.bool (decide (p ≠ q))) := Rd.bin ho hx hy fun w => by
  have g : (eqGuard .neq K x y (.agg #[.int .i64 p.1, .int .i64 p.2]) (.agg #[.int .i64 q.1, .int .i64 q.2])).run P w = .ok () w := run_eqGuard_agg w .neq K x y _ _ T.guard
  have h : (binOp .neq K (.agg #[.int .i64 p.1, .int .i64 p.2]) (.agg #[.int .i64 q.1, .int .i64 q.2])).run P w = .ok (.bool (decide (p ≠ q))) w := by
    rw [run_neq_struct, T.eq 9998 p.1 p.2 q.1 q.2 w]
    show Result.ok (Value.bool (!decide ((p.1, p.2) = (q.1, q.2)))) w = _
    rw [← decide_not]
  simp [g, h]
end
theorem rows_capD {Γ : List Chunk} {w : World} {α : Type} {enc : α → List Value} {size : Nat} {e : TypeId} {A : Option Addr} {cap : Nat} {l : List α} (i : Nat) (h : Γ[i]? = some (rows enc e size A cap l)) (hs : sat Γ w) : l.length ≤ cap := by
  obtain ⟨A', cap', h1, _, h2, _⟩ := own_form (show w.ownsRow 0 e size (.slice A l.length cap) l.length _ from hs.each _ (List.mem_of_getElem? h))
  simp only [Value.slice.injEq] at h1
  omega
/-- append onto the beginning of a row of one's own, within what is there. -/
theorem Ge.appendIn {P : Program} {o : Oper} {ρ : Slots} {Γ : List Chunk} {x y : Operand} {α : Type} {enc : α → List Value} {size : Nat} (E : Enc enc size) (hpos : 0 < size) {t e : TypeId} {bytes : Nat} {zs us : List Value} {A B : Option Addr} {cap cb i j k : Nat} {D : List α} {el : α}
    (ho : o.op = .call { callee := .builtin .append, args := #[x, y], argTypes := #[t, t] }) (ht : SliceTy P t e size bytes zs) (hx : ev ρ x = some (.slice A k cap)) (hy : ev ρ y = some (.slice B 1 cb)) (hi : Γ[i]? = some (rows enc e size A cap D)) (hj : Γ[j]? = some (row e size B 1 cb us)) (hu : enc el = us) (hk : k < D.length) :
    Ge P o ρ Γ (fun v Γ' => v = .slice A (k + 1) cap ∧ Γ' = Γ.set i (rows enc e size A cap (D.set k el))) := fun a w ha hs => by
  obtain ⟨it, zv, h2, h3, h4, h5, h6⟩ := ht.inf
  have hA := rows_some E hpos (l := D) (by omega) i hi hs
  have hcap := rows_capD i hi hs
  obtain ⟨h7, h8⟩ := Post.takes (rows_takes E hpos (e := e) (A := A) (cap := cap) (y := el) hk) ((hs.perm (perm_eraseIdx hi)).left (Γ := [rows enc e size A cap D]))
  have hl : us.length = 1 * it.size := by rw [← hu, E.len, h4, Nat.one_mul]
  have hne : us ≠ [] := fun h => by rw [h] at hl; simp at hl; omega
  have hsrc := src_row hj w hs
  rcases hsrc with h9 | ⟨g, off, rfl, hr⟩
  · exact absurd h9 hne
  refine ⟨_, _, _, ?_, ⟨rfl, rfl⟩, Post.set hi hs h8⟩
  rw [hu] at h7 ⊢
  have hrun := run_append_room_cells (P := P) w t o.type e it ht.und h2 (blk A) (ofs A) k cap ⟨g, off, none⟩ 1 cb us hl (fun q u hq => by rw [Addr.add_mid]; exact hr q u hq) (fun u hm => E.one el u (hu ▸ hm)) (by omega) (fun q hq => by rw [h4]; exact (h7 q hq).1) (fun q hq => by rw [h4]; exact (h7 q hq).2)
  rw [h4] at hrun
  rw [hA] at hx
  unfold execOp
  simp only [ho, resolve, invoke, builtin, Sem.run_bind, Sem.run_pure, Result.andThen_ok, List.map_toArray, List.map_cons, List.map_nil, ha.eval hx, ha.eval hy, hrun]
  rw [← hA]
end Go.Sep
