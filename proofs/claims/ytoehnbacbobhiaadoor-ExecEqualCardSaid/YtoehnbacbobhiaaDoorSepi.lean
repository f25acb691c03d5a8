/- What the single operations do to slots and chunks. Own text. -/
import Derived.Test.YtoehnbacbobhiaaDoorSepo
import Derived.WalkKit
import Derived.WalkLawsBesides
import Derived.WalkSpells
import Derived.Laws.MakeOwn
namespace Go.Sep
open Go.RowKit Go.Flow Go.Mem

/-! ### what the table of types says -/
def RowTy (P : Program) (ty : TypeId) (n : Nat) : Prop := ∃ d, P.underlying ty = some d ∧ d.isRow = true ∧ (P.info? ty).map (·.size) = some n
def CellTy (P : Program) (ty : TypeId) : Prop := ∃ d, P.underlying ty = some d ∧ d.isRow = false ∧ (P.info? ty).map (·.size) = some 1
def ZeroTy (P : Program) (ty : TypeId) (zs : List Value) : Prop := (P.info? ty).bind (fun i => i.zero.map (·.cells.toList)) = some zs
def FieldTy (P : Program) (s : TypeId) (f k : Nat) : Prop := ∃ fs fd i, P.underlying s = some (.struct fs) ∧ fs[f]? = some fd ∧ fd.offset = k ∧ P.info? fd.type = some i ∧ 0 < i.size
structure SliceTy (P : Program) (t e : TypeId) (size bytes : Nat) (zs : List Value) : Prop where
  und : P.underlying t = some (.slice e)
  inf : ∃ i z, P.info? e = some i ∧ i.zero = some z ∧ i.size = size ∧ i.bytes = bytes ∧ z.cells = zs.toArray
  len : zs.length = size
  pos : 0 < size
  one : ∀ u ∈ zs, u.oneCell' = true
theorem RowTy.of {P : Program} {ty : TypeId} {n : Nat} {d : TypeDesc} (h : P.underlying ty = some d) (h1 : d.isRow = true) (h2 : (P.info? ty).map (·.size) = some n) : RowTy P ty n := ⟨d, h, h1, h2⟩
theorem CellTy.of {P : Program} {ty : TypeId} {d : TypeDesc} (h : P.underlying ty = some d) (h1 : d.isRow = false) (h2 : (P.info? ty).map (·.size) = some 1) : CellTy P ty := ⟨d, h, h1, h2⟩
theorem FieldTy.of {P : Program} {s : TypeId} {f k n : Nat} {fs : Array Field} {fd : Field} (h : P.underlying s = some (.struct fs)) (h1 : fs[f]? = some fd) (h2 : fd.offset = k) (h3 : (P.info? fd.type).map (·.size) = some (n + 1)) : FieldTy P s f k := by
  cases hi : P.info? fd.type with
  | none => rw [hi] at h3; cases h3
  | some i => rw [hi] at h3; simp at h3; exact ⟨fs, fd, i, h, h1, h2, hi, by omega⟩
theorem SliceTy.of {P : Program} {t e : TypeId} {size bytes : Nat} {z : Value} {zs : List Value} (h : P.underlying t = some (.slice e)) (h1 : (P.info? e).map (fun i => (i.zero, i.size, i.bytes)) = some (some z, size, bytes)) (h2 : z.cells = zs.toArray)
    (h3 : zs.length = size) (h4 : Nat.blt 0 size = true) (h5 : zs.all (·.oneCell') = true) : SliceTy P t e size bytes zs := by
  cases hi : P.info? e with
  | none => rw [hi] at h1; cases h1
  | some i =>
    rw [hi] at h1
    simp only [Option.map_some, Option.some.injEq, Prod.mk.injEq] at h1
    exact ⟨h, ⟨i, z, hi, h1.1, h1.2.1, h1.2.2, h2⟩, h3, Nat.le_of_ble_eq_true h4, List.all_eq_true.1 h5⟩

section rd
variable {P : Program} {o : Oper} {ρ : Slots} {Γ : List Chunk} {x y z : Operand} {u v : Value}
theorem Rd.move (ho : o.op = .move x) (hx : ev ρ x = some v) : Rd P o ρ Γ v := fun a w ha _ => by unfold execOp; simp [ho, ha.eval hx]
theorem Rd.assign (ho : o.op = .assign x) (hx : ev ρ x = some v) : Rd P o ρ Γ v := fun a w ha _ => by unfold execOp; simp [ho, ha.eval hx]
theorem Rd.pickT (ho : o.op = .pick x y z) (hx : ev ρ x = some (.bool true)) (hy : ev ρ y = some v) : Rd P o ρ Γ v := fun a w ha _ => by
  unfold execOp; simp [ho, ha.eval hx, ha.eval hy, asBool]
theorem Rd.pickF (ho : o.op = .pick x y z) (hx : ev ρ x = some (.bool false)) (hz : ev ρ z = some v) : Rd P o ρ Γ v := fun a w ha _ => by
  unfold execOp; simp [ho, ha.eval hx, ha.eval hz, asBool]
theorem Rd.field {s : TypeId} {f k b off : Nat} (ho : o.op = .fieldAddr s x f) (hx : ev ρ x = some (.pointer (some ⟨b, off, none⟩))) (hf : FieldTy P s f k) : Rd P o ρ Γ (.pointer (some ⟨b, off + k, none⟩)) := fun a w ha _ => by
  obtain ⟨fs, fd, i, h1, h2, h3, h4, h5⟩ := hf
  unfold execOp
  simp [ho, ha.eval hx, Instr.fieldAt, run_underlying h1, h2, Instr.sureAddr, fieldPlace, sizeOf, typeInfo, h4, Nat.ne_of_gt h5, h3, Addr.add_mid]
theorem Rd.not {t : TypeId} {b : Bool} (ho : o.op = .unOp .not t x) (hx : ev ρ x = some (.bool b)) : Rd P o ρ Γ (.bool (!b)) := fun a w ha _ => by
  unfold execOp; simp [ho, ha.eval hx, Op.unary]
theorem Rd.len {A : Option Addr} {n c : Nat} {t : TypeId} (ho : o.op = .call { callee := .builtin .len, args := #[x], argTypes := #[t] }) (hx : ev ρ x = some (.slice A n c)) {e : TypeId} (ht : P.underlying t = some (.slice e)) : Rd P o ρ Γ (.int .i64 n) := fun a w ha _ => by
  unfold execOp; simp [ho, resolve, invoke, builtin, ha.eval hx, Builtin.len_, run_underlying ht, goInt]
theorem Rd.bin {op : BinOp} {t t' : TypeId} {r : Value} (ho : o.op = .binOp op t x y t') (hx : ev ρ x = some u) (hy : ev ρ y = some v) (h : ∀ w, (do eqGuard op t x y u v; binOp op t u v : Sem Value).run P w = .ok r w) : Rd P o ρ Γ r := fun a w ha _ => by
  unfold execOp
  have := h w
  simp only [ho, ha.eval hx, ha.eval hy, Sem.run_bind] at this ⊢
  rw [this]; rfl
section ints
variable {k : IntKind} {m n : Int} {t t' : TypeId}
theorem Rd.lss (ho : o.op = .binOp .lss t x y t') (hx : ev ρ x = some (.int k m)) (hy : ev ρ y = some (.int k n)) : Rd P o ρ Γ (.bool (decide (m < n))) := Rd.bin ho hx hy fun w => by simp [eqGuard, binOp, Op.intCmp]
theorem Rd.leq (ho : o.op = .binOp .leq t x y t') (hx : ev ρ x = some (.int k m)) (hy : ev ρ y = some (.int k n)) : Rd P o ρ Γ (.bool (decide (m ≤ n))) := Rd.bin ho hx hy fun w => by simp [eqGuard, binOp, Op.intCmp]
theorem Rd.gtr (ho : o.op = .binOp .gtr t x y t') (hx : ev ρ x = some (.int k m)) (hy : ev ρ y = some (.int k n)) : Rd P o ρ Γ (.bool (decide (n < m))) := Rd.bin ho hx hy fun w => by simp [eqGuard, binOp, Op.intCmp]
theorem Rd.geq (ho : o.op = .binOp .geq t x y t') (hx : ev ρ x = some (.int k m)) (hy : ev ρ y = some (.int k n)) : Rd P o ρ Γ (.bool (decide (n ≤ m))) := Rd.bin ho hx hy fun w => by simp [eqGuard, binOp, Op.intCmp]
theorem Rd.eql (ho : o.op = .binOp .eql t x y t') (hx : ev ρ x = some (.int k m)) (hy : ev ρ y = some (.int k n)) : Rd P o ρ Γ (.bool (decide (m = n))) := Rd.bin ho hx hy fun w => by
  simp [eqGuard, binOp, Op.intCmp]; rfl
theorem Rd.neq (ho : o.op = .binOp .neq t x y t') (hx : ev ρ x = some (.int k m)) (hy : ev ρ y = some (.int k n)) : Rd P o ρ Γ (.bool (decide (m ≠ n))) := Rd.bin ho hx hy fun w => by
  simp [eqGuard, binOp, Op.intCmp]; rfl
theorem Rd.add (ho : o.op = .binOp .add t x y t') (hx : ev ρ x = some (.int k m)) (hy : ev ρ y = some (.int k n)) (h : k.wrap (m + n) = m + n) : Rd P o ρ Γ (.int k (m + n)) := Rd.bin ho hx hy fun w => by simp [eqGuard, binOp, Op.intArith, h]
theorem Rd.sub (ho : o.op = .binOp .sub t x y t') (hx : ev ρ x = some (.int k m)) (hy : ev ρ y = some (.int k n)) (h : k.wrap (m - n) = m - n) : Rd P o ρ Γ (.int k (m - n)) := Rd.bin ho hx hy fun w => by simp [eqGuard, binOp, Op.intArith, h]
theorem Rd.mul (ho : o.op = .binOp .mul t x y t') (hx : ev ρ x = some (.int k m)) (hy : ev ρ y = some (.int k n)) (h : k.wrap (m * n) = m * n) : Rd P o ρ Γ (.int k (m * n)) := Rd.bin ho hx hy fun w => by simp [eqGuard, binOp, Op.intArith, h]
theorem Rd.add64 (ho : o.op = .binOp .add t x y t') (hx : ev ρ x = some (.int .i64 m)) (hy : ev ρ y = some (.int .i64 n)) (h : -9223372036854775808 ≤ m + n ∧ m + n ≤ 9223372036854775807) : Rd P o ρ Γ (.int .i64 (m + n)) := Rd.add ho hx hy (IntWalk.i64_in _ (by omega))
theorem Rd.sub64 (ho : o.op = .binOp .sub t x y t') (hx : ev ρ x = some (.int .i64 m)) (hy : ev ρ y = some (.int .i64 n)) (h : -9223372036854775808 ≤ m - n ∧ m - n ≤ 9223372036854775807) : Rd P o ρ Γ (.int .i64 (m - n)) := Rd.sub ho hx hy (IntWalk.i64_in _ (by omega))
/-- A count goes up by one. -/
theorem Rd.inc {n : Nat} (ho : o.op = .binOp .add t x y t') (hx : ev ρ x = some (.int .i64 n)) (hy : ev ρ y = some (.int .i64 1)) (h : n < 9223372036854775807) : Rd P o ρ Γ (.int .i64 ((n + 1 : Nat) : Int)) := by
  have := Rd.add64 (P := P) (Γ := Γ) ho hx hy (by omega)
  rwa [show ((n : Int) + 1) = ((n + 1 : Nat) : Int) by omega] at this
end ints
theorem Rd.conv {s d : TypeId} {k k' : IntKind} {m : Int} {ds : TypeDesc} (ho : o.op = .convert s d x) (hx : ev ρ x = some (.int k m)) (hs : P.underlying s = some ds) (hd : P.underlying d = some (.int k')) (h : k'.wrap m = m) : Rd P o ρ Γ (.int k' m) := fun a w ha _ => by
  unfold execOp
  simp [ho, ha.eval hx, convert, run_underlying hs, run_underlying hd, Conv.intToInt, h]
theorem Rd.build {t : TypeId} {parts : List (Nat × Operand)} {vs : List (Nat × Value)} {cells : List Value} (ho : o.op = .build t parts.toArray) (hv : evs ρ (parts.map (·.2)) = some (vs.map (·.2))) (hi : parts.map (·.1) = vs.map (·.1)) (h : P.built t vs = some cells.toArray) : Rd P o ρ Γ (.agg cells.toArray) := fun a w ha _ => by
  have e1 : (parts.map fun p => (p.1, a.eval p.2)) = vs := by
    have h1 := ha.evals hv
    clear hv h ho
    induction parts generalizing vs with
    | nil => cases vs <;> simp_all
    | cons p r ih =>
      cases vs with
      | nil => simp at hi
      | cons q s =>
        simp only [List.map_cons, List.cons.injEq] at hi h1 ⊢
        exact ⟨by rw [hi.1, h1.1], ih (vs := s) hi.2 h1.2⟩
  unfold execOp
  simp only [ho, List.map_toArray, e1, Sem.run_bind, run_build w t vs.toArray cells.toArray h, Result.andThen_ok, Sem.run_pure]
theorem Rd.load {ty : TypeId} {b off i : Nat} {c : Chunk} (ho : o.op = .load ty x) (hx : ev ρ x = some (.pointer (some ⟨b, off, none⟩))) (ht : CellTy P ty) (hi : Γ[i]? = some c) (hc : c.gives b off [v]) : Rd P o ρ Γ v := fun a w ha hs => by
  obtain ⟨d, h1, h2, _⟩ := ht
  have hv : w.cell? ⟨b, off, none⟩ = some v := hc w (hs c (List.mem_of_getElem? hi)) 0 v rfl
  have hagg : (isAgg ty).run P w = .ok false w := by
    unfold isAgg
    rw [Sem.run_bind, run_underlying h1 w]
    cases d <;> simp_all
  unfold execOp
  simp [ho, ha.eval hx, Instr.loadAt, Instr.sureAddr, loadVar, hagg, hv]
theorem Rd.loadS {ty : TypeId} {b off n i : Nat} {c : Chunk} {us : List Value} (ho : o.op = .load ty x) (hx : ev ρ x = some (.pointer (some ⟨b, off, none⟩))) (ht : RowTy P ty n) (hi : Γ[i]? = some c) (hc : c.gives b off us) (hl : us.length = n) : Rd P o ρ Γ (.agg us.toArray) := fun a w ha hs => by
  obtain ⟨d, h1, h2, h3⟩ := ht
  unfold execOp
  simp only [ho, ha.eval hx, Sem.run_bind, run_loadAt_mid w b off ty us d (hc w (hs c (List.mem_of_getElem? hi))) h1 h2 (by rw [hl]; exact h3), Result.andThen_ok, Sem.run_pure]
/-- The address of an element: of a row of one's own, or of what is read. -/
theorem Rd.indexRow {t e ie : TypeId} {size size' bytes : Nat} {zs : List Value} {A : Option Addr} {n cap j i : Nat} {xs : List Value} {k : IntKind} (ho : o.op = .indexAddr t x y) (hx : ev ρ x = some (.slice A n cap)) (hy : ev ρ y = some (.int k j)) (ht : SliceTy P t e size bytes zs)
    (hi : Γ[i]? = some (row ie size' A n cap xs)) (hj : j < n) : Rd P o ρ Γ (.pointer (some ⟨blk A, ofs A + j * size, none⟩)) := fun a w ha hs => by
  have h1 := own_some (hs _ (List.mem_of_getElem? hi)) (by omega)
  obtain ⟨it, z, h2, h3, h4, _⟩ := ht.inf
  unfold execOp
  rw [h1] at hx
  have : ofs A = 0 := by rw [h1]; rfl
  rw [this]
  simp [ho, ha.eval hx, ha.eval hy, Instr.indexAt, asIntOf, run_underlying ht.und, hj, sizeOf, typeInfo, h2, h4, Addr.add_mid]
theorem src_some {w : World} {A : Option Addr} {xs : List Value} (h : Src w A xs) (hn : xs ≠ []) : A = some ⟨blk A, ofs A, none⟩ := by
  rcases h with h | ⟨g, off, rfl, _⟩
  · exact (hn h).elim
  · rfl
theorem Rd.indexRo {t e : TypeId} {size bytes : Nat} {zs : List Value} {A : Option Addr} {n cap j i : Nat} {xs : List Value} {k : IntKind} (ho : o.op = .indexAddr t x y) (hx : ev ρ x = some (.slice A n cap)) (hy : ev ρ y = some (.int k j)) (ht : SliceTy P t e size bytes zs)
    (hi : Γ[i]? = some (ro A xs)) (hj : j < n) (hn : n * size = xs.length) : Rd P o ρ Γ (.pointer (some ⟨blk A, ofs A + j * size, none⟩)) := fun a w ha hs => by
  have h0 : xs ≠ [] := fun h => by
    rw [h, List.length_nil] at hn
    have := Nat.mul_pos (Nat.lt_of_le_of_lt (Nat.zero_le j) hj) ht.pos
    omega
  have h1 := src_some (hs _ (List.mem_of_getElem? hi)) h0
  obtain ⟨it, z, h2, h3, h4, _⟩ := ht.inf
  unfold execOp
  rw [h1] at hx
  simp [ho, ha.eval hx, ha.eval hy, Instr.indexAt, asIntOf, run_underlying ht.und, hj, sizeOf, typeInfo, h2, h4, Addr.add_mid]
end rd
section up
variable {P : Program} {o : Oper} {ρ : Slots} {Γ : List Chunk} {x y z : Operand} {u v : Value}
theorem there_of {w : World} {g : Nat} {cs : Array Value} {t : TypeId} (h : w.heap[g]? = some (.cells cs t (0, 0))) {off n : Nat} (hn : off + n ≤ cs.size) : w.there g off n := fun j hj => by
  constructor
  · simp [World.cell?, h, Array.getElem?_eq_getElem (show off + j < cs.size by omega)]
  · simp [World.frozen?, h]
theorem box_setCell {w : World} {b : Nat} {cs : Array Value} {t : TypeId} {fz : Nat × Nat} (h : w.heap[b]? = some (.cells cs t fz)) (o : Nat) (u : Value) : (w.setCell ⟨b, o, none⟩ u).heap[b]? = some (.cells (cs.setIfInBounds o u) t fz) := by
  have hlt := lt_of_block h
  have h' : w.heap[b] = .cells cs t fz := by simpa [Array.getElem?_eq_getElem hlt] using h
  show (w.heap.modify b _)[b]? = _
  rw [Array.getElem?_eq_getElem (by simpa using hlt), Array.getElem_modify_self, h']
  rfl
theorem box_setCells {t : TypeId} {b : Nat} : ∀ (us : List Value) (off : Nat) (w : World) (cs : List Value), w.heap[b]? = some (.cells cs.toArray t (0, 0)) → off + us.length ≤ cs.length →
    (w.setCells b off us).heap[b]? = some (.cells (over cs off us).toArray t (0, 0))
  | [], off, w, cs, h, _ => by simpa [World.setCells, over] using h
  | u :: r, off, w, cs, h, hf => by
    simp only [List.length_cons] at hf
    have h1 : (w.setCell ⟨b, off, none⟩ u).heap[b]? = some (.cells (cs.set off u).toArray t (0, 0)) := by
      have := box_setCell h off u
      rwa [List.setIfInBounds_toArray] at this
    have := box_setCells r (off + 1) (w.setCell ⟨b, off, none⟩ u) (cs.set off u) h1 (by rw [List.length_set]; omega)
    rw [over_cons cs off u r (by omega)] at this
    exact this
theorem box_takes {b off : Nat} {cs us ds : List Value} {t : TypeId} (hl : Nat.ble (off + us.length) cs.length = true) (hd : over cs off us = ds) : (box b cs t).takes b off us (box b ds t) := fun w hw =>
  ⟨there_of hw (by simpa using Nat.le_of_ble_eq_true hl), by rw [← hd]; exact box_setCells us off w cs hw (Nat.le_of_ble_eq_true hl), by simp [box], rfl, rfl⟩
theorem row_takes {e : TypeId} {size : Nat} {A : Option Addr} {n cap off : Nat} {xs us ds : List Value} (hl : off + us.length ≤ n * size) (hu : us ≠ []) (hd : over xs off us = ds) : (row e size A n cap xs).takes (blk A) (ofs A + off) us (row e size A n cap ds) := fun w hw => by
  have hn : 0 < n := by
    rcases Nat.eq_zero_or_pos n with h | h
    · have : 0 < us.length := List.length_pos_iff.2 hu
      rw [h, Nat.zero_mul] at hl; omega
    · exact h
  have h1 := own_some hw hn
  have hw' : w.ownsRow 0 e size (.slice (some ⟨blk A, 0, none⟩) n cap) n xs := by rw [← h1]; exact hw
  have h0 : ofs A = 0 := by rw [h1]; rfl
  rw [h0, Nat.zero_add]
  refine ⟨own_there hw' off us.length hl, ?_, ?_, rfl, rfl⟩
  · show (w.setCells (blk A) off us).ownsRow 0 e size (.slice A n cap) n ds
    rw [h1, ← hd]; exact own_setCells us off w xs hw' hl
  · show blk A ∈ blks A
    exact mem_blks.2 ⟨_, h1, rfl⟩
theorem Post.takes {c c' : Chunk} {b off : Nat} {us : List Value} {w : World} (h : c.takes b off us c') (hw : Sep.sat [c] w) : w.there b off us.length ∧ Post [c] [c'] w (w.setCells b off us) := by
  obtain ⟨h1, h2, h3, h4, h5⟩ := h w (hw.each c (by simp))
  have e1 : owns [c'] = owns [c] := by simp [owns, h4]
  have e2 : reads [c'] = reads [c] := by simp [reads, h5]
  refine ⟨h1, ⟨by simpa using h2, by rw [e1]; exact hw.nodup, by rw [e1, e2]; exact hw.apart⟩, ?_, ?_, ?_⟩
  · exact (keeps_setCells b us off w).mono fun i _ hi => by rw [hi]; simpa [owns] using h3
  · intro g hg _; rw [e1] at hg; exact hg
  · intro g hg _; rw [e2] at hg; exact .inr hg
theorem set_perm {Γ : List Chunk} {i : Nat} {c : Chunk} (c' : Chunk) (hi : Γ[i]? = some c) : (c' :: Γ.eraseIdx i).Perm (Γ.set i c') := by
  have hlt : i < Γ.length := (List.getElem?_eq_some_iff.1 hi).1
  have h1 : (Γ.set i c')[i]? = some c' := by simp [hlt]
  have h2 := perm_eraseIdx h1
  rw [List.eraseIdx_set_eq] at h2
  exact h2.symm
/-- One chunk turns. -/
theorem Post.set {i : Nat} {c c' : Chunk} {w w' : World} (hi : Γ[i]? = some c) (hs : Sep.sat Γ w) (h : Post [c] [c'] w w') : Post Γ (Γ.set i c') w w' := by
  have p := perm_eraseIdx hi
  exact (Post.pre p (h.frame (Δ := Γ.eraseIdx i) (hs.perm p))).perm (set_perm c' hi)
theorem Up.store {ty : TypeId} {b off i : Nat} {c c' : Chunk} (ho : o.op = .store ty x y) (hx : ev ρ x = some (.pointer (some ⟨b, off, none⟩))) (hy : ev ρ y = some v) (ht : CellTy P ty) (hv : v.oneCell' = true) (hi : Γ[i]? = some c) (hc : c.takes b off [v] c') : Up P o ρ Γ (Γ.set i c') := fun a w ha hs => by
  obtain ⟨h1, h2⟩ := Post.takes hc ((hs.perm (perm_eraseIdx hi)).left (Γ := [c]))
  obtain ⟨d, _, _, h3⟩ := ht
  refine ⟨_, ?_, Post.set hi hs h2⟩
  have hcs : v.cells = #[v] := by cases v <;> simp_all [Value.cells, Value.oneCell']
  obtain ⟨it, h4, h5⟩ := Option.map_eq_some_iff.1 h3
  have h6 := h1 0 (by simp)
  simp only [Nat.add_zero] at h6
  cases hcell : w.cell? ⟨b, off, none⟩ with
  | none => rw [hcell] at h6; simp at h6
  | some u =>
    unfold execOp
    simp [ho, ha.eval hx, ha.eval hy, Instr.storeAt, Instr.sureAddr, storeVar, sizeOf, typeInfo, h4, h5, hcs, storeCells, Addr.add, run_store P w ⟨b, off, none⟩ v .plain hv, hcell, h6.2, World.setCells]
theorem Up.storeS {ty : TypeId} {b off i n : Nat} {c c' : Chunk} {us : List Value} (ho : o.op = .store ty x y) (hx : ev ρ x = some (.pointer (some ⟨b, off, none⟩))) (hy : ev ρ y = some (.agg us.toArray)) (ht : RowTy P ty n) (hl : us.length = n) (hv : us.all (·.oneCell') = true) (hi : Γ[i]? = some c) (hc : c.takes b off us c') : Up P o ρ Γ (Γ.set i c') := fun a w ha hs => by
  obtain ⟨h1, h2⟩ := Post.takes hc ((hs.perm (perm_eraseIdx hi)).left (Γ := [c]))
  obtain ⟨d, _, _, h3⟩ := ht
  refine ⟨_, ?_, Post.set hi hs h2⟩
  unfold execOp
  simp only [ho, ha.eval hx, ha.eval hy, Sem.run_bind, run_storeAt_mid w b off ty us.toArray (by simpa using h1) (by rw [h3, ← hl]; simp) (by simpa using hv), Result.andThen_ok, Sem.run_pure]
/-- A new block. -/
theorem Post.new {c : Chunk} {w : World} {ob : Obj} (hc : c.holds (w.alloc ob)) (ho : c.owns = [w.heap.size]) (hr : c.reads = []) : Post [] [c] w (w.alloc ob) :=
  ⟨⟨by simpa using hc, by simp [owns, ho], by simp [reads, hr]⟩, Keeps.of_ext (Ext.new w ob), fun g hg hl => by simp [owns, ho] at hg; omega, fun g hg => by simp [reads, hr] at hg⟩
theorem Mk.alloc {ty : TypeId} {zs : List Value} (ho : o.op = .alloc ty) (hz : ZeroTy P ty zs) : Mk P o ρ Γ (fun v N => ∃ b, v = .pointer (some ⟨b, 0, none⟩) ∧ N = [box b zs ty]) := fun a w _ _ => by
  obtain ⟨it, h1, h2⟩ := Option.bind_eq_some_iff.1 hz
  obtain ⟨zv, h3, h4⟩ := Option.map_eq_some_iff.1 h2
  refine ⟨_, _, w.alloc (.cells zs.toArray ty), ?_, ⟨w.heap.size, rfl, rfl⟩, Post.new (heap_alloc_new _ _) rfl rfl⟩
  have h5 : zv.cells = zs.toArray := by rw [← h4]
  unfold execOp
  simp [ho, Instr.alloc, zeroValue, typeInfo, h1, h3, newVar, newRow, h5]
theorem Mk.box {ty : TypeId} {us : List Value} (ho : o.op = .box ty x) (hx : ev ρ x = some u) (hu : u.cells = us.toArray) : Mk P o ρ Γ (fun v N => ∃ b, v = .pointer (some ⟨b, 0, none⟩) ∧ N = [Sep.box b us ty]) := fun a w ha _ => by
  refine ⟨_, _, w.alloc (.cells us.toArray ty), ?_, ⟨w.heap.size, rfl, rfl⟩, Post.new (heap_alloc_new _ _) rfl rfl⟩
  unfold execOp
  simp [ho, ha.eval hx, Instr.box, newVar, newRow, hu]
theorem row_new {e : TypeId} {size n : Nat} {w : World} {us : List Value} (hl : us.length = n * size) (hn : n ≤ maxLen) : (row e size (some ⟨w.heap.size, 0, none⟩) n n us).holds (w.alloc (.cells us.toArray e)) := by
  have := World.ownsRow_lit (base := 0) (e := e) (size := size) w us.toArray n (Nat.zero_le _) hn (by simpa using hl)
  show (w.alloc (.cells us.toArray e)).ownsRow 0 e size _ n us
  simpa using this
theorem Mk.slice0 {t e : TypeId} {size bytes : Nat} {zs : List Value} (ho : o.op = .buildSlice t 0 #[]) (ht : SliceTy P t e size bytes zs) : Mk P o ρ Γ (fun v N => ∃ A, v = .slice A 0 0 ∧ N = [row e size A 0 0 []]) := fun a w _ _ => by
  refine ⟨_, _, w.alloc (.cells #[] e), ?_, ⟨some ⟨w.heap.size, 0, none⟩, rfl, rfl⟩, Post.new (row_new (us := []) (by simp) (by simp [maxLen])) rfl rfl⟩
  obtain ⟨i, z, h1, h2, h3, _⟩ := ht.inf
  unfold execOp
  simp [ho, Instr.buildSlice, run_underlying ht.und, sizeOf, typeInfo, h1, Instr.fill, newRow]
  rw [show Array.map (fun (_ : Nat) => (default : Value)) (Array.range 0) = #[] from Array.eq_empty_of_size_eq_zero (by simp)]
theorem Mk.sliceN {t e : TypeId} {size bytes len : Nat} {zs : List Value} {parts : List (Nat × Operand)} {vs us : List Value} (ho : o.op = .buildSlice t len parts.toArray) (ht : SliceTy P t e size bytes zs) (hv : evs ρ (parts.map (·.2)) = some vs) (hi : parts.map (·.1) = List.range' 0 len)
    (hlen : Nat.blt 0 len = true) (hsm : Nat.ble (len * size) 16777216 = true) (hsz : vs.all (fun v => Nat.beq v.cells.size size) = true) (hu : (vs.flatMap fun v => v.cells.toList) = us) : Mk P o ρ Γ (fun v N => ∃ b, v = .slice (some ⟨b, 0, none⟩) len len ∧ N = [row e size (some ⟨b, 0, none⟩) len len us]) := fun a w ha _ => by
  replace hlen := Nat.le_of_ble_eq_true hlen
  replace hsm := Nat.le_of_ble_eq_true hsm
  obtain ⟨it, z, h1, h2, h3, h4, h5⟩ := ht.inf
  have hev := ha.evals hv
  have hl : vs.length = len := by
    have := congrArg List.length hev
    have h2 := congrArg List.length hi
    simp at this h2; omega
  have hall : ∀ v ∈ vs, v.cells.size = size := fun v hv => Nat.eq_of_beq_eq_true (List.all_eq_true.1 hsz v hv)
  have hlu : us.length = len * size := by
    rw [← hu]
    clear hu hsz hev hv
    subst hl
    clear hi ho hlen hsm
    induction vs with
    | nil => simp
    | cons v r ih =>
      have := ih (fun v hv => hall v (by simp [hv]))
      have h6 := hall v (by simp)
      simp only [List.flatMap_cons, List.length_append, List.length_cons, Array.length_toList]
      rw [this, h6, Nat.add_mul]; omega
  have hle : len ≤ len * size := Nat.le_mul_of_pos_right _ ht.pos
  refine ⟨_, _, w.alloc (.cells us.toArray e), ?_, ⟨w.heap.size, rfl, rfl⟩, Post.new (row_new hlu (by simp only [maxLen]; omega)) rfl rfl⟩
  have e1 : (parts.map fun p => (p.1, a.eval p.2)) = (vs.zipIdx 0).map fun x => (x.2, x.1) := by
    clear hv hu hsz hall hlu hle ho
    rw [← hl] at hi
    clear hl hlen hsm
    generalize 0 = k at hi ⊢
    induction parts generalizing vs k with
    | nil => cases vs <;> simp_all
    | cons p r ih =>
      cases vs with
      | nil => simp at hev
      | cons q s =>
        simp only [List.map_cons, List.cons.injEq, List.length_cons, List.range'_succ] at hi hev
        simp only [List.map_cons, List.zipIdx_cons, List.cons.injEq]
        exact ⟨by rw [hi.1, hev.1], ih (vs := s) hev.2 _ hi.2⟩
  unfold execOp
  simp only [ho, List.map_toArray, e1]
  rw [Sem.run_bind, run_buildSlice w t e len _ us.toArray it z ht.und h1 h2 (by rw [h3]; omega) (by rw [h3]; omega) ?_]
  · simp
  · rw [h3, ← hu]
    exact Great.fill_whole ht.pos vs _ hall (by rw [hl]; simp)
end up
section ge
variable {P : Program} {o : Oper} {ρ : Slots} {Γ : List Chunk} {x y z : Operand} {u v : Value}
/-- append(s, x...): s is a row of one's own, the source lies in any chunk that gives it. -/
theorem Ge.append {t e : TypeId} {size bytes : Nat} {zs xs us : List Value} {A B : Option Addr} {n cap m c i : Nat} (ho : o.op = .call { callee := .builtin .append, args := #[x, y], argTypes := #[t, t] }) (ht : SliceTy P t e size bytes zs)
    (hx : ev ρ x = some (.slice A n cap)) (hy : ev ρ y = some (.slice B m c)) (hi : Γ[i]? = some (row e size A n cap xs)) (hsrc : ∀ w, sat Γ w → Src w B us) (hu : us.length = m * size) (h1 : ∀ u ∈ us, u.oneCell' = true) (h63 : n + m ≤ maxLen) (hby : (n + m) * bytes ≤ 140737488355328) :
    Ge P o ρ Γ (fun v Γ' => ∃ A' cap', v = .slice A' (n + m) cap' ∧ Γ' = Γ.set i (row e size A' (n + m) cap' (xs ++ us))) := fun a w ha hs => by
  obtain ⟨it, zv, h2, h3, h4, h5, h6⟩ := ht.inf
  have hrow : w.ownsRow 0 e size (.slice A n cap) n xs := hs.each _ (List.mem_of_getElem? hi)
  obtain ⟨v', w', hrun, h7, h8, h9⟩ := run_append_from (P := P) w 0 t o.type e it zv size bytes ht.und h2 h3 h4 h5 (by rw [h6]; simpa using ht.len) ht.pos _ n xs hrow B m c us hu (hsrc w hs) h1 h63 hby (Nat.zero_le _)
  obtain ⟨A', cap', rfl, _⟩ := own_form h7
  have hb : ∀ g, g ∈ blks A' → g ∈ blks A ∨ g = w.heap.size := fun g hg => by
    obtain ⟨ad, rfl, rfl⟩ := mem_blks.1 hg
    rcases h9 with h9 | h9
    · refine .inl (mem_blks.2 ?_)
      cases A with
      | none => simp [Value.ownBlock] at h9
      | some a' => simp [Value.ownBlock] at h9; exact ⟨a', rfl, h9.symm⟩
    · simp [Value.ownBlock] at h9; exact .inr h9
  refine ⟨_, _, w', ?_, ⟨A', cap', rfl, rfl⟩, Post.set hi hs ⟨⟨fun c hc => by rw [List.mem_singleton.1 hc]; exact h7, ?_, by simp [reads, row]⟩, ?_, ?_, by simp [reads, row]⟩⟩
  · unfold execOp
    simp only [ho, resolve, invoke, builtin, Sem.run_bind, Sem.run_pure, Result.andThen_ok, List.map_toArray, List.map_cons, List.map_nil, ha.eval hx, ha.eval hy, hrun]
  · cases A' <;> simp [owns, row, blks]
  · refine h8.mono fun g _ hg => ?_
    cases A with
    | none => simp [Value.ownBlock] at hg
    | some a' => simp [Value.ownBlock] at hg; simp [owns, row, blks, hg]
  · intro g hg hl
    have hg' : g ∈ blks A' := by simpa [owns, row] using hg
    rcases hb g hg' with h | h
    · simpa [owns, row] using h
    · omega
theorem src_row {e : TypeId} {size : Nat} {A : Option Addr} {n cap i : Nat} {xs : List Value} (hi : Γ[i]? = some (row e size A n cap xs)) : ∀ w, sat Γ w → Src w A xs := fun w hs => by
  obtain ⟨A', cap', h1, h2, _⟩ := own_form (show w.ownsRow 0 e size (.slice A n cap) n xs from hs.each _ (List.mem_of_getElem? hi))
  simp only [Value.slice.injEq] at h1
  rw [h1.1]; exact h2
theorem src_ro {A : Option Addr} {i : Nat} {xs : List Value} (hi : Γ[i]? = some (ro A xs)) : ∀ w, sat Γ w → Src w A xs := fun _ hs => hs.each _ (List.mem_of_getElem? hi)
theorem src_nil {A : Option Addr} : ∀ w, sat Γ w → Src w A [] := fun _ _ => .inl rfl
theorem Mk.make0 {t e : TypeId} {size bytes c : Nat} {zs : List Value} {kl kc : IntKind} (ho : o.op = .makeSlice t x y) (ht : SliceTy P t e size bytes zs) (hx : ev ρ x = some (.int kl 0)) (hy : ev ρ y = some (.int kc (c : Int))) (hb : bytes * c ≤ 281474976710656) (hc : c ≤ maxLen) :
    Mk P o ρ Γ (fun v N => ∃ b, v = .slice (some ⟨b, 0, none⟩) 0 c ∧ N = [row e size (some ⟨b, 0, none⟩) 0 c []]) := fun a w ha _ => by
  obtain ⟨it, zv, h2, h3, h4, h5, h6⟩ := ht.inf
  obtain ⟨w', hr, h7, h8⟩ := run_make_own (P := P) w 0 t e it zv size ht.und h2 h3 h4 kl kc c (by rw [h5]; exact hb) hc (Nat.zero_le _)
  refine ⟨_, _, w', ?_, ⟨w.heap.size, rfl, rfl⟩, ⟨⟨fun c hc => by rw [List.mem_singleton.1 hc]; exact h7, by simp [owns, row, blks], by simp [reads, row]⟩, (Keeps.of_grown h8 (run_drawn _ _ _ _ hr)).mono fun _ _ h => by simp at h, fun g hg hl => ?_, by simp [reads, row]⟩⟩
  · unfold execOp
    simp only [ho, ha.eval hx, ha.eval hy, Sem.run_bind, hr, Result.andThen_ok, Sem.run_pure]
  · simp [owns, row, blks] at hg; omega
theorem madeCells_list (zs : List Value) (n : Nat) (h : zs.length = 1) : (madeCells zs.toArray (n * 1)).toList = (List.replicate n zs).flatten := by
  match zs, h with
  | [z], _ =>
    apply List.ext_getElem?
    intro k
    have e1 : (List.replicate n [z]).flatten = List.replicate n z := by
      induction n with
      | zero => rfl
      | succ n ih => simp [List.replicate_succ, ih]
    rw [e1]
    unfold madeCells
    by_cases hk : k < n
    · simp [hk, Nat.mod_one]
    · simp [hk]
theorem Mk.makeN {t e : TypeId} {size bytes n : Nat} {zs : List Value} {kl kc : IntKind} (ho : o.op = .makeSlice t x y) (ht : SliceTy P t e size bytes zs) (hx : ev ρ x = some (.int kl (n : Int))) (hy : ev ρ y = some (.int kc (n : Int))) (hb : bytes * n ≤ 281474976710656) (hc : n ≤ maxLen) :
    Mk P o ρ Γ (fun v N => ∃ b, v = .slice (some ⟨b, 0, none⟩) n n ∧ N = [row e size (some ⟨b, 0, none⟩) n n (madeCells zs.toArray (n * size)).toList]) := fun a w ha _ => by
  obtain ⟨it, zv, h2, h3, h4, h5, h6⟩ := ht.inf
  obtain ⟨w', hr, h7, h8⟩ := run_make_full (P := P) w 0 t e it zv size ht.und h2 h3 h4 kl kc n (by rw [h5]; exact hb) hc (Nat.zero_le _)
  rw [h6] at h7
  refine ⟨_, _, w', ?_, ⟨w.heap.size, rfl, rfl⟩, ⟨⟨fun c hc => by rw [List.mem_singleton.1 hc]; exact h7, by simp [owns, row, blks], by simp [reads, row]⟩, (Keeps.of_grown h8 (run_drawn _ _ _ _ hr)).mono fun _ _ h => by simp at h, fun g hg hl => ?_, by simp [reads, row]⟩⟩
  · unfold execOp
    simp only [ho, ha.eval hx, ha.eval hy, Sem.run_bind, hr, Result.andThen_ok, Sem.run_pure]
  · simp [owns, row, blks] at hg; omega
def callable (P : Program) (f : FuncId) : Bool := match P.funcs[f]? with
  | some fn => !(fn.name == "runtime.NumGoroutine") && fn.body.isSome
  | none => false
theorem run_callFunc {f : FuncId} (h : callable P f = true) (args : Array Value) (w : World) : (callFunc f args).run P w = .ok (.enter f args) w := by
  unfold callable at h
  split at h
  · rename_i fn hf
    simp only [Bool.and_eq_true, Bool.not_eq_true'] at h
    have h1 : fn.name ≠ "runtime.NumGoroutine" := by simpa using h.1
    have h2 : fn.body ≠ none := by cases hb : fn.body <;> simp_all
    unfold callFunc
    simp [hf, h1, h2]
  · cases h
theorem Ent.func {f : FuncId} {xs : List Operand} {ts : Array TypeId} {vs : List Value} {c : Operand} {first captured : List Value} (ho : o.op = .call { callee := .value c, args := xs.toArray, argTypes := ts }) (hc : ev ρ c = some (.func (.func f) first.toArray captured.toArray)) (hv : evs ρ xs = some vs) (hf : callable P f = true) :
    Ent P o ρ f (first ++ vs ++ captured) := fun a w ha => by
  unfold execOp
  simp only [ho, resolve, ha.eval hc, List.map_toArray, ha.evals hv, Deferred.ofValue, invoke, Sem.run_bind, Sem.run_pure, Result.andThen_ok, run_callFunc hf]
  simp
theorem Ent.fn {f : FuncId} {xs : List Operand} {ts : Array TypeId} {vs : List Value} (ho : o.op = .call { callee := .value (.func f), args := xs.toArray, argTypes := ts }) (hv : evs ρ xs = some vs) (hf : callable P f = true) : Ent P o ρ f vs := fun a w ha => by
  have := Ent.func (P := P) (ρ := ρ) (first := []) (captured := []) ho rfl hv hf a w ha
  simpa using this
theorem Rd.extract {i : Nat} {vs : List Value} (ho : o.op = .extract x i) (hx : ev ρ x = some (.tuple vs.toArray)) (hv : vs[i]? = some v) : Rd P o ρ Γ v := fun a w ha _ => by
  unfold execOp
  simp [ho, ha.eval hx, Instr.extract, hv]
end ge
end Go.Sep
