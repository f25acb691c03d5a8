/- More operations: parts of rows, pointers, functions. Own text. -/
import Derived.Test.YtoehnbacbobhiaaDoorSepx
namespace Go.Sep
open Go.RowKit Go.Flow Go.Mem
section
variable {P : Program} {o : Oper} {ρ : Slots} {Γ : List Chunk} {x y : Operand} {C : Cx} {ops : Array Oper} {Q : Exit → Act → World → Prop} {rest : List Oper} {v : Value} {d : Nat}
variable {α : Type} {enc : α → List Value} {size : Nat}
theorem over_flat (E : Enc enc size) : ∀ (X : List α) (i : Nat) (y : α), i < X.length → over (X.flatMap enc) (i * size) (enc y) = (X.set i y).flatMap enc
  | [], i, y, h => by simp at h
  | x :: X, 0, y, _ => by
    unfold over
    rw [Nat.zero_mul, List.take_zero, Nat.zero_add, E.len, List.flatMap_cons, List.drop_append, List.drop_of_length_le (by rw [E.len]; exact Nat.le_refl _), E.len]
    simp
  | x :: X, i + 1, y, h => by
    have ih := over_flat E X i y (by simpa using h)
    unfold over at ih ⊢
    have e1 : (i + 1) * size = size + i * size := by rw [Nat.add_mul]; omega
    rw [E.len] at ih ⊢
    rw [List.set_cons_succ, List.flatMap_cons, List.flatMap_cons, e1, ← ih]
    rw [List.take_append, List.drop_append, List.take_of_length_le (by rw [E.len]; omega), List.drop_of_length_le (by rw [E.len]; omega), E.len, show size + i * size - size = i * size by omega, show size + i * size + size - size = i * size + size by omega]
    simp
theorem rows_takes (E : Enc enc size) (hpos : 0 < size) {e : TypeId} {A : Option Addr} {cap i : Nat} {X : List α} {y : α} (hi : i < X.length) : (rows enc e size A cap X).takes (blk A) (ofs A + i * size) (enc y) (rows enc e size A cap (X.set i y)) := by
  have h := row_takes (e := e) (size := size) (A := A) (n := X.length) (cap := cap) (off := i * size) (xs := X.flatMap enc) (us := enc y) (by
    rw [E.len]
    have : (i + 1) * size ≤ X.length * size := Nat.mul_le_mul_right _ hi
    rw [Nat.add_mul] at this; omega) (fun h => by have := E.len y; rw [h] at this; simp at this; omega) (over_flat E X i y hi)
  have e1 : rows enc e size A cap (X.set i y) = row e size A X.length cap ((X.set i y).flatMap enc) := by simp [rows]
  rw [e1]; exact h
/-- Where s[lo:] begins. -/
def slAt (A : Option Addr) (cap lo size : Nat) : Option Addr := if cap = lo then A else A.map (·.add (lo * size))
theorem Rd.sliceLo {t e : TypeId} {bytes n cap lo : Nat} {zs : List Value} {A : Option Addr} {k : IntKind} (ho : o.op = .slice t x (some y) none none) (ht : SliceTy P t e size bytes zs) (hx : ev ρ x = some (.slice A n cap)) (hy : ev ρ y = some (.int k (lo : Int))) (hl : lo ≤ n) : Rd P o ρ Γ (.slice (slAt A cap lo size) (n - lo) (cap - lo)) := fun a w ha _ => by
  obtain ⟨i, z, h1, h2, h3, _⟩ := ht.inf
  unfold execOp
  simp [ho, ha.eval hx, ha.eval hy, Instr.sliceAt, run_underlying ht.und, Instr.slice, Instr.sliceBounds, Instr.sliceBound, asIntOf, hl, sizeOf, typeInfo, h1, h3, slAt]
theorem Rd.sliceHi {t e : TypeId} {bytes n cap hi : Nat} {zs : List Value} {A : Option Addr} {k : IntKind} (ho : o.op = .slice t x none (some y) none) (ht : SliceTy P t e size bytes zs) (hx : ev ρ x = some (.slice A n cap)) (hy : ev ρ y = some (.int k (hi : Int))) (hl : hi ≤ cap) : Rd P o ρ Γ (.slice A hi cap) := fun a w ha _ => by
  obtain ⟨i, z, h1, h2, h3, _⟩ := ht.inf
  unfold execOp
  simp [ho, ha.eval hx, ha.eval hy, Instr.sliceAt, run_underlying ht.und, Instr.slice, Instr.sliceBounds, Instr.sliceBound, asIntOf, hl, sizeOf, typeInfo, h1]
  intro _
  cases A <;> simp [Addr.add]
theorem Rd.sliceLH {t e : TypeId} {bytes n cap lo hi : Nat} {zs : List Value} {A : Option Addr} {k k' : IntKind} {z : Operand} (ho : o.op = .slice t x (some y) (some z) none) (ht : SliceTy P t e size bytes zs) (hx : ev ρ x = some (.slice A n cap)) (hy : ev ρ y = some (.int k (lo : Int))) (hz : ev ρ z = some (.int k' (hi : Int))) (h0 : lo ≤ hi) (hl : hi ≤ cap) : Rd P o ρ Γ (.slice (slAt A cap lo size) (hi - lo) (cap - lo)) := fun a w ha _ => by
  obtain ⟨i, z, h1, h2, h3, _⟩ := ht.inf
  unfold execOp
  simp [ho, ha.eval hx, ha.eval hy, ha.eval hz, Instr.sliceAt, run_underlying ht.und, Instr.slice, Instr.sliceBounds, Instr.sliceBound, asIntOf, hl, h0, sizeOf, typeInfo, h1, h3, slAt]
theorem Rd.sliceAll {t e : TypeId} {n cap : Nat} {A : Option Addr} {bytes : Nat} {zs : List Value} (ho : o.op = .slice t x none none none) (ht : SliceTy P t e size bytes zs) (hx : ev ρ x = some (.slice A n cap)) : Rd P o ρ Γ (.slice A n cap) := fun a w ha _ => by
  obtain ⟨i, z, h1, h2, h3, _⟩ := ht.inf
  unfold execOp
  simp [ho, ha.eval hx, Instr.sliceAt, run_underlying ht.und, Instr.slice, Instr.sliceBounds, sizeOf, typeInfo, h1]
  intro _
  cases A <;> simp [Addr.add]
theorem Rd.nilCheck {ad : Addr} (ho : o.op = .nilCheck x) (hx : ev ρ x = some (.pointer (some ad))) : Rd P o ρ Γ (.pointer (some ad)) := fun a w ha _ => by
  unfold execOp; simp [ho, ha.eval hx]
theorem Rd.nilCheckF {f : FuncId} {f1 cp : Array Value} (ho : o.op = .nilCheck x) (hx : ev ρ x = some (.func (.func f) f1 cp)) : Rd P o ρ Γ (.func (.func f) f1 cp) := fun a w ha _ => by
  unfold execOp; simp [ho, ha.eval hx]
theorem Rd.makeFunc {f : FuncId} {xs ys : List Operand} {us vs : List Value} (ho : o.op = .makeFunc (.func f) xs.toArray ys.toArray) (hx : evs ρ xs = some us) (hy : evs ρ ys = some vs) : Rd P o ρ Γ (.func (.func f) us.toArray vs.toArray) := fun a w ha _ => by
  unfold execOp; simp [ho, ha.evals hx, ha.evals hy, Instr.makeFunc]
theorem equal_nil {t e : TypeId} (ht : P.underlying t = some (.pointer e)) (p : Option Addr) (w : World) : (Op.equal t (.pointer p) (.pointer none)).run P w = .ok p.isNone w := by
  have key : ∀ d, (Op.equalIn (d + 1) t (.pointer p) (.pointer none)).run P w = .ok p.isNone w := fun d => by
    cases p <;> simp [Op.equalIn, run_underlying ht]
  exact key 9999
theorem Rd.eqlNil {t t' e : TypeId} {p : Option Addr} (ho : o.op = .binOp .eql t x y t') (ht : P.underlying t = some (.pointer e)) (hx : ev ρ x = some (.pointer p)) (hy : ev ρ y = some (.pointer none)) : Rd P o ρ Γ (.bool p.isNone) := Rd.bin ho hx hy fun w => by
  have h := equal_nil (P := P) ht p w
  cases p <;> simp [eqGuard, binOp, h]
theorem Rd.neqNil {t t' e : TypeId} {p : Option Addr} (ho : o.op = .binOp .neq t x y t') (ht : P.underlying t = some (.pointer e)) (hx : ev ρ x = some (.pointer p)) (hy : ev ρ y = some (.pointer none)) : Rd P o ρ Γ (.bool p.isSome) := Rd.bin ho hx hy fun w => by
  have h := equal_nil (P := P) ht p w
  cases p <;> simp [eqGuard, binOp, h]
/-- clear(s[lo:]): what is ahead of lo stays. -/
theorem To.clearTail (E : Enc enc size) {t e : TypeId} {bytes lo cap i : Nat} {zs : List Value} {A : Option Addr} {X : List α} (hg : grd ops ρ o = some true) (hd : o.dst = none) (ho : o.op = .call { callee := .builtin .clear, args := #[x], argTypes := #[t] }) (ht : SliceTy P t e size bytes zs)
    (hx : ev ρ x = some (.slice (slAt A cap lo size) (X.length - lo) (cap - lo))) (hi : Γ[i]? = some (rows enc e size A cap X)) (hlo : lo ≤ X.length) (hpos : 0 < X.length) (k : To C ρ (Γ.set i (rows enc e size A cap (X.take lo))) (wpList P ops Q rest)) : To C ρ Γ (wpList P ops Q (o :: rest)) := fun a w ha hp => by
  obtain ⟨it, zv, h2, h3, h4, h5, h6⟩ := ht.inf
  have hrow : w.ownsRow 0 e size (.slice A X.length cap) X.length (X.flatMap enc) := hp.sat.each _ (List.mem_of_getElem? hi)
  have hA := own_some hrow hpos
  have hrow' : w.ownsRow 0 e size (.slice (some ⟨blk A, 0, none⟩) X.length cap) X.length (X.flatMap enc) := by rw [← hA]; exact hrow
  obtain ⟨_, _, hf, _, hnc, _⟩ := own_form hrow'
  simp only [Value.slice.injEq] at hf
  obtain ⟨_, _, rfl⟩ := hf
  have key : ∃ off q c, ev ρ x = some (.slice (some ⟨blk A, off, none⟩) q c) ∧ off + q * size ≤ X.length * size ∧ (q = 0 ∨ off = lo * size) := by
    by_cases hc : cap = lo
    · refine ⟨0, X.length - lo, cap - lo, by rw [hx, slAt, if_pos hc, ← hA], ?_, .inl (by omega)⟩
      have : X.length - lo = 0 := by omega
      rw [this]; omega
    · refine ⟨lo * size, X.length - lo, cap - lo, by rw [hx, slAt, if_neg hc, hA]; simp only [Option.map_some, Addr.add_mid, Nat.zero_add]; rfl, ?_, .inr rfl⟩
      rw [← Nat.add_mul]; exact Nat.mul_le_mul_right _ (by omega)
  obtain ⟨off, q, c, hx', hfit, hor⟩ := key
  obtain ⟨w', ys, hrun, h7, h8, h9⟩ := run_clear_over (P := P) w 0 t o.type e it zv size ht.und h2 h3 (by rw [h6]; simpa using ht.len) (fun u hu => ht.one u (by rw [h6] at hu; simpa using hu)) (blk A) X.length cap _ hrow' off q c hfit
  have h10 := own_shorter h8 lo hlo
  have e1 : (over (X.flatMap enc) off ys).take (lo * size) = (X.take lo).flatMap enc := by
    have e2 : (X.flatMap enc).take (lo * size) = (X.take lo).flatMap enc := by
      conv => lhs; rw [← List.take_append_drop lo X, List.flatMap_append]
      have : lo * size = ((X.take lo).flatMap enc).length := by rw [E.flat_len, List.length_take, Nat.min_eq_left hlo]
      rw [this, List.take_left]
    rw [← e2]
    unfold over
    rcases hor with rfl | rfl
    · rw [Nat.zero_mul] at h7
      rw [List.length_eq_zero_iff.1 h7]; simp
    · have : lo * size ≤ (X.flatMap enc).length := by rw [E.flat_len]; exact Nat.mul_le_mul_right _ hlo
      rw [List.append_assoc, List.take_append_of_le_length (by rw [List.length_take]; omega), List.take_take, Nat.min_self]
  rw [e1] at h10
  have hl2 : (X.take lo).length = lo := by rw [List.length_take]; omega
  have hch : (rows enc e size A cap (X.take lo)).holds w' := by
    show w'.ownsRow 0 e size (.slice A (X.take lo).length cap) (X.take lo).length ((X.take lo).flatMap enc)
    rw [hl2, hA]; exact h10
  have hpost : Post Γ (Γ.set i (rows enc e size A cap (X.take lo))) w w' := by
    refine Post.set hi hp.sat ⟨⟨fun c hc => by rw [List.mem_singleton.1 hc]; exact hch, ?_, by simp [reads, rows, row]⟩, h9.mono fun g _ hg => ?_, fun g hg _ => ?_, by simp [reads, rows, row]⟩
    · cases A <;> simp [owns, rows, row, blks]
    · rw [hg]
      have : blk A ∈ blks A := mem_blks.2 ⟨_, hA, rfl⟩
      simpa [owns, rows, row] using this
    · simpa [owns, rows, row] using hg
  refine wp_of_run (v := .tuple #[]) (w' := w') (grd_wanted hg ha.sees) ?_ ?_
  · unfold execOp
    simp only [ho, resolve, invoke, builtin, Sem.run_bind, Sem.run_pure, Result.andThen_ok, List.map_toArray, List.map_cons, List.map_nil, ha.sees.eval hx', hrun]
  · rw [hd]; exact k a w' ha (hp.trans hpost)
/-- A box may be read. -/
theorem oks_box {b : Nat} {cs : List Value} {t : TypeId} (i : Nat) (h : Γ[i]? = some (box b cs t)) : ∀ w, oks Γ w → (ro (some ⟨b, 0, none⟩) cs).holds w := fun _ hw => .inr ⟨b, 0, rfl, range_of_whole (hw _ (List.mem_of_getElem? h))⟩
end
end Go.Sep
namespace Go.Sep
open Go.RowKit Go.Flow Go.Mem
/-- A box is laid down to be read. -/
theorem To.layBox {C : Cx} {ρ : Slots} {Γ : List Chunk} {K : Act → World → Prop} {b : Nat} {cs : List Value} {t : TypeId} (k : To C ρ (ro (some ⟨b, 0, none⟩) cs :: Γ) K) : To C ρ (box b cs t :: Γ) K :=
  To.lay (Γ := [box b cs t]) (Γ' := [ro (some ⟨b, 0, none⟩) cs]) (fun w hs c hc => by
    rw [List.mem_singleton.1 hc]
    exact oks_box (Γ := [box b cs t]) 0 rfl w hs.each) rfl (fun g hg => by
    refine .inl ?_
    cases cs with
    | nil => simp [reads, ro, rblks] at hg
    | cons x xs => simpa [reads, owns, ro, rblks, blks, box] using hg) k
/-- A result of which only a property is told; what was made is let go. -/
theorem Does.bare {P : Program} {f : FuncId} {vs : List Value} {Γ : List Chunk} {p : Value → Prop} (h : Does P f vs Γ (fun v _ => p v)) : Does P f vs Γ (fun v Γ' => p v ∧ Γ' = []) := fun w hs =>
  (h w hs).mono fun _ _ ⟨v, _, h1, h2, h3⟩ => ⟨v, [], h1, ⟨h2, rfl⟩, Post.drop (Γ' := []) h3⟩
end Go.Sep
namespace Go.Sep
open Go.RowKit Go.Flow Go.Mem
section
variable {C : Cx} {ρ : Slots} {K : Act → World → Prop}
/-- Chunks in front told anew. -/
theorem To.turnF {Γ1 Δ : List Chunk} (Γ2 : List Chunk) (h : ∀ w, sat Γ1 w → Post Γ1 Γ2 w w) (k : To C ρ (Γ2 ++ Δ) K) : To C ρ (Γ1 ++ Δ) K := fun a w ha hq => k a w ha (hq.trans (Post.frame hq.sat (h w hq.sat.left)))
/-- The same, where more is known of them. -/
theorem To.openF {T : Type} {Γ1 Δ : List Chunk} {p : T → Prop} (Γ2 : T → List Chunk) (h : ∀ w, sat Γ1 w → ∃ t, p t ∧ Post Γ1 (Γ2 t) w w) (k : ∀ t, p t → To C ρ (Γ2 t ++ Δ) K) : To C ρ (Γ1 ++ Δ) K := fun a w ha hq => by
  obtain ⟨t, hp, ht⟩ := h w hq.sat.left
  exact k t hp a w ha (hq.trans (Post.frame hq.sat ht))
theorem Post.same {Γ1 Γ2 : List Chunk} {w : World} (hs : Sep.sat Γ1 w) (h : oks Γ2 w) (h1 : owns Γ2 = owns Γ1) (h2 : ∀ g ∈ reads Γ2, g ∈ reads Γ1) : Post Γ1 Γ2 w w :=
  ⟨⟨h, by rw [h1]; exact hs.nodup, fun g hg => by rw [h1]; exact hs.apart g (h2 g hg)⟩, Keeps.refl _ _, fun g hg _ => by rw [h1] at hg; exact hg, fun g hg _ => .inr (h2 g hg)⟩
end
end Go.Sep
namespace Go.Sep
open Go.RowKit Go.Flow Go.Mem
def ArrTy (P : Program) (t : TypeId) (n size : Nat) : Prop := ∃ e i, P.underlying t = some (.array n e) ∧ P.info? e = some i ∧ i.size = size
theorem ArrTy.of {P : Program} {t e : TypeId} {n size : Nat} (h : P.underlying t = some (.array n e)) (h1 : (P.info? e).map (·.size) = some size) : ArrTy P t n size := by
  obtain ⟨i, h2, h3⟩ := Option.map_eq_some_iff.1 h1
  exact ⟨e, i, h, h2, h3⟩
theorem Rd.indexArr {P : Program} {o : Oper} {ρ : Slots} {Γ : List Chunk} {x y : Operand} {t : TypeId} {n size b off j : Nat} {k : IntKind} (ho : o.op = .indexAddr t x y) (ht : ArrTy P t n size) (hx : ev ρ x = some (.pointer (some ⟨b, off, none⟩))) (hy : ev ρ y = some (.int k (j : Int))) (hj : j < n) : Rd P o ρ Γ (.pointer (some ⟨b, off + j * size, none⟩)) := fun a w ha _ => by
  obtain ⟨e, i, h1, h2, h3⟩ := ht
  unfold execOp
  simp [ho, ha.eval hx, ha.eval hy, Instr.indexAt, asIntOf, run_underlying h1, Instr.sureAddr, hj, sizeOf, typeInfo, h2, h3, Addr.add_mid]
end Go.Sep
namespace Go.Sep
open Go.RowKit Go.Flow Go.Mem
section
variable {P : Program} {o : Oper} {ρ : Slots} {Γ : List Chunk} {x y : Operand}
theorem Rd.min {k : IntKind} {m n : Int} {t u : TypeId} (ho : o.op = .call { callee := .builtin .min, args := #[x, y], argTypes := #[t, u] }) (hx : ev ρ x = some (.int k m)) (hy : ev ρ y = some (.int k n)) : Rd P o ρ Γ (.int k (min m n)) := fun a w ha _ => by
  unfold execOp
  have e1 : (if n < m then n else m) = Min.min m n := by omega
  simp [ho, resolve, invoke, builtin, ha.eval hx, ha.eval hy, Builtin.min_, Builtin.min2, e1]
theorem Rd.minTake {α : Type} {l : List α} {n : Nat} {t u : TypeId} (ho : o.op = .call { callee := .builtin .min, args := #[x, y], argTypes := #[t, u] }) (hx : ev ρ x = some (.int .i64 (l.length : Nat))) (hy : ev ρ y = some (.int .i64 (n : Int))) : Rd P o ρ Γ (.int .i64 ((l.take n).length : Nat)) := by
  have := Rd.min (P := P) (Γ := Γ) ho hx hy
  rwa [show Min.min ((l.length : Nat) : Int) (n : Int) = ((l.take n).length : Nat) by rw [List.length_take]; omega] at this
theorem Rd.eqlB {t t' : TypeId} {b c : Bool} (ho : o.op = .binOp .eql t x y t') (ht : P.underlying t = some .bool) (hx : ev ρ x = some (.bool b)) (hy : ev ρ y = some (.bool c)) : Rd P o ρ Γ (.bool (b == c)) := Rd.bin ho hx hy fun w => by
  have key : ∀ d, (Op.equalIn (d + 1) t (.bool b) (.bool c)).run P w = .ok (b == c) w := fun d => by simp [Op.equalIn, run_underlying ht]
  have h : (Op.equal t (.bool b) (.bool c)).run P w = .ok (b == c) w := key 9999
  simp [eqGuard, binOp, h]
theorem Rd.neqB {t t' : TypeId} {b c : Bool} (ho : o.op = .binOp .neq t x y t') (ht : P.underlying t = some .bool) (hx : ev ρ x = some (.bool b)) (hy : ev ρ y = some (.bool c)) : Rd P o ρ Γ (.bool (!(b == c))) := Rd.bin ho hx hy fun w => by
  have key : ∀ d, (Op.equalIn (d + 1) t (.bool b) (.bool c)).run P w = .ok (b == c) w := fun d => by simp [Op.equalIn, run_underlying ht]
  have h : (Op.equal t (.bool b) (.bool c)).run P w = .ok (b == c) w := key 9999
  simp [eqGuard, binOp, h]
/-- The head of what is read. -/
theorem To.take {C : Cx} {K : Act → World → Prop} {α : Type} {enc : α → List Value} {A : Option Addr} {l : List α} (k i : Nat) (hi : Γ[i]? = some (ros enc A l)) (h : To C ρ (ros enc A (l.take k) :: Γ) K) : To C ρ Γ K := by
  have e1 : l.flatMap enc = (l.take k).flatMap enc ++ (l.drop k).flatMap enc := by rw [← List.flatMap_append, List.take_append_drop]
  refine To.derive (ros enc A (l.take k)) rfl (fun g hg => reads_at i hi ?_) (fun w hw => ?_) h
  · have h1 : g ∈ rblks A ((l.take k).flatMap enc) := hg
    show g ∈ rblks A (l.flatMap enc)
    cases h2 : (l.take k).flatMap enc with
    | nil => rw [h2] at h1; simp [rblks] at h1
    | cons u us => rw [e1, h2]; rw [h2] at h1; exact h1
  · have h1 : Src w A (l.flatMap enc) := hw _ (List.mem_of_getElem? hi)
    show Src w A ((l.take k).flatMap enc)
    rcases h1 with h1 | ⟨g, off, rfl, h1⟩
    · rw [h1] at e1; exact .inl (List.append_eq_nil_iff.1 e1.symm).1
    · refine .inr ⟨g, off, rfl, fun j v hv => h1 j v ?_⟩
      rw [e1, List.getElem?_append_left (List.getElem?_eq_some_iff.1 hv).1]; exact hv
/-- One element of a row, as a slice of its own. -/
theorem oks_elem {α : Type} {enc : α → List Value} {size : Nat} (E : Enc enc size) {e : TypeId} {A : Option Addr} {cap i : Nat} {l : List α} {y : α} (n : Nat) (h : Γ[n]? = some (rows enc e size A cap l)) (hy : l[i]? = some y) (hc : l.length ≤ cap) : ∀ w, oks Γ w → (ros enc (slAt A cap i size) [y]).holds w := fun w hw => by
  have hrow : w.ownsRow 0 e size (.slice A l.length cap) l.length (l.flatMap enc) := hw _ (List.mem_of_getElem? h)
  have hi := (List.getElem?_eq_some_iff.1 hy).1
  have hA := own_some hrow (by omega)
  have hg := rows_gives E (e := e) (A := A) (cap := cap) hy w hrow
  have h0 : ofs A = 0 := by rw [hA]; rfl
  rw [h0, Nat.zero_add] at hg
  show Src w (slAt A cap i size) ([y].flatMap enc)
  rw [slAt, if_neg (by omega), hA]
  refine .inr ⟨blk A, i * size, by simp only [Option.map_some, Addr.add_mid, Nat.zero_add], ?_⟩
  simpa using hg
end
end Go.Sep
namespace Go.Sep
open Go.RowKit Go.Flow Go.Mem
/-- A loop whose round does not come to its end. -/
theorem To.loopOnce {P : Program} {C : Cx} {ρ : Slots} {Γ : List Chunk} {Q : Exit → Act → World → Prop} {c : Code} (h : To C ρ Γ (c.wp P (Exit.then (fun _ _ => False) Q))) : To C ρ Γ ((Code.loop c).wp P Q) := fun a w ha hp => wp_loop_once (h a w ha hp)
theorem Rd.max {P : Program} {o : Oper} {ρ : Slots} {Γ : List Chunk} {x y : Operand} {k : IntKind} {m n : Int} {t u : TypeId} (ho : o.op = .call { callee := .builtin .max, args := #[x, y], argTypes := #[t, u] }) (hx : ev ρ x = some (.int k m)) (hy : ev ρ y = some (.int k n)) : Rd P o ρ Γ (.int k (max m n)) := fun a w ha _ => by
  unfold execOp
  have e1 : (if m < n then n else m) = Max.max m n := by omega
  simp [ho, resolve, invoke, builtin, ha.eval hx, ha.eval hy, Builtin.max_, Builtin.max2, e1]
/-- A map that nobody looks into. -/
theorem Mk.makeMap {P : Program} {o : Oper} {ρ : Slots} {Γ : List Chunk} {t : TypeId} (ho : o.op = .makeMap t none) : Mk P o ρ Γ (fun v N => ∃ r, v = .map (some r) ∧ N = []) := fun a w _ _ => by
  refine ⟨_, _, w.alloc (.map #[] 0), ?_, ⟨w.heap.size, rfl, rfl⟩, ⟨sat.nil _, Keeps.of_ext (Ext.new _ _), by simp [owns], by simp [reads]⟩⟩
  unfold execOp
  simp [ho, Instr.makeMap]
/-- Two results, the first of them in a box. -/
theorem To.endCT {P : Program} {C : Cx} {ρ : Slots} {Γ Δ E : List Chunk} {R : Value → List Chunk → Prop} {fn : Func} {ex : Exit} {t b n i u : Nat} {ty ty' : TypeId} {cs : List Value} {v : Value} (is : List Nat) (hpl : pull Γ is = some (Δ, E)) (hex : ex = .ret ∨ ex = .normal) (hres : fn.results = #[.cell t ty, .tmp u]) (hv : look ρ t = some (.pointer (some ⟨b, 0, none⟩)))
    (hi : Γ[i]? = some (box b cs ty')) (ht : RowTy P ty n) (hl : cs.length = n) (hu : look ρ u = some v) (h : R (.tuple #[.agg cs.toArray, v]) Δ) (hds : C.ds = [] := by rfl) : To C ρ Γ (bodyPost P fn (Fin C R) ex) := fun a w ha hp => by
  have hr : (results fn a.tmps).run P w = .ok (.tuple #[.agg cs.toArray, v]) w := by
    obtain ⟨d, h1, h2, h3⟩ := ht
    have hw := hp.sat.each _ (List.mem_of_getElem? hi)
    have := run_loadVar_mid (P := P) w b 0 ty cs d (range_of_whole hw) h1 h2 (by rw [hl]; exact h3)
    have he : a.tmps[t]?.getD undef = .pointer (some ⟨b, 0, none⟩) := by rw [ha.sees t _ hv]; rfl
    have he2 : a.tmps[u]?.getD undef = v := by rw [ha.sees u _ hu]; rfl
    simp [results, hres, he, he2, asAddr, this]
  have hq : Post C.Γ0 Δ C.w0 w := (hp.perm (pull_perm hpl)).drop
  rcases hex with rfl | rfl
  · exact ⟨ha.defers.trans hds, _, hr, _, Δ, rfl, h, hq⟩
  · exact ⟨ha.defers.trans hds, _, hr, _, Δ, rfl, h, hq⟩
end Go.Sep
namespace Go.Sep
open Go.RowKit Go.Flow Go.Mem
theorem Rd.indexRowsI {P : Program} {o : Oper} {ρ : Slots} {Γ : List Chunk} {x y : Operand} {α : Type} {enc : α → List Value} {size : Nat} {t e ie : TypeId} {bytes : Nat} {zs : List Value} {A : Option Addr} {cap j i : Nat} {l : List α} {k : IntKind} {el : α} {m : Int} (ho : o.op = .indexAddr t x y) (hx : ev ρ x = some (.slice A l.length cap)) (hy : ev ρ y = some (.int k m)) (hm : m = (j : Int)) (ht : SliceTy P t e size bytes zs)
    (hi : Γ[i]? = some (rows enc ie size A cap l)) (hj : l[j]? = some el) : Rd P o ρ Γ (.pointer (some ⟨blk A, ofs A + j * size, none⟩)) := by
  subst hm; exact Rd.indexRows ho hx hy ht hi hj
theorem Rd.indexRosI {P : Program} {o : Oper} {ρ : Slots} {Γ : List Chunk} {x y : Operand} {α : Type} {enc : α → List Value} {size : Nat} (E : Enc enc size) {t e : TypeId} {bytes : Nat} {zs : List Value} {A : Option Addr} {cap j i : Nat} {l : List α} {k : IntKind} {el : α} {m : Int} (ho : o.op = .indexAddr t x y) (hx : ev ρ x = some (.slice A l.length cap)) (hy : ev ρ y = some (.int k m)) (hm : m = (j : Int)) (ht : SliceTy P t e size bytes zs)
    (hi : Γ[i]? = some (ros enc A l)) (hj : l[j]? = some el) : Rd P o ρ Γ (.pointer (some ⟨blk A, ofs A + j * size, none⟩)) := by
  subst hm; exact Rd.indexRos E ho hx hy ht hi hj
end Go.Sep
