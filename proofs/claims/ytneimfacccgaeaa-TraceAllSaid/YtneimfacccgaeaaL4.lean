/- Merged out of Sepg, Sepa, Sepb by merge.py. Own text. -/
import Derived.Test.YtneimfacccgaeaaL3
import Derived.Sort.Grow
import Derived.Deep.Draws
namespace Go.Sep
open Go.RowKit Go.Flow Go.Mem

theorem grown_of_keeps {X : Nat → Prop} {w w' : World} (h : Keeps X w w') (hx : ∀ g, g < w.heap.size → ¬ X g) : ∃ q os, w' = Go.Sort.grow (w.drewN q) os := by
  refine ⟨w'.drawn - w.drawn, w'.heap.extract w.heap.size w'.heap.size, ?_⟩
  have hd := h.drawn
  have hh : w'.heap = w.heap ++ w'.heap.extract w.heap.size w'.heap.size := by
    have h0 : w.heap = w'.heap.extract 0 w.heap.size := by
      apply Array.ext_getElem?
      intro i
      by_cases hi : i < w.heap.size
      · rw [← h.block i hi (hx i hi), Array.getElem?_extract]
        have := h.size
        simp [hi, Nat.min_eq_left this]
      · rw [Array.getElem?_eq_none (by omega), Array.getElem?_eq_none (by simp; omega)]
    conv => rhs; lhs; rw [h0]
    rw [Array.extract_append_extract]
    have := h.size
    simp [Nat.max_eq_right this]
  have h1 := h.os; have h2 := h.tape; have h3 := h.output
  obtain ⟨hp, tp, dr, os, ou⟩ := w
  obtain ⟨hp', tp', dr', os', ou'⟩ := w'
  simp only [Go.Sort.grow, World.drewN] at *
  subst h1 h2 h3
  simp only [World.mk.injEq, true_and, and_true]
  exact ⟨hh, by omega⟩
theorem Does.grown {P : Program} {f : FuncId} {args : List Value} {Γ : List Chunk} {R : Value → List Chunk → Prop} {w : World} (h : Does P f args Γ R) (hq : owns Γ = []) (hs : oks Γ w) : Calls P f args.toArray w fun e w' => ∃ v Γ', e = .returned v ∧ R v Γ' ∧ ∃ q os, w' = Go.Sort.grow (w.drewN q) os :=
  (h w (sat_of_oks hq hs)).mono fun e w' ⟨v, Γ', h1, h2, h3⟩ => ⟨v, Γ', h1, h2, grown_of_keeps h3.keeps fun g _ hg => by rw [hq] at hg; cases hg⟩
end Go.Sep
namespace Go.Sep
open Go.RowKit Go.Flow Go.Mem

/-- Many chunks as one. -/
def all (cs : List Chunk) : Chunk where
  owns := owns cs
  reads := reads cs
  holds w := sat cs w
  loc w w' h hw := ⟨fun c hc => c.loc w w' (fun g hg => h g (hg.imp (fun x => mem_owns.2 ⟨c, hc, x⟩) (fun x => mem_reads.2 ⟨c, hc, x⟩))) (hw.each c hc), hw.nodup, hw.apart⟩
  lt _ hw _ hg := hg.elim (fun h => hw.lt_own h) (fun h => hw.lt_read h)
theorem owns_all (cs Γ : List Chunk) : owns (all cs :: Γ) = owns (cs ++ Γ) := by rw [owns_append]; rfl
theorem reads_all (cs Γ : List Chunk) : reads (all cs :: Γ) = reads (cs ++ Γ) := by rw [reads_append]; rfl
theorem sat_all {cs Γ : List Chunk} {w : World} : sat (all cs :: Γ) w ↔ sat (cs ++ Γ) w := by
  constructor
  · intro h
    refine ⟨fun c hc => ?_, by rw [← owns_all]; exact h.nodup, by rw [← owns_all, ← reads_all]; exact h.apart⟩
    rcases List.mem_append.1 hc with h1 | h1
    · exact (h.each (all cs) (List.mem_cons_self ..)).each c h1
    · exact h.each c (List.mem_cons_of_mem _ h1)
  · intro h
    refine ⟨fun c hc => ?_, by rw [owns_all]; exact h.nodup, by rw [owns_all, reads_all]; exact h.apart⟩
    rcases List.mem_cons.1 hc with rfl | h1
    · exact h.left
    · exact h.each c (List.mem_append_right _ h1)
section
variable {C : Cx} {ρ : Slots} {Γ : List Chunk} {K : Act → World → Prop} {cs : List Chunk} {c : Chunk}
theorem To.unall (k : To C ρ (cs ++ Γ) K) : To C ρ (all cs :: Γ) K := fun a w ha hq =>
  k a w ha ⟨sat_all.1 hq.sat, hq.keeps, fun g hg => hq.own g (by rw [owns_all]; exact hg), fun g hg => hq.rd g (by rw [reads_all]; exact hg)⟩
theorem To.toall (k : To C ρ (all cs :: Γ) K) : To C ρ (cs ++ Γ) K := fun a w ha hq =>
  k a w ha ⟨sat_all.2 hq.sat, hq.keeps, fun g hg => hq.own g (by rw [← owns_all]; exact hg), fun g hg => hq.rd g (by rw [← reads_all]; exact hg)⟩
/-- One of them is taken out. -/
theorem To.allOut (i : Nat) (hi : cs[i]? = some c) (k : To C ρ (c :: all (cs.eraseIdx i) :: Γ) K) : To C ρ (all cs :: Γ) K := by
  refine To.unall (To.perm ((perm_eraseIdx hi).append_right Γ) ?_)
  refine To.perm (Γ' := cs.eraseIdx i ++ (c :: Γ)) (List.perm_middle.symm) (To.toall (To.perm (List.Perm.swap _ _ _) k))
theorem set_permA {α : Type} {l : List α} {i : Nat} {x y : α} (h : l[i]? = some x) : (y :: l.eraseIdx i).Perm (l.set i y) := by
  have h1 := (List.getElem?_eq_some_iff.1 h).1
  have h2 : (l.set i y)[i]? = some y := by simp [h1]
  have h3 := perm_eraseIdx h2
  rw [List.eraseIdx_set_eq] at h3
  exact h3.symm
/-- .. and another one put in its place. -/
theorem To.allIn {d : Chunk} (i : Nat) (hi : cs[i]? = some c) (k : To C ρ (all (cs.set i d) :: Γ) K) : To C ρ (d :: all (cs.eraseIdx i) :: Γ) K := by
  refine To.perm (List.Perm.swap _ _ _) (To.unall ?_)
  refine To.perm (Γ' := cs.set i d ++ Γ) ((List.perm_middle).trans ((set_permA hi).append_right Γ)) (To.toall k)
theorem To.allPush {d : Chunk} (k : To C ρ (all (cs ++ [d]) :: Γ) K) : To C ρ (d :: all cs :: Γ) K := by
  refine To.perm (List.Perm.swap _ _ _) (To.unall ?_)
  refine To.perm (Γ' := (cs ++ [d]) ++ Γ) (by rw [List.append_assoc]; exact List.Perm.refl _) (To.toall k)
theorem To.allNil (k : To C ρ (all [] :: Γ) K) : To C ρ Γ K := To.free rfl rfl (fun w => sat.nil w) k
end
/-- Many that own nothing. -/
theorem oks_all {Γ cs : List Chunk} (i : Nat) (h : Γ[i]? = some (all cs)) {c : Chunk} (hc : c ∈ cs) : ∀ w, oks Γ w → c.holds w := fun _ hw => sat.each (hw _ (List.mem_of_getElem? h)) c hc
end Go.Sep
namespace Go.Sep
open Go.RowKit Go.Flow Go.Mem
section
variable {P : Program} {o : Oper} {ρ : Slots} {Γ : List Chunk} {x y : Operand} {a b : Nat} {t t' : TypeId}
theorem wrap_nat64 {n : Nat} (h : n < 9223372036854775808) : IntKind.i64.wrap (n : Int) = n := IntWalk.i64_in _ (by omega)
theorem toNat_ofInt64 {n : Nat} (h : n < 9223372036854775808) : (BitVec.ofInt IntKind.i64.bits (n : Int)).toNat = n := by
  show (BitVec.ofInt 64 (n : Int)).toNat = n
  rw [BitVec.toNat_ofInt]
  omega
theorem Rd.and64 (ho : o.op = .binOp .and t x y t') (hx : ev ρ x = some (.int .i64 (a : Int))) (hy : ev ρ y = some (.int .i64 (b : Int))) (ha : a < 9223372036854775808) (hb : b < 9223372036854775808) : Rd P o ρ Γ (.int .i64 ((a &&& b : Nat) : Int)) := Rd.bin ho hx hy fun w => by
  have h : a &&& b < 9223372036854775808 := Nat.lt_of_le_of_lt Nat.and_le_left ha
  simp only [eqGuard, binOp, Op.intBits, BitVec.toNat_and, toNat_ofInt64 ha, toNat_ofInt64 hb, wrap_nat64 h]
  simp
theorem Rd.or64 (ho : o.op = .binOp .or t x y t') (hx : ev ρ x = some (.int .i64 (a : Int))) (hy : ev ρ y = some (.int .i64 (b : Int))) (ha : a < 9223372036854775808) (hb : b < 9223372036854775808) : Rd P o ρ Γ (.int .i64 ((a ||| b : Nat) : Int)) := Rd.bin ho hx hy fun w => by
  have h : a ||| b < 9223372036854775808 := Nat.or_lt_two_pow (n := 63) ha hb
  simp only [eqGuard, binOp, Op.intBits, BitVec.toNat_or, toNat_ofInt64 ha, toNat_ofInt64 hb, wrap_nat64 h]
  simp
theorem Rd.andNot64 (ho : o.op = .binOp .andNot t x y t') (hx : ev ρ x = some (.int .i64 (a : Int))) (hy : ev ρ y = some (.int .i64 (b : Int))) (ha : a < 9223372036854775808) (hb : b < 9223372036854775808) : Rd P o ρ Γ (.int .i64 ((a &&& (18446744073709551615 - b) : Nat) : Int)) := Rd.bin ho hx hy fun w => by
  have h : a &&& (18446744073709551615 - b) < 9223372036854775808 := Nat.lt_of_le_of_lt Nat.and_le_left ha
  have e : (~~~ (BitVec.ofInt IntKind.i64.bits (b : Int))).toNat = 18446744073709551615 - b := by
    rw [BitVec.toNat_not, toNat_ofInt64 hb]; rfl
  simp only [eqGuard, binOp, Op.intBits, BitVec.toNat_and, toNat_ofInt64 ha, e, wrap_nat64 h]
  simp
theorem Rd.shl1 {j : Nat} (ho : o.op = .binOp .shl t x y t') (hx : ev ρ x = some (.int .i64 1)) (hy : ev ρ y = some (.int .i64 (j : Int))) (hj : j < 63) : Rd P o ρ Γ (.int .i64 ((2 ^ j : Nat) : Int)) := Rd.bin ho hx hy fun w => by
  have h : (2 : Nat) ^ j < 9223372036854775808 := Nat.pow_lt_pow_right (by decide) hj
  have h1 : ¬ ((j : Int) < 0) := by omega
  have h2 : Min.min j IntKind.i64.bits = j := Nat.min_eq_left (by show j ≤ 64; omega)
  have e : (1 : Int) * 2 ^ j = ((2 ^ j : Nat) : Int) := by rw [Int.one_mul]; simp
  simp only [eqGuard, binOp, Op.shift, h1, if_false, Int.toNat_natCast, h2, e, wrap_nat64 h]
  simp
theorem Rd.shr64 {j : Nat} (ho : o.op = .binOp .shr t x y t') (hx : ev ρ x = some (.int .i64 (a : Int))) (hy : ev ρ y = some (.int .i64 (j : Int))) (hj : j < 63) : Rd P o ρ Γ (.int .i64 ((a / 2 ^ j : Nat) : Int)) := Rd.bin ho hx hy fun w => by
  have h1 : ¬ ((j : Int) < 0) := by omega
  have h2 : Min.min j IntKind.i64.bits = j := Nat.min_eq_left (by show j ≤ 64; omega)
  have e : (a : Int).fdiv (2 ^ j) = ((a / 2 ^ j : Nat) : Int) := by
    rw [Int.fdiv_eq_ediv_of_nonneg _ (by exact_mod_cast Nat.zero_le _)]; simp
  simp only [eqGuard, binOp, Op.shift, h1, if_false, Int.toNat_natCast, h2, e]
  simp
theorem Rd.remN {k : IntKind} (ho : o.op = .binOp .rem t x y t') (hx : ev ρ x = some (.int k (a : Int))) (hy : ev ρ y = some (.int k (b : Int))) (hb : 0 < b) : Rd P o ρ Γ (.int k ((a % b : Nat) : Int)) := by
  have := Rd.rem (P := P) (Γ := Γ) ho hx hy (by omega) (by omega)
  rwa [← Int.natCast_emod] at this
theorem Rd.addU (ho : o.op = .binOp .add t x y t') (hx : ev ρ x = some (.int .u64 (a : Int))) (hy : ev ρ y = some (.int .u64 (b : Int))) : Rd P o ρ Γ (.int .u64 (((a + b) % 18446744073709551616 : Nat) : Int)) := Rd.bin ho hx hy fun w => by
  have e : IntKind.u64.wrap ((a : Int) + b) = (((a + b) % 18446744073709551616 : Nat) : Int) := by
    simp [IntKind.wrap, IntKind.bits, IntKind.signed]
  simp [eqGuard, binOp, Op.intArith, e]
/-- A sum of counts. -/
theorem Rd.addN (ho : o.op = .binOp .add t x y t') (hx : ev ρ x = some (.int .i64 (a : Int))) (hy : ev ρ y = some (.int .i64 (b : Int))) (h : a + b < 9223372036854775808) : Rd P o ρ Γ (.int .i64 ((a + b : Nat) : Int)) := by
  have := Rd.add64 (P := P) (Γ := Γ) ho hx hy (by omega)
  rwa [← Int.natCast_add] at this
theorem wrapU {n : Nat} (h : n < 18446744073709551616) : IntKind.u64.wrap (n : Int) = n := by simp [IntKind.wrap, IntKind.bits, IntKind.signed]; omega
theorem Rd.mulU (ho : o.op = .binOp .mul t x y t') (hx : ev ρ x = some (.int .u64 (a : Int))) (hy : ev ρ y = some (.int .u64 (b : Int))) (h : a * b < 18446744073709551616) : Rd P o ρ Γ (.int .u64 ((a * b : Nat) : Int)) := by
  have := Rd.mul (P := P) (Γ := Γ) ho hx hy (by rw [← Int.natCast_mul]; exact wrapU h)
  rwa [← Int.natCast_mul] at this
theorem Rd.quoU (ho : o.op = .binOp .quo t x y t') (hx : ev ρ x = some (.int .u64 (a : Int))) (hy : ev ρ y = some (.int .u64 (b : Int))) (h0 : 0 < b) (h : a < 18446744073709551616) : Rd P o ρ Γ (.int .u64 ((a / b : Nat) : Int)) := Rd.bin ho hx hy fun w => by
  have h3 : a / b ≤ a := Nat.div_le_self _ _
  have h4 : b ≠ 0 := by omega
  have e2 : IntKind.u64.wrap ((a : Int) / b) = (a : Int) / b := by rw [← Int.natCast_ediv]; exact wrapU (by omega)
  simp [eqGuard, binOp, Op.intDiv, h4, e2]
/-- An element of an array. -/
theorem Rd.indexV {t e : TypeId} {n j : Nat} {k k' : IntKind} {xs : List Value} {v : Value} {i : TypeInfo} (ho : o.op = .index t x y) (ht : P.underlying t = some (.array n e)) (he : P.underlying e = some (.int k')) (hi : P.info? e = some i) (h1 : i.size = 1) (hx : ev ρ x = some (.agg xs.toArray)) (hy : ev ρ y = some (.int k (j : Int))) (hj : j < n) (hv : xs[j]? = some v) : Rd P o ρ Γ v := fun a w ha _ => by
  unfold execOp
  simp [ho, ha.eval hx, ha.eval hy, Instr.index, asIntOf, run_underlying ht, sizeOf, typeInfo, hi, h1, part, isAgg, run_underlying he, hv]
  omega
/-- A slice of zeros. -/
theorem Mk.makeRows {α : Type} {enc : α → List Value} {z : α} {e : TypeId} {bytes n : Nat} {kl kc : IntKind} (hz : (enc z).length = 1) (ho : o.op = .makeSlice t x y) (ht : SliceTy P t e 1 bytes (enc z)) (hx : ev ρ x = some (.int kl (n : Int))) (hy : ev ρ y = some (.int kc (n : Int))) (hb : bytes * n ≤ 281474976710656) (hc : n ≤ maxLen) :
    Mk P o ρ Γ (fun v N => ∃ b, v = .slice (some ⟨b, 0, none⟩) (List.replicate n z).length n ∧ N = [rows enc e 1 (some ⟨b, 0, none⟩) n (List.replicate n z)]) := by
  have h := Mk.makeN (P := P) (Γ := Γ) ho ht hx hy hb hc
  intro a w ha hs
  obtain ⟨v, N, w', h1, ⟨b, h2, h3⟩, h4⟩ := h a w ha hs
  refine ⟨v, N, w', h1, ⟨b, by rw [h2, List.length_replicate], ?_⟩, h4⟩
  rw [h3, madeCells_list _ n hz]
  unfold rows
  rw [List.length_replicate]
  rw [List.flatMap_def, List.map_replicate]
end
end Go.Sep
