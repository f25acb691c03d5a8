/- Keys of maps: whole numbers, and structs of three of them. Own text. -/
import Derived.Test.YtoehnbacbobhiaaDoorSepm
import Derived.Laws.StructEq
namespace Go.Sep
open Go.RowKit Go.Flow Go.Mem
variable {P : Program} {o : Oper} {ρ : Slots} {Γ : List Chunk} {x y : Operand}

theorem KeyTy.int {K : TypeId} {k : IntKind} (h : P.underlying K = some (.int k)) : KeyTy P K (fun n : Int => .int k n) where
  same a b w := by
    show (Op.equalIn (9999 + 1) K (.int k a) (.int k b)).run P w = _
    rw [run_equalIn_int w 9999 K k k a b h]; rfl
  now d hd := by
    rw [h] at hd
    obtain rfl := Option.some.inj hd
    exact .inr fun a b => by simp only [Instr.sameNow, if_true]; rfl
  und := ⟨_, h⟩
  check e a w := by
    show (Instr.checkKey e (9999 + 1) K (.int k a)).run P w = _
    unfold Instr.checkKey
    simp [run_underlying h]
  bits a := by show Instr.sameBits 10000 (.int k a) (.int k a) = true; simp [Instr.sameBits]
/-- A struct of three whole numbers. -/
def mk3 (m : Int × Int × Int) : Value := .agg #[.int .i64 m.1, .int .i64 m.2.1, .int .i64 m.2.2]
theorem run_part3 {e : TypeId} (he : P.underlying e = some (.int .i64)) {xs : Array Value} {off : Nat} {v : Value} (hx : xs[off]? = some v) (w : World) : (part e xs off).run P w = .ok v w := by
  simp [part, isAgg, run_underlying he, hx]
structure Three (P : Program) (K : TypeId) : Prop where
  fields : ∃ e f g h, P.underlying K = some (.struct #[f, g, h]) ∧ P.underlying e = some (.int .i64) ∧ (f.name ≠ "_" ∧ f.type = e ∧ f.offset = 0) ∧ (g.name ≠ "_" ∧ g.type = e ∧ g.offset = 1) ∧ (h.name ≠ "_" ∧ h.type = e ∧ h.offset = 2)
  held : P.stoodInHeld K = false
  guard : P.eqGuardType P.depth K = false
theorem Three.eq {K : TypeId} (T : Three P K) (d : Nat) (a b : Int × Int × Int) (w : World) : (Op.equalIn (d + 2) K (mk3 a) (mk3 b)).run P w = .ok (decide (a = b)) w := by
  obtain ⟨e, f, g, h, hu, he, ⟨f1, f2, f3⟩, ⟨g1, g2, g3⟩, ⟨h1, h2, h3⟩⟩ := T.fields
  obtain ⟨a1, a2, a3⟩ := a
  obtain ⟨b1, b2, b3⟩ := b
  have hf : P.fieldsOf K = #[f, g, h] := by simp [Program.fieldsOf, hu]
  unfold mk3
  rw [run_equalIn_struct w (d + 1) K _ _ (by rw [hf]; exact hu) T.held, hf]
  simp only [Op.eqFields, f1, g1, h1, f2, g2, h2, f3, g3, h3, ne_eq, not_false_eq_true, if_true, Sem.run_bind]
  simp only [run_part3 he (xs := #[Value.int .i64 a1, .int .i64 a2, .int .i64 a3]) (off := 0) (v := .int .i64 a1) rfl, run_part3 he (xs := #[Value.int .i64 a1, .int .i64 a2, .int .i64 a3]) (off := 1) (v := .int .i64 a2) rfl, run_part3 he (xs := #[Value.int .i64 a1, .int .i64 a2, .int .i64 a3]) (off := 2) (v := .int .i64 a3) rfl,
    run_part3 he (xs := #[Value.int .i64 b1, .int .i64 b2, .int .i64 b3]) (off := 0) (v := .int .i64 b1) rfl, run_part3 he (xs := #[Value.int .i64 b1, .int .i64 b2, .int .i64 b3]) (off := 1) (v := .int .i64 b2) rfl, run_part3 he (xs := #[Value.int .i64 b1, .int .i64 b2, .int .i64 b3]) (off := 2) (v := .int .i64 b3) rfl,
    Result.andThen_ok, run_equalIn_int _ d e .i64 .i64 _ _ he, Sem.run_ite, Sem.run_bind, Sem.run_pure]
  by_cases e1 : a1 = b1 <;> by_cases e2 : a2 = b2 <;> by_cases e3 : a3 = b3 <;> simp [e1, e2, e3]
theorem KeyTy.three {K : TypeId} (T : Three P K) : KeyTy P K mk3 where
  same a b w := T.eq 9998 a b w
  now d hd := by
    obtain ⟨e, f, g, h, hu, _⟩ := T.fields
    rw [hu] at hd
    obtain rfl := Option.some.inj hd
    exact .inl fun a b => rfl
  und := by
    obtain ⟨e, f, g, h, hu, _⟩ := T.fields
    exact ⟨_, hu⟩
  check em a w := by
    obtain ⟨e, f, g, h, hu, he, ⟨f1, f2, f3⟩, ⟨g1, g2, g3⟩, ⟨h1, h2, h3⟩⟩ := T.fields
    have key : ∀ n : Int, (Instr.checkKey em (9998 + 1) e (.int .i64 n)).run P w = .ok () w := fun n => by
      unfold Instr.checkKey
      simp [run_underlying he]
    show (Instr.checkKey em (9999 + 1) K (mk3 a)).run P w = _
    unfold mk3 Instr.checkKey
    simp only [Sem.run_bind, run_underlying hu, Result.andThen_ok]
    rw [← Array.forIn_toList]
    simp [f1, g1, h1, f2, g2, h2, f3, g3, h3, run_part3 he (xs := #[Value.int .i64 a.1, .int .i64 a.2.1, .int .i64 a.2.2]) (off := 0) (v := .int .i64 a.1) rfl, run_part3 he (xs := #[Value.int .i64 a.1, .int .i64 a.2.1, .int .i64 a.2.2]) (off := 1) (v := .int .i64 a.2.1) rfl, run_part3 he (xs := #[Value.int .i64 a.1, .int .i64 a.2.1, .int .i64 a.2.2]) (off := 2) (v := .int .i64 a.2.2) rfl, key]
  bits a := by unfold mk3; simp [Instr.sameBits]
theorem Rd.neq3 {K t' : TypeId} {a b : Int × Int × Int} (T : Three P K) (ho : o.op = .binOp .neq K x y t') (hx : ev ρ x = some (mk3 a)) (hy : ev ρ y = some (mk3 b)) : Rd P o ρ Γ (.bool (decide (a ≠ b))) := Rd.bin ho hx hy fun w => by
  have h1 : (eqGuard .neq K x y (mk3 a) (mk3 b)).run P w = .ok () w := run_eqGuard_agg w .neq K x y _ _ T.guard
  have h2 : (binOp .neq K (mk3 a) (mk3 b)).run P w = .ok (.bool (decide (a ≠ b))) w := by
    have := run_neq_struct (P := P) w K #[.int .i64 a.1, .int .i64 a.2.1, .int .i64 a.2.2] #[.int .i64 b.1, .int .i64 b.2.1, .int .i64 b.2.2]
    show (binOp .neq K (.agg #[.int .i64 a.1, .int .i64 a.2.1, .int .i64 a.2.2]) (.agg #[.int .i64 b.1, .int .i64 b.2.1, .int .i64 b.2.2])).run P w = _
    rw [this]
    have h3 := T.eq 9998 a b w
    unfold mk3 at h3
    rw [h3]
    simp [Result.andThen]
  simp [h1, h2]
abbrev ekI : Int → Value := fun n => .int .i64 n
abbrev ekB : Bool → Value := fun b => .bool b
theorem zero_run {E : TypeId} {v : Value} (h : (P.info? E).bind (fun i => i.zero) = some v) : ∀ w, (zeroValue E).run P w = .ok v w := fun w => by
  cases hi : P.info? E with
  | none => rw [hi] at h; cases h
  | some i =>
    rw [hi] at h
    have hz : i.zero = some v := h
    simp [zeroValue, typeInfo, hi, hz]
theorem Rd.as {v v' : Value} (e : v = v') (h : Rd P o ρ Γ v) : Rd P o ρ Γ v' := e ▸ h
end Go.Sep
