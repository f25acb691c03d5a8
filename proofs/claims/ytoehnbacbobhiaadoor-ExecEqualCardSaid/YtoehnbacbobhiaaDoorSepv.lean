/- Structs of whole numbers, compared. Own text. -/
import Derived.Test.YtoehnbacbobhiaaDoorSepq
import Derived.Laws.StructEq
namespace Go.Sep
open Go.RowKit Go.Flow Go.Mem
variable {P : Program} {o : Oper} {ρ : Slots} {Γ : List Chunk} {x y : Operand}
def flatB (P : Program) : Nat → List Field → List IntKind → Bool
  | _, [], [] => true
  | n, f :: fs, k :: ks => !(f.name == "_") && f.offset == n && (match P.underlying f.type with | some (.int k') => k' == k | _ => false) && flatB P (n + 1) fs ks
  | _, _, _ => false
structure FlatTy (P : Program) (K : TypeId) (ks : List IntKind) : Prop where
  fields : ∃ fs : Array Field, P.underlying K = some (.struct fs) ∧ flatB P 0 fs.toList ks = true
  held : P.stoodInHeld K = false
  guard : P.eqGuardType P.depth K = false
theorem eqFlat {X Y : Array Value} (d : Nat) (w : World) : ∀ (fs : List Field) (n : Nat) (ks : List IntKind) (xs ys : List Int), flatB P n fs ks = true → xs.length = ks.length → ys.length = ks.length →
    (∀ i k a, ks[i]? = some k → xs[i]? = some a → X[n + i]? = some (.int k a)) → (∀ i k a, ks[i]? = some k → ys[i]? = some a → Y[n + i]? = some (.int k a)) → (Op.eqFields (d + 1) X Y fs).run P w = .ok (decide (xs = ys)) w
  | [], n, ks, xs, ys, h, hx, hy, _, _ => by
    cases ks with
    | nil =>
      rw [List.eq_nil_of_length_eq_zero hx, List.eq_nil_of_length_eq_zero hy]
      simp [Op.eqFields]
    | cons k ks => simp [flatB] at h
  | f :: fs, n, ks, xs, ys, h, hx, hy, h1, h2 => by
    cases ks with
    | nil => simp [flatB] at h
    | cons k ks =>
      obtain ⟨a, xs, rfl⟩ : ∃ a l, xs = a :: l := by cases xs with
        | nil => simp at hx
        | cons a l => exact ⟨a, l, rfl⟩
      obtain ⟨b, ys, rfl⟩ : ∃ a l, ys = a :: l := by cases ys with
        | nil => simp at hy
        | cons a l => exact ⟨a, l, rfl⟩
      simp only [flatB, Bool.and_eq_true, Bool.not_eq_true', beq_eq_false_iff_ne, beq_iff_eq] at h
      obtain ⟨⟨⟨hn, ho⟩, ht⟩, hr⟩ := h
      have hu : P.underlying f.type = some (.int k) := by
        split at ht
        · rename_i k' hk; rw [hk, eq_of_beq ht]
        · cases ht
      have e1 : X[n]? = some (.int k a) := by simpa using h1 0 k a rfl rfl
      have e2 : Y[n]? = some (.int k b) := by simpa using h2 0 k b rfl rfl
      have ih := eqFlat d w fs (n + 1) ks xs ys hr (by simpa using hx) (by simpa using hy)
        (fun i k' c hk hc => by have := h1 (i + 1) k' c (by simpa using hk) (by simpa using hc); rwa [show n + 1 + i = n + (i + 1) by omega])
        (fun i k' c hk hc => by have := h2 (i + 1) k' c (by simpa using hk) (by simpa using hc); rwa [show n + 1 + i = n + (i + 1) by omega])
      have p1 : (part f.type X f.offset).run P w = .ok (.int k a) w := by simp [part, isAgg, run_underlying hu, ho, e1]
      have p2 : (part f.type Y f.offset).run P w = .ok (.int k b) w := by simp [part, isAgg, run_underlying hu, ho, e2]
      simp only [Op.eqFields, hn, ne_eq, not_false_eq_true, if_true, Sem.run_bind, p1, p2, Result.andThen_ok, run_equalIn_int _ d f.type k k _ _ hu, Sem.run_ite]
      by_cases e : a = b
      · subst e
        simp [ih]
      · simp [e]
theorem getz (ks : List IntKind) (xs : List Int) (i : Nat) (k : IntKind) (a : Int) (h1 : ks[i]? = some k) (h2 : xs[i]? = some a) : (List.zipWith Value.int ks xs).toArray[0 + i]? = some (.int k a) := by
  rw [Nat.zero_add, List.getElem?_toArray, List.getElem?_zipWith, h1, h2]
theorem FlatTy.eq {K : TypeId} {ks : List IntKind} (T : FlatTy P K ks) (d : Nat) {xs ys : List Int} (hx : xs.length = ks.length) (hy : ys.length = ks.length) (w : World) :
    (Op.equalIn (d + 2) K (.agg (List.zipWith Value.int ks xs).toArray) (.agg (List.zipWith Value.int ks ys).toArray)).run P w = .ok (decide (xs = ys)) w := by
  obtain ⟨fs, hu, hb⟩ := T.fields
  have hf : P.fieldsOf K = fs := by simp [Program.fieldsOf, hu]
  rw [run_equalIn_struct w (d + 1) K _ _ (by rw [hf]; exact hu) T.held, hf]
  exact eqFlat d w fs.toList 0 ks xs ys hb hx hy (getz ks xs) (getz ks ys)
theorem Rd.eqlF {K t' : TypeId} {ks : List IntKind} {xs ys : List Int} (T : FlatTy P K ks) (ho : o.op = .binOp .eql K x y t') (hx : ev ρ x = some (.agg (List.zipWith Value.int ks xs).toArray)) (hy : ev ρ y = some (.agg (List.zipWith Value.int ks ys).toArray)) (h1 : xs.length = ks.length) (h2 : ys.length = ks.length) : Rd P o ρ Γ (.bool (decide (xs = ys))) := Rd.bin ho hx hy fun w => by
  have g : (eqGuard .eql K x y (.agg (List.zipWith Value.int ks xs).toArray) (.agg (List.zipWith Value.int ks ys).toArray)).run P w = .ok () w := run_eqGuard_agg w .eql K x y _ _ T.guard
  have h : (binOp .eql K (.agg (List.zipWith Value.int ks xs).toArray) (.agg (List.zipWith Value.int ks ys).toArray)).run P w = .ok (.bool (decide (xs = ys))) w := by
    rw [run_eql_struct, T.eq 9998 h1 h2 w]; rfl
  simp [g, h]
theorem Rd.neqF {K t' : TypeId} {ks : List IntKind} {xs ys : List Int} (T : FlatTy P K ks) (ho : o.op = .binOp .neq K x y t') (hx : ev ρ x = some (.agg (List.zipWith Value.int ks xs).toArray)) (hy : ev ρ y = some (.agg (List.zipWith Value.int ks ys).toArray)) (h1 : xs.length = ks.length) (h2 : ys.length = ks.length) : Rd P o ρ Γ (.bool (decide (xs ≠ ys))) := Rd.bin ho hx hy fun w => by
  have g : (eqGuard .neq K x y (.agg (List.zipWith Value.int ks xs).toArray) (.agg (List.zipWith Value.int ks ys).toArray)).run P w = .ok () w := run_eqGuard_agg w .neq K x y _ _ T.guard
  have h : (binOp .neq K (.agg (List.zipWith Value.int ks xs).toArray) (.agg (List.zipWith Value.int ks ys).toArray)).run P w = .ok (.bool (decide (xs ≠ ys))) w := by
    rw [run_neq_struct, T.eq 9998 h1 h2 w]; simp [Result.andThen]
  simp [g, h]
end Go.Sep
