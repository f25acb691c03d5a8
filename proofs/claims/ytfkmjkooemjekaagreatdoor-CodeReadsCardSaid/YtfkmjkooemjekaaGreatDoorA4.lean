/- The interpreter of known runs: moves, whole numbers, words, addresses, slices. Own text. -/
import Derived.Test.YtfkmjkooemjekaaGreatDoorA3
set_option linter.unusedVariables false
set_option linter.unusedSimpArgs false
namespace Go.In
open Go.RowKit Go.Flow Go.Mem Go.Sep
def kindB (a b : IntKind) : Bool := decide (a = b)
def binA (op : BinOp) (k : IntKind) (m n : Int) : Option AV :=
  match op with
  | .add => some (.int k (k.wrap (m + n)))
  | .sub => some (.int k (k.wrap (m - n)))
  | .mul => some (.int k (k.wrap (m * n)))
  | .lss => some (.bool (decide (m < n)))
  | .leq => some (.bool (decide (m ≤ n)))
  | .gtr => some (.bool (decide (m > n)))
  | .geq => some (.bool (decide (m ≥ n)))
  | .eql => some (.bool (decide (m = n)))
  | .neq => some (.bool (decide (m ≠ n)))
  | _ => none
def eqStr : List Nat → List Nat → Bool
  | [], [] => true
  | a :: x, b :: y => bif Nat.beq (a % 256) (b % 256) then eqStr x y else false
  | _, _ => false
def binS (op : BinOp) (a b : List Nat) : Option AV :=
  match op with
  | .eql => some (.bool (eqStr a b))
  | .neq => some (.bool (!eqStr a b))
  | .add => bif Nat.ble (a.length + b.length) 9223372036854775807 then some (.str (a ++ b)) else none
  | _ => none
def ptrTy (P : Program) (t : TypeId) : Bool :=
  match P.underlying t with
  | some (.pointer e) => (P.info? e).isSome
  | _ => false
def slTy (P : Program) (t : TypeId) : Bool :=
  match P.underlying t with
  | some (.slice _) => true
  | _ => false
def strTy (P : Program) (t : TypeId) : Bool :=
  match P.underlying t with
  | some .string => true
  | _ => false
def eqOp : BinOp → Option Bool
  | .eql => some true
  | .neq => some false
  | _ => none
def moveA (P : Program) (ρ : ASlots) : Op → Option AV
  | .move x => aev ρ x
  | .assign x => aev ρ x
  | .pick c a b => match aev ρ c with
    | some (.bool true) => aev ρ a
    | some (.bool false) => aev ρ b
    | _ => none
  | .extract x i => match aev ρ x with
    | some (.tup l) => l[i]?
    | _ => none
  | .nilCheck x => match aev ρ x with
    | some (.ptr i o) => some (.ptr i o)
    | some (.fn f a b) => some (.fn f a b)
    | _ => none
  | .unOp .not _ x => match aev ρ x with
    | some (.bool b) => some (.bool (!b))
    | _ => none
  | .binOp op t x y _ => match aev ρ x, aev ρ y with
    | some (.int k m), some (.int k' n) => bif kindB k k' then binA op k m n else none
    | some (.str a), some (.str b) => binS op a b
    | some (.ptr i q), some (.nilp) => match eqOp op with
      | some e => bif ptrTy P t then some (.bool (!e)) else none
      | none => none
    | some (.ptr i q), some (.ptr j r) => match eqOp op with
      | some e => bif ptrTy P t && Nat.beq i j && Nat.beq q r then some (.bool e) else none
      | none => none
    | some (.sl i q l c), some (.nils) => match eqOp op with
      | some e => bif slTy P t then some (.bool (!e)) else none
      | none => none
    | some (.slu i q l c d), some (.nils) => match eqOp op with
      | some e => bif slTy P t then some (.bool (!e)) else none
      | none => none
    | _, _ => none
  | _ => none
section
variable {P : Program} {o : Oper} {ρ : ASlots} {Γ : List Chunk} {σ : Nat → Nat} {v : AV} {k : Nat}
theorem binA_rd {op : BinOp} {k : IntKind} {m n : Int} {ρ : Slots} {x y : Operand} {t t' : TypeId} (ho : o.op = .binOp op t x y t') (hx : ev ρ x = some (.int k m)) (hy : ev ρ y = some (.int k n)) (h : binA op k m n = some v) : Rd P o ρ Γ (val σ v) := by
  unfold binA at h
  split at h <;> first | cases h | (simp only [Option.some.injEq] at h; subst h)
  · exact Rd.bin ho hx hy fun w => by simp [eqGuard, binOp, Op.intArith, val]
  · exact Rd.bin ho hx hy fun w => by simp [eqGuard, binOp, Op.intArith, val]
  · exact Rd.bin ho hx hy fun w => by simp [eqGuard, binOp, Op.intArith, val]
  · exact Rd.lss ho hx hy
  · exact Rd.leq ho hx hy
  · exact Rd.gtr ho hx hy
  · exact Rd.geq ho hx hy
  · exact Rd.eql ho hx hy
  · exact Rd.neq ho hx hy
theorem ofNat_beq (a b : Nat) : (UInt8.ofNat a == UInt8.ofNat b) = Nat.beq (a % 256) (b % 256) := by
  rw [Bool.eq_iff_iff, beq_iff_eq, Nat.beq_eq]
  constructor
  · intro h; have := congrArg UInt8.toNat h; simpa using this
  · intro h; apply UInt8.toNat_inj.1; simpa using h
theorem eqStr_ok : ∀ a b : List Nat, ((a.map UInt8.ofNat) == (b.map UInt8.ofNat)) = eqStr a b
  | [], [] => rfl
  | [], _ :: _ => rfl
  | _ :: _, [] => rfl
  | a :: x, b :: y => by
    show (UInt8.ofNat a == UInt8.ofNat b && (x.map UInt8.ofNat) == (y.map UInt8.ofNat)) = _
    rw [ofNat_beq, eqStr_ok x y]
    show _ = (bif Nat.beq (a % 256) (b % 256) then eqStr x y else false)
    cases Nat.beq (a % 256) (b % 256) <;> simp
theorem bytes_toList (a : List Nat) : (bytesOf a).toList = a.map UInt8.ofNat := by unfold bytesOf; exact ByteArray.toList_mk _
theorem bytes_size (a : List Nat) : (bytesOf a).size = a.length := by unfold bytesOf; simp [ByteArray.size]
theorem bytes_add (a b : List Nat) : bytesOf a ++ bytesOf b = bytesOf (a ++ b) := by unfold bytesOf; rw [ByteArray.mk_append_mk, List.map_append]
theorem bytes_extract (a : List Nat) (l h : Nat) : (bytesOf a).extract l h = bytesOf ((a.drop l).take (h - l)) := by unfold bytesOf; rw [ByteArray.extract_mk, List.map_take, List.map_drop]
theorem binS_rd {op : BinOp} {a b : List Nat} {ρ : Slots} {x y : Operand} {t t' : TypeId} (ho : o.op = .binOp op t x y t') (hx : ev ρ x = some (.string (bytesOf a))) (hy : ev ρ y = some (.string (bytesOf b))) (h : binS op a b = some v) : Rd P o ρ Γ (val σ v) := by
  unfold binS at h
  split at h
  · cases h; exact Rd.bin ho hx hy fun w => by simp [eqGuard, binOp, Op.stringOp, val, bytes_toList, eqStr_ok]
  · cases h; exact Rd.bin ho hx hy fun w => by simp [eqGuard, binOp, Op.stringOp, val, bytes_toList, eqStr_ok]
  · cases hb : Nat.ble (a.length + b.length) 9223372036854775807 with
    | false => rw [hb] at h; cases h
    | true =>
      rw [hb] at h; cases h
      have hle := Nat.le_of_ble_eq_true hb
      refine Rd.bin ho hx hy fun w => ?_
      have e : (bytesOf a).size + (bytesOf b).size = a.length + b.length := by rw [bytes_size, bytes_size]
      simp only [eqGuard, binOp, Op.stringOp, val, e]
      have : ¬ ((a.length + b.length : Nat) : Int) > IntKind.i64.max := by
        have : IntKind.i64.max = 9223372036854775807 := by simp [IntKind.max, IntKind.signed, IntKind.bits]
        rw [this]; omega
      simp only [if_neg this, bytes_add]
      simp
  · cases h
theorem eqOp_ok {op : BinOp} {e : Bool} (h : eqOp op = some e) : (e = true ∧ op = .eql) ∨ (e = false ∧ op = .neq) := by
  unfold eqOp at h
  split at h
  · cases h; exact .inl ⟨rfl, rfl⟩
  · cases h; exact .inr ⟨rfl, rfl⟩
  · cases h
theorem ptrTy_ok {t : TypeId} (h : ptrTy P t = true) : ∃ e j, P.underlying t = some (.pointer e) ∧ P.info? e = some j := by
  unfold ptrTy at h
  split at h
  · rename_i e he
    cases hj : P.info? e with
    | none => rw [hj] at h; cases h
    | some j => exact ⟨e, j, he, hj⟩
  · cases h
theorem slTy_ok {t : TypeId} (h : slTy P t = true) : ∃ e, P.underlying t = some (.slice e) := by
  unfold slTy at h
  split at h
  · rename_i e he; exact ⟨e, he⟩
  · cases h
theorem strTy_ok {t : TypeId} (h : strTy P t = true) : P.underlying t = some .string := by
  unfold strTy at h
  split at h
  · rename_i he; exact he
  · cases h
theorem eqNil_rd {op : BinOp} {e : Bool} {ρ : Slots} {x y : Operand} {t t' : TypeId} {a : Addr} (ho : o.op = .binOp op t x y t') (he : eqOp op = some e) (ht : ptrTy P t = true) (hx : ev ρ x = some (.pointer (some a))) (hy : ev ρ y = some (.pointer none)) : Rd P o ρ Γ (.bool (!e)) := by
  obtain ⟨te, j, h1, _⟩ := ptrTy_ok ht
  rcases eqOp_ok he with ⟨rfl, rfl⟩ | ⟨rfl, rfl⟩
  · exact Rd.eqlNil ho h1 hx hy
  · exact Rd.neqNil ho h1 hx hy
theorem eqPtr_rd {op : BinOp} {e : Bool} {ρ : Slots} {x y : Operand} {t t' : TypeId} {a : Addr} (ho : o.op = .binOp op t x y t') (he : eqOp op = some e) (ht : ptrTy P t = true) (hx : ev ρ x = some (.pointer (some a))) (hy : ev ρ y = some (.pointer (some a))) : Rd P o ρ Γ (.bool e) := by
  obtain ⟨te, j, h1, h2⟩ := ptrTy_ok ht
  refine Rd.bin ho hx hy fun w => ?_
  have h : ∀ d : Nat, (Op.equalIn (d + 1) t (.pointer (some a)) (.pointer (some a))).run P w = .ok true w := fun d => by
    simp [Op.equalIn, run_underlying h1, sizeOf, typeInfo, h2, run_sameAddr_same]
  rcases eqOp_ok he with ⟨rfl, rfl⟩ | ⟨rfl, rfl⟩
  · simp only [eqGuard, binOp]; simp [Op.equal, Op.maxDepth, h 9999]
  · simp only [eqGuard, binOp]; simp [Op.equal, Op.maxDepth, h 9999]
theorem eqSl_rd {op : BinOp} {e : Bool} {ρ : Slots} {x y : Operand} {t t' : TypeId} {a : Addr} {n c : Nat} (ho : o.op = .binOp op t x y t') (he : eqOp op = some e) (ht : slTy P t = true) (hx : ev ρ x = some (.slice (some a) n c)) (hy : ev ρ y = some (.slice none 0 0)) : Rd P o ρ Γ (.bool (!e)) := by
  obtain ⟨te, h1⟩ := slTy_ok ht
  refine Rd.bin ho hx hy fun w => ?_
  have h : (Op.equal t (.slice (some a) n c) (.slice none 0 0)).run P w = .ok false w := by
    have key : ∀ d, (Op.equalIn (d + 1) t (.slice (some a) n c) (.slice none 0 0)).run P w = .ok false w := fun d => by
      simp [Op.equalIn, run_underlying h1]
    exact key 9999
  rcases eqOp_ok he with ⟨rfl, rfl⟩ | ⟨rfl, rfl⟩
  · simp [eqGuard, binOp, h]
  · simp [eqGuard, binOp, h]
theorem evv {x : Operand} (h : aev ρ x = some v) {u : Value} (hu : val σ v = u := by first | (simp only [val]; done) | (simp only [val]; rfl)) : ev (inst σ ρ) x = some u := by rw [ev_inst (σ := σ) h, hu]
theorem moveA_rd (h : moveA P ρ o.op = some v) : Rd P o (inst σ ρ) Γ (val σ v) := by
  generalize ho : o.op = op at h
  unfold moveA at h
  split at h
  · exact Rd.move ho (ev_inst h)
  · exact Rd.assign ho (ev_inst h)
  · split at h
    · rename_i hc; exact Rd.pickT ho (evv hc) (ev_inst h)
    · rename_i hc; exact Rd.pickF ho (evv hc) (ev_inst h)
    · cases h
  · split at h
    · rename_i l hx
      refine Rd.extract (vs := vals σ l) ho (evv hx) ?_
      rw [vals_map, List.getElem?_map, h]; rfl
    · cases h
  · split at h
    · rename_i hx; cases h; simp only [val]; exact Rd.nilCheck ho (evv hx)
    · rename_i hx; cases h; simp only [val]; exact Rd.nilCheckF ho (evv hx)
    · cases h
  · split at h
    · rename_i hx; cases h; simp only [val]; exact Rd.not ho (evv hx)
    · cases h
  · split at h
    · rename_i hx hy
      cases hk : kindB _ _ with
      | false => rw [hk] at h; cases h
      | true =>
        rw [hk] at h
        have e := of_decide_eq_true hk
        subst e
        exact binA_rd ho (evv hx) (evv hy) h
    · rename_i hx hy
      exact binS_rd ho (evv hx) (evv hy) h
    · rename_i hx hy
      split at h
      · rename_i e he
        cases hp : ptrTy P _ with
        | false => rw [hp] at h; cases h
        | true => rw [hp] at h; cases h; simp only [val]; exact eqNil_rd ho he hp (evv hx) (evv hy)
      · cases h
    · rename_i i q j r hx hy
      split at h
      · rename_i e he
        cases hp : (ptrTy P _ && Nat.beq i j && Nat.beq q r) with
        | false => rw [hp] at h; cases h
        | true =>
          rw [hp] at h; cases h
          simp only [Bool.and_eq_true] at hp
          obtain ⟨⟨h1, h2⟩, h3⟩ := hp
          have e1 := Nat.eq_of_beq_eq_true h2
          have e2 := Nat.eq_of_beq_eq_true h3
          subst e1 e2
          simp only [val]; exact eqPtr_rd ho he h1 (evv hx) (evv hy)
      · cases h
    · rename_i hx hy
      split at h
      · rename_i e he
        cases hp : slTy P _ with
        | false => rw [hp] at h; cases h
        | true => rw [hp] at h; cases h; simp only [val]; exact eqSl_rd ho he hp (evv hx) (evv hy)
      · cases h
    · rename_i hx hy
      split at h
      · rename_i e he
        cases hp : slTy P _ with
        | false => rw [hp] at h; cases h
        | true => rw [hp] at h; cases h; simp only [val]; exact eqSl_rd ho he hp (evv hx) (evv hy)
      · cases h
    · cases h
  · cases h
theorem bel_get {l : List AV} {i : Nat} (hb : bels k l) (h : l[i]? = some v) : bel k v := bels_iff.1 hb v (List.mem_of_getElem? h)
theorem bel_binA {op : BinOp} {K : IntKind} {m n : Int} (h : binA op K m n = some v) : bel k v := by
  unfold binA at h
  split at h <;> first | (simp only [Option.some.injEq] at h; subst h; simp [bel]) | cases h
theorem bel_binS {op : BinOp} {a b : List Nat} (h : binS op a b = some v) : bel k v := by
  unfold binS at h
  split at h
  · cases h; simp [bel]
  · cases h; simp [bel]
  · cases hb : Nat.ble (a.length + b.length) 9223372036854775807 with
    | false => rw [hb] at h; cases h
    | true => rw [hb] at h; cases h; simp [bel]
  · cases h
theorem bel_bif {c : Bool} {u v : AV} (h : (bif c then some u else none) = some v) (hu : bel k u) : bel k v := by
  cases c with
  | false => cases h
  | true => cases h; exact hu
theorem bel_moveA {op : Op} (hk : 4096 ≤ k) (hb : belS k ρ) (h : moveA P ρ op = some v) : bel k v := by
  unfold moveA at h
  split at h
  · exact bel_aev hk hb h
  · exact bel_aev hk hb h
  · split at h
    · exact bel_aev hk hb h
    · exact bel_aev hk hb h
    · cases h
  · split at h
    · rename_i l hx; have h2 := bel_aev hk hb hx; simp only [bel] at h2; exact bel_get h2 h
    · cases h
  · split at h
    · rename_i hx; cases h; exact bel_aev hk hb hx
    · rename_i hx; cases h; exact bel_aev hk hb hx
    · cases h
  · split at h
    · cases h; simp [bel]
    · cases h
  · split at h
    · cases hk : kindB _ _ with
      | false => rw [hk] at h; cases h
      | true => rw [hk] at h; exact bel_binA h
    · exact bel_binS h
    · split at h
      · exact bel_bif h (by simp [bel])
      · cases h
    · split at h
      · exact bel_bif h (by simp [bel])
      · cases h
    · split at h
      · exact bel_bif h (by simp [bel])
      · cases h
    · split at h
      · exact bel_bif h (by simp [bel])
      · cases h
    · cases h
  · cases h
end
end Go.In
