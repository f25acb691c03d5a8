/- The interpreter of known runs: its values (blocks by place), and what they stand for. Own text. -/
import Derived.Test.YtfkmjkooemjekaaGreatDoorL1
import Derived.Test.YtfkmjkooemjekaaGreatDoorL2
import Derived.Test.YtfkmjkooemjekaaGreatDoorL3
set_option linter.unusedVariables false
set_option linter.unusedSimpArgs false
namespace Go.In
open Go.RowKit Go.Flow Go.Mem Go.Sep
inductive AV where
  | bool (b : Bool)
  | int (k : IntKind) (n : Int)
  | str (s : List Nat)
  | ptr (i off : Nat)
  | nilp
  | sl (i off len cap : Nat)
  | slu (i off len c d : Nat)
  | nils
  | mp (i : Nat)
  | nilm
  | nilf
  | nili
  | und
  | fn (f : FuncId) (fst cap : List AV)
  | ifc (t : TypeId) (v : AV)
  | agg (l : List AV)
  | tup (l : List AV)
def bl (σ : Nat → Nat) (i : Nat) : Nat := bif Nat.blt i 4096 then i else σ i
def bytesOf (l : List Nat) : ByteArray := ⟨(l.map UInt8.ofNat).toArray⟩
mutual
def val (σ : Nat → Nat) : AV → Value
  | .bool b => .bool b
  | .int k n => .int k n
  | .str s => .string (bytesOf s)
  | .ptr i o => .pointer (some ⟨bl σ i, o, none⟩)
  | .nilp => .pointer none
  | .sl i o l c => .slice (some ⟨bl σ i, o, none⟩) l c
  | .slu i o l c d => .slice (some ⟨bl σ i, o, none⟩) l (d + σ c)
  | .nils => .slice none 0 0
  | .mp i => .map (some (bl σ i))
  | .nilm => .map none
  | .nilf => .nilFunc
  | .nili => .nilIface
  | .und => undef
  | .fn f fst cap => .func (.func f) (vals σ fst).toArray (vals σ cap).toArray
  | .ifc t v => .iface t (val σ v)
  | .agg l => .agg (vals σ l).toArray
  | .tup l => .tuple (vals σ l).toArray
def vals (σ : Nat → Nat) : List AV → List Value
  | [] => []
  | v :: l => val σ v :: vals σ l
end
abbrev ASlots := List (Nat × AV)
def alook : ASlots → Nat → Option AV
  | [], _ => none
  | (k, v) :: r, t => bif Nat.beq k t then some v else alook r t
def ofc : Value → Option AV
  | .bool b => some (.bool b)
  | .int k n => some (.int k n)
  | .string s => some (.str (s.data.toList.map UInt8.toNat))
  | .pointer none => some .nilp
  | .slice none 0 0 => some .nils
  | .map none => some .nilm
  | .nilFunc => some .nilf
  | .nilIface => some .nili
  | _ => none
def ofcs : List Value → Option (List AV)
  | [] => some []
  | u :: r => match ofc u, ofcs r with
    | some v, some l => some (v :: l)
    | _, _ => none
def back : Value → Option AV
  | .tuple l => (ofcs l.toList).map .tup
  | .agg l => (ofcs l.toList).map .agg
  | u => ofc u
def aev (ρ : ASlots) : Operand → Option AV
  | .tmp t => alook ρ t
  | .const v => back v
  | .global g => bif Nat.blt g 4096 then some (.ptr g 0) else none
  | .func f => some (.fn f [] [])
def aevs (ρ : ASlots) : List Operand → Option (List AV)
  | [] => some []
  | x :: r => match aev ρ x, aevs ρ r with
    | some v, some l => some (v :: l)
    | _, _ => none
def inst (σ : Nat → Nat) (ρ : ASlots) : Slots := ρ.map fun p => (p.1, val σ p.2)
theorem vals_map (σ : Nat → Nat) : ∀ l : List AV, vals σ l = l.map (val σ)
  | [] => by simp only [vals, List.map_nil]
  | v :: l => by simp only [vals, List.map_cons, vals_map σ l]
theorem look_inst (σ : Nat → Nat) : ∀ {ρ : ASlots} {t : Nat} {v : AV}, alook ρ t = some v → Sep.look (inst σ ρ) t = some (val σ v)
  | [], _, _, h => by simp [alook] at h
  | (k, u) :: r, t, v, h => by
    unfold alook at h
    show (bif Nat.beq k t then some (val σ u) else Sep.look (inst σ r) t) = _
    cases hb : Nat.beq k t with
    | true => rw [hb] at h; simp only [cond_true, Option.some.injEq] at h ⊢; rw [h]
    | false => rw [hb] at h; simp only [cond_false] at h ⊢; exact look_inst σ h
theorem bytes_back (s : ByteArray) : bytesOf (s.data.toList.map UInt8.toNat) = s := by
  obtain ⟨⟨l⟩⟩ := s
  unfold bytesOf
  simp [List.map_map, Function.comp_def]
theorem ofc_val {σ : Nat → Nat} {u : Value} {v : AV} (h : ofc u = some v) : u = val σ v := by
  unfold ofc at h
  split at h <;> first | (simp only [Option.some.injEq] at h; subst h; simp [val, bytes_back]) | cases h
theorem ofcs_val {σ : Nat → Nat} : ∀ {us : List Value} {l : List AV}, ofcs us = some l → us = vals σ l
  | [], l, h => by simp only [ofcs, Option.some.injEq] at h; subst h; rfl
  | u :: r, l, h => by
    unfold ofcs at h
    split at h
    · rename_i v l' h1 h2
      simp only [Option.some.injEq] at h; subst h
      simp only [vals, ← ofc_val (σ := σ) h1, ← ofcs_val (σ := σ) h2]
    · cases h
theorem back_val {u : Value} {v : AV} (h : back u = some v) (σ : Nat → Nat) : u = val σ v := by
  unfold back at h
  split at h
  · rename_i l
    obtain ⟨l', h1, rfl⟩ := Option.map_eq_some_iff.1 h
    simp only [val, ← ofcs_val (σ := σ) h1]
  · rename_i l
    obtain ⟨l', h1, rfl⟩ := Option.map_eq_some_iff.1 h
    simp only [val, ← ofcs_val (σ := σ) h1]
  · exact ofc_val h
theorem ev_inst {σ : Nat → Nat} {ρ : ASlots} {x : Operand} {v : AV} (h : aev ρ x = some v) : ev (inst σ ρ) x = some (val σ v) := by
  cases x with
  | tmp t => exact look_inst σ h
  | const u => exact congrArg some (back_val h σ)
  | global g =>
    have h : (bif Nat.blt g 4096 then some (AV.ptr g 0) else none) = some v := h
    cases hb : Nat.blt g 4096 with
    | false => rw [hb] at h; cases h
    | true => rw [hb] at h; simp only [cond_true, Option.some.injEq] at h; subst h; simp only [ev, val, bl, hb, cond_true]
  | func f => simp only [aev, Option.some.injEq] at h; subst h; simp [ev, val, vals]
theorem evs_inst {σ : Nat → Nat} {ρ : ASlots} : ∀ {xs : List Operand} {l : List AV}, aevs ρ xs = some l → evs (inst σ ρ) xs = some (vals σ l)
  | [], l, h => by simp only [aevs, Option.some.injEq] at h; subst h; simp [evs, vals]
  | x :: r, l, h => by
    unfold aevs at h
    split at h
    · rename_i v l' h1 h2
      simp only [Option.some.injEq] at h; subst h
      simp only [evs, ev_inst (σ := σ) h1, evs_inst (σ := σ) h2, vals]
    · cases h
mutual
def bel (k : Nat) : AV → Prop
  | .ptr i _ => i < k
  | .sl i _ _ _ => i < k
  | .slu i _ _ c _ => i < k ∧ c < k
  | .mp i => i < k
  | .fn _ fst cap => bels k fst ∧ bels k cap
  | .ifc _ v => bel k v
  | .agg l => bels k l
  | .tup l => bels k l
  | _ => True
def bels (k : Nat) : List AV → Prop
  | [] => True
  | v :: l => bel k v ∧ bels k l
end
theorem bels_iff {k : Nat} : ∀ {l : List AV}, bels k l ↔ ∀ v ∈ l, bel k v
  | [] => by simp [bels]
  | v :: l => by simp only [bels, List.mem_cons, forall_eq_or_imp, bels_iff (l := l)]
theorem bl_ext {k : Nat} {σ σ' : Nat → Nat} (he : ∀ i, i < k → σ i = σ' i) {i : Nat} (h : i < k) : bl σ i = bl σ' i := by unfold bl; rw [he i h]
mutual
theorem val_ext {k : Nat} {σ σ' : Nat → Nat} (he : ∀ i, i < k → σ i = σ' i) : ∀ v : AV, bel k v → val σ v = val σ' v
  | .ptr i _, h => by simp only [bel] at h; simp only [val, bl_ext he h]
  | .sl i _ _ _, h => by simp only [bel] at h; simp only [val, bl_ext he h]
  | .slu i _ _ c _, h => by simp only [bel] at h; simp only [val, bl_ext he h.1, he c h.2]
  | .mp i, h => by simp only [bel] at h; simp only [val, bl_ext he h]
  | .fn _ fst cap, h => by simp only [bel] at h; simp only [val, vals_ext he fst h.1, vals_ext he cap h.2]
  | .ifc _ v, h => by simp only [bel] at h; simp only [val, val_ext he v h]
  | .agg l, h => by simp only [bel] at h; simp only [val, vals_ext he l h]
  | .tup l, h => by simp only [bel] at h; simp only [val, vals_ext he l h]
  | .bool _, _ => by simp only [val]
  | .int _ _, _ => by simp only [val]
  | .str _, _ => by simp only [val]
  | .nilp, _ => by simp only [val]
  | .nils, _ => by simp only [val]
  | .nilm, _ => by simp only [val]
  | .nilf, _ => by simp only [val]
  | .nili, _ => by simp only [val]
  | .und, _ => by simp only [val]
theorem vals_ext {k : Nat} {σ σ' : Nat → Nat} (he : ∀ i, i < k → σ i = σ' i) : ∀ l : List AV, bels k l → vals σ l = vals σ' l
  | [], _ => by simp only [vals]
  | v :: l, h => by simp only [bels] at h; simp only [vals, val_ext he v h.1, vals_ext he l h.2]
end
mutual
theorem bel_up {k k' : Nat} (hk : k ≤ k') : ∀ v : AV, bel k v → bel k' v
  | .ptr i _, h => by simp only [bel] at h ⊢; omega
  | .sl i _ _ _, h => by simp only [bel] at h ⊢; omega
  | .slu i _ _ _ _, h => by simp only [bel] at h ⊢; omega
  | .mp i, h => by simp only [bel] at h ⊢; omega
  | .fn _ fst cap, h => by simp only [bel] at h ⊢; exact ⟨bels_up hk fst h.1, bels_up hk cap h.2⟩
  | .ifc _ v, h => by simp only [bel] at h ⊢; exact bel_up hk v h
  | .agg l, h => by simp only [bel] at h ⊢; exact bels_up hk l h
  | .tup l, h => by simp only [bel] at h ⊢; exact bels_up hk l h
  | .bool _, _ => by simp only [bel]
  | .int _ _, _ => by simp only [bel]
  | .str _, _ => by simp only [bel]
  | .nilp, _ => by simp only [bel]
  | .nils, _ => by simp only [bel]
  | .nilm, _ => by simp only [bel]
  | .nilf, _ => by simp only [bel]
  | .nili, _ => by simp only [bel]
  | .und, _ => by simp only [bel]
theorem bels_up {k k' : Nat} (hk : k ≤ k') : ∀ l : List AV, bels k l → bels k' l
  | [], _ => by simp only [bels]
  | v :: l, h => by simp only [bels] at h ⊢; exact ⟨bel_up hk v h.1, bels_up hk l h.2⟩
end
def belS (k : Nat) (ρ : ASlots) : Prop := ∀ p ∈ ρ, bel k p.2
theorem inst_ext {k : Nat} {σ σ' : Nat → Nat} (he : ∀ i, i < k → σ i = σ' i) {ρ : ASlots} (h : belS k ρ) : inst σ ρ = inst σ' ρ := by
  unfold inst
  exact List.map_congr_left fun p hp => by rw [val_ext he p.2 (h p hp)]
theorem bel_look {k : Nat} : ∀ {ρ : ASlots} {t : Nat} {v : AV}, belS k ρ → alook ρ t = some v → bel k v
  | [], _, _, _, h => by simp [alook] at h
  | (i, u) :: r, t, v, hb, h => by
    unfold alook at h
    cases hi : Nat.beq i t with
    | true => rw [hi] at h; simp only [cond_true, Option.some.injEq] at h; subst h; exact hb _ (List.mem_cons_self ..)
    | false => rw [hi] at h; simp only [cond_false] at h; exact bel_look (fun p hp => hb p (List.mem_cons_of_mem _ hp)) h
theorem bel_ofc {k : Nat} {u : Value} {v : AV} (h : ofc u = some v) : bel k v := by
  unfold ofc at h
  split at h <;> first | (simp only [Option.some.injEq] at h; subst h; simp [bel]) | cases h
theorem bels_ofcs {k : Nat} : ∀ {us : List Value} {l : List AV}, ofcs us = some l → bels k l
  | [], l, h => by simp only [ofcs, Option.some.injEq] at h; subst h; simp [bels]
  | u :: r, l, h => by
    unfold ofcs at h
    split at h
    · rename_i v l' h1 h2
      simp only [Option.some.injEq] at h; subst h
      simp only [bels]
      exact ⟨bel_ofc h1, bels_ofcs h2⟩
    · cases h
theorem bel_back {u : Value} {v : AV} {k : Nat} (h : back u = some v) : bel k v := by
  unfold back at h
  split at h
  · obtain ⟨l', h1, rfl⟩ := Option.map_eq_some_iff.1 h
    simp only [bel]; exact bels_ofcs h1
  · obtain ⟨l', h1, rfl⟩ := Option.map_eq_some_iff.1 h
    simp only [bel]; exact bels_ofcs h1
  · exact bel_ofc h
theorem bel_aev {k : Nat} (hk : 4096 ≤ k) {ρ : ASlots} {x : Operand} {v : AV} (hb : belS k ρ) (h : aev ρ x = some v) : bel k v := by
  cases x with
  | tmp t => exact bel_look hb h
  | const u => exact bel_back h
  | global g =>
    have h' : (bif Nat.blt g 4096 then some (AV.ptr g 0) else none) = some v := h
    cases hg : Nat.blt g 4096 with
    | false => rw [hg] at h'; cases h'
    | true =>
      rw [hg] at h'; simp only [cond_true, Option.some.injEq] at h'; subst h'
      simp only [bel]
      exact Nat.lt_of_lt_of_le (Nat.le_of_ble_eq_true hg) hk
  | func f => simp only [aev, Option.some.injEq] at h; subst h; simp [bel, bels]
theorem bel_aevs {k : Nat} (hk : 4096 ≤ k) {ρ : ASlots} (hb : belS k ρ) : ∀ {xs : List Operand} {l : List AV}, aevs ρ xs = some l → bels k l
  | [], l, h => by simp only [aevs, Option.some.injEq] at h; subst h; simp [bels]
  | x :: r, l, h => by
    unfold aevs at h
    split at h
    · rename_i v l' h1 h2
      simp only [Option.some.injEq] at h; subst h
      simp only [bels]
      exact ⟨bel_aev hk hb h1, bel_aevs hk hb h2⟩
    · cases h
end Go.In
