/- The interpreter of known runs: a region that draws its order. Own text. -/
import Derived.Test.YtfkmjkooemjekaaGreatDoorA12
set_option linter.unusedVariables false
set_option linter.unusedSimpArgs false
namespace Go.In
open Go.RowKit Go.Flow Go.Mem Go.Sep
mutual
def eqV : AV → AV → Bool
  | .bool a, .bool b => a == b
  | .int k m, .int k' n => kindB k k' && decide (m = n)
  | .str a, .str b => eqL a b
  | .ptr i q, .ptr j r => Nat.beq i j && Nat.beq q r
  | .nilp, .nilp => true
  | .sl a b c d, .sl e f g h => Nat.beq a e && Nat.beq b f && Nat.beq c g && Nat.beq d h
  | .slu a b c d x, .slu e f g h y => Nat.beq a e && Nat.beq b f && Nat.beq c g && Nat.beq d h && Nat.beq x y
  | .nils, .nils => true
  | .mp i, .mp j => Nat.beq i j
  | .nilm, .nilm => true
  | .nilf, .nilf => true
  | .nili, .nili => true
  | .und, .und => true
  | .fn f a b, .fn g c d => Nat.beq f g && eqVs a c && eqVs b d
  | .ifc t v, .ifc u w => Nat.beq t u && eqV v w
  | .agg a, .agg b => eqVs a b
  | .tup a, .tup b => eqVs a b
  | _, _ => false
def eqVs : List AV → List AV → Bool
  | [], [] => true
  | a :: x, b :: y => eqV a b && eqVs x y
  | _, _ => false
def eqL : List Nat → List Nat → Bool
  | [], [] => true
  | a :: x, b :: y => Nat.beq a b && eqL x y
  | _, _ => false
end
theorem eqL_ok : ∀ {a b : List Nat}, eqL a b = true → a = b
  | [], [], _ => rfl
  | [], _ :: _, h => by simp [eqL] at h
  | _ :: _, [], h => by simp [eqL] at h
  | a :: x, b :: y, h => by simp only [eqL, Bool.and_eq_true] at h; rw [Nat.eq_of_beq_eq_true h.1, eqL_ok h.2]
mutual
theorem eqV_ok : ∀ (a b : AV), eqV a b = true → a = b
  | .bool _, b, h => by cases b <;> simp [eqV] at h; rw [h]
  | .int _ _, b, h => by
    cases b <;> simp [eqV, kindB] at h
    rw [h.1, h.2]
  | .str _, b, h => by cases b <;> simp [eqV] at h; rw [eqL_ok h]
  | .ptr _ _, b, h => by
    cases b <;> simp [eqV] at h
    rw [h.1, h.2]
  | .nilp, b, h => by cases b <;> simp [eqV] at h; rfl
  | .sl _ _ _ _, b, h => by
    cases b <;> simp [eqV] at h
    rw [h.1.1.1, h.1.1.2, h.1.2, h.2]
  | .slu _ _ _ _ _, b, h => by
    cases b <;> simp [eqV] at h
    rw [h.1.1.1.1, h.1.1.1.2, h.1.1.2, h.1.2, h.2]
  | .nils, b, h => by cases b <;> simp [eqV] at h; rfl
  | .mp _, b, h => by cases b <;> simp [eqV] at h; rw [h]
  | .nilm, b, h => by cases b <;> simp [eqV] at h; rfl
  | .nilf, b, h => by cases b <;> simp [eqV] at h; rfl
  | .nili, b, h => by cases b <;> simp [eqV] at h; rfl
  | .und, b, h => by cases b <;> simp [eqV] at h; rfl
  | .fn _ x y, b, h => by
    cases b <;> simp [eqV] at h
    rw [h.1.1, eqVs_ok x _ h.1.2, eqVs_ok y _ h.2]
  | .ifc _ v, b, h => by
    cases b <;> simp [eqV] at h
    rw [h.1, eqV_ok v _ h.2]
  | .agg x, b, h => by
    cases b <;> simp [eqV] at h
    rw [eqVs_ok x _ h]
  | .tup x, b, h => by
    cases b <;> simp [eqV] at h
    rw [eqVs_ok x _ h]
theorem eqVs_ok : ∀ (a b : List AV), eqVs a b = true → a = b
  | [], b, h => by cases b <;> simp [eqVs] at h; rfl
  | v :: x, b, h => by
    cases b with
    | nil => simp [eqVs] at h
    | cons w y =>
      simp only [eqVs, Bool.and_eq_true] at h
      rw [eqV_ok v w h.1, eqVs_ok x y h.2]
end
def eqK : MK → MK → Bool
  | .box t, .box u => Nat.beq t u
  | .row a b c d, .row e f g h => Nat.beq a e && Nat.beq b f && Nat.beq c g && acEq d h
  | .ro, .ro => true
  | _, _ => false
theorem eqK_ok {a b : MK} (h : eqK a b = true) : a = b := by
  cases a <;> cases b <;> first | (cases h; done) | (simp [eqK] at h)
  · rw [h]
  · rw [h.1.1.1, h.1.1.2, h.1.2, acEq_ok h.2]
  · rfl
def thB : List MC → List MC → Bool
  | [], _ => true
  | c :: r, M => (match find M c.i with
    | some (_, b) => eqK c.kd b.kd && eqVs c.cs b.cs
    | none => false) && thB r M
def News := List (Nat × List MC)
def flatN (N : List (Nat × List MC)) : List MC := N.flatMap (·.2)
def availN (N : List (Nat × List MC)) (deps : List Nat) : List MC := N.flatMap fun n => bif deps.any (Nat.beq n.1) then n.2 else []
def newsV (σ : Nat → Nat) (N : List (Nat × List MC)) : Sep.News := N.map fun n => (n.1, mem σ n.2)
def roM : List MC → List MC
  | [] => []
  | c :: r => match cellsM c with
    | some cs => ⟨c.i, .ro, cs⟩ :: roM r
    | none => roM r
def isRo (c : MC) : Bool :=
  match c.kd with
  | .ro => true
  | _ => false
def newM (k : Nat) (M : List MC) : List MC := M.filter fun c => Nat.ble k c.i && !isRo c
mutual
def belB (k : Nat) : AV → Bool
  | .ptr i _ => Nat.blt i k
  | .sl i _ _ _ => Nat.blt i k
  | .slu i _ _ c _ => Nat.blt i k && Nat.blt c k
  | .mp i => Nat.blt i k
  | .fn _ a b => belsB k a && belsB k b
  | .ifc _ v => belB k v
  | .agg l => belsB k l
  | .tup l => belsB k l
  | _ => true
def belsB (k : Nat) : List AV → Bool
  | [] => true
  | v :: l => belB k v && belsB k l
end
mutual
theorem belB_ok {k : Nat} : ∀ (v : AV), belB k v = true → bel k v
  | .ptr _ _, h => by simp only [belB] at h; simp only [bel]; exact Nat.le_of_ble_eq_true h
  | .sl _ _ _ _, h => by simp only [belB] at h; simp only [bel]; exact Nat.le_of_ble_eq_true h
  | .slu _ _ _ _ _, h => by simp only [belB, Bool.and_eq_true] at h; simp only [bel]; exact ⟨Nat.le_of_ble_eq_true h.1, Nat.le_of_ble_eq_true h.2⟩
  | .mp _, h => by simp only [belB] at h; simp only [bel]; exact Nat.le_of_ble_eq_true h
  | .fn _ a b, h => by simp only [belB, Bool.and_eq_true] at h; simp only [bel]; exact ⟨belsB_ok a h.1, belsB_ok b h.2⟩
  | .ifc _ v, h => by simp only [belB] at h; simp only [bel]; exact belB_ok v h
  | .agg l, h => by simp only [belB] at h; simp only [bel]; exact belsB_ok l h
  | .tup l, h => by simp only [belB] at h; simp only [bel]; exact belsB_ok l h
  | .bool _, _ => by simp only [bel]
  | .int _ _, _ => by simp only [bel]
  | .str _, _ => by simp only [bel]
  | .nilp, _ => by simp only [bel]
  | .nils, _ => by simp only [bel]
  | .nilm, _ => by simp only [bel]
  | .nilf, _ => by simp only [bel]
  | .nili, _ => by simp only [bel]
  | .und, _ => by simp only [bel]
theorem belsB_ok {k : Nat} : ∀ (l : List AV), belsB k l = true → bels k l
  | [], _ => by simp only [bels]
  | v :: l, h => by simp only [belsB, Bool.and_eq_true] at h; simp only [bels]; exact ⟨belB_ok v h.1, belsB_ok l h.2⟩
end
structure FS where
  ρ : ASlots
  M : List MC
  N : List (Nat × List MC)
  k : Nat
def notIn (i : Nat) : List (Nat × List MC) → Bool
  | [] => true
  | n :: r => !Nat.beq n.1 i && notIn i r
def flow1 {P : Program} (S : Same P) (F : CallF) (n : Nat) (l : List Oper) (Th : List MC) (m : Meta) (s : FS) : Option FS :=
  match l[m.i]? with
  | none => none
  | some o => match grdA l.toArray s.ρ o with
    | none => none
    | some false => match o.dst with
      | some d => bif Nat.blt d n then (match m.kind with
        | 0 => some ⟨(d, .und) :: s.ρ, s.M, s.N, s.k⟩
        | 1 => some ⟨(d, .und) :: s.ρ, s.M, s.N, s.k⟩
        | 2 => bif notIn m.i s.N then some ⟨(d, .und) :: s.ρ, s.M, (m.i, []) :: s.N, s.k⟩ else none
        | 3 => some ⟨(d, .und) :: s.ρ, s.M, s.N, s.k⟩
        | _ => none) else none
      | none => none
    | some true => match m.kind with
      | 0 => match o.dst, execA S s.k s.ρ Th o with
        | some d, some (.val v) => bif Nat.blt d n then some ⟨(d, v) :: s.ρ, s.M, s.N, s.k⟩ else none
        | _, _ => none
      | 1 => match o.dst, execA S s.k s.ρ (availN s.N m.deps ++ s.M) o with
        | some d, some (.val v) => bif Nat.blt d n then some ⟨(d, v) :: s.ρ, s.M, s.N, s.k⟩ else none
        | _, _ => none
      | 2 => match o.dst, execA S s.k s.ρ (availN s.N m.deps ++ s.M) o with
        | some d, some (.mk v N k') => bif Nat.blt d n && notIn m.i s.N then some ⟨(d, v) :: s.ρ, s.M, (m.i, N) :: s.N, k'⟩ else none
        | _, _ => none
      | 3 => match o.dst, entA P s.ρ o.op with
        | some d, some (f, vs) => match F f vs (roM (availN s.N m.deps ++ s.M)) s.k with
          | some (v, _, _) => bif Nat.blt d n && belB s.k v then some ⟨(d, v) :: s.ρ, s.M, s.N, s.k⟩ else none
          | none => none
        | _, _ => none
      | 4 => match o.dst, entA P s.ρ o.op with
        | some d, some (f, vs) => match F f vs (roM (availN s.N m.deps ++ s.M)) s.k with
          | some (v, M', k') => bif Nat.blt d n && notIn m.i s.N && o.guard.isNone then some ⟨(d, v) :: s.ρ, s.M, (m.i, newM s.k M') :: s.N, k'⟩ else none
          | none => none
        | _, _ => none
      | 5 => bif o.guard.isNone then (match execA S s.k s.ρ (flatN s.N ++ s.M) o with
        | some r => match putA n o.dst ⟨s.ρ, flatN s.N ++ s.M, s.k⟩ r with
          | some s' => bif thB Th s'.M then some ⟨s'.ρ, s'.M, [], s'.k⟩ else none
          | none => none
        | none => match entA P s.ρ o.op, o.dst with
          | some (f, vs), some d => match F f vs (flatN s.N ++ s.M) s.k with
            | some (v, M', k') => bif Nat.blt d n && thB Th M' then some ⟨(d, v) :: s.ρ, M', [], k'⟩ else none
            | none => none
          | _, _ => none) else none
      | _ => none
def flowA {P : Program} (S : Same P) (F : CallF) (n : Nat) (l : List Oper) (Th : List MC) : List Meta → FS → Option FS
  | [], s => some s
  | m :: r, s => match flow1 S F n l Th m s with
    | some s' => flowA S F n l Th r s'
    | none => none
end Go.In
