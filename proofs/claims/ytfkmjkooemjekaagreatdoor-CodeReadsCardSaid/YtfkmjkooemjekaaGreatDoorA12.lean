/- The interpreter of known runs: an undrawn region. Own text. -/
import Derived.Test.YtfkmjkooemjekaaGreatDoorA11
set_option linter.unusedVariables false
set_option linter.unusedSimpArgs false
namespace Go.In
open Go.RowKit Go.Flow Go.Mem Go.Sep
def grdA (ops : Array Oper) (ρ : ASlots) (o : Oper) : Option Bool :=
  match o.guard with
  | none => some true
  | some (j, s) => match ops[j]? with
    | some p => match p.dst with
      | some d => match alook ρ d with
        | some (.bool b) => some (b == s)
        | some .und => some false
        | _ => none
      | none => none
    | none => none
structure St where
  ρ : ASlots
  M : List MC
  k : Nat
structure St.Good (s : St) : Prop where
  big : 4096 ≤ s.k
  sl : belS s.k s.ρ
  me : belM s.k s.M
abbrev CallF := Nat → List AV → List MC → Nat → Option (AV × List MC × Nat)
structure Known (P : Program) (f : FuncId) (vs : List AV) (M : List MC) (k : Nat) (v : AV) (M' : List MC) (k' : Nat) : Prop where
  le : k ≤ k'
  bval : bel k' v
  bmem : belM k' M'
  does : ∀ σ, Does P f (vals σ vs) (mem σ M) (Outs k σ v M')
def CallsOk (P : Program) (F : CallF) : Prop := ∀ f vs M k v M' k', F f vs M k = some (v, M', k') → 4096 ≤ k → bels k vs → belM k M → Known P f vs M k v M' k'
def putA (n : Nat) (d : Option Nat) (s : St) : Res → Option St
  | .val v => match d with
    | some d => bif Nat.blt d n then some ⟨(d, v) :: s.ρ, s.M, s.k⟩ else none
    | none => none
  | .up M' => match d with
    | some _ => none
    | none => some ⟨s.ρ, M', s.k⟩
  | .mk v N k' => match d with
    | some d => bif Nat.blt d n then some ⟨(d, v) :: s.ρ, N ++ s.M, k'⟩ else none
    | none => none
  | .ge v M' k' => match d with
    | some d => bif Nat.blt d n then some ⟨(d, v) :: s.ρ, M', k'⟩ else none
    | none => none
def stepA {P : Program} (S : Same P) (F : CallF) (n : Nat) (ops : Array Oper) (o : Oper) (s : St) : Option St :=
  match grdA ops s.ρ o with
  | none => none
  | some false => match o.dst with
    | some d => bif Nat.blt d n then some ⟨(d, .und) :: s.ρ, s.M, s.k⟩ else none
    | none => none
  | some true => match execA S s.k s.ρ s.M o with
    | some r => putA n o.dst s r
    | none => match entA P s.ρ o.op, o.dst with
      | some (f, vs), some d => match F f vs s.M s.k with
        | some (v, M', k') => bif Nat.blt d n then some ⟨(d, v) :: s.ρ, M', k'⟩ else none
        | none => none
      | _, _ => none
def runL {P : Program} (S : Same P) (F : CallF) (n : Nat) (ops : Array Oper) : List Oper → St → Option St
  | [], s => some s
  | o :: r, s => match stepA S F n ops o s with
    | some s' => runL S F n ops r s'
    | none => none
def Goes (C : Cx) (s s' : St) (K' K : Act → World → Prop) : Prop :=
  ∀ σ, (∀ σ', Sup s.k σ σ' → To C (inst σ' s'.ρ) (mem σ' s'.M) K') → To C (inst σ s.ρ) (mem σ s.M) K
theorem Goes.trans {C : Cx} {s s' s'' : St} {K K' K'' : Act → World → Prop} (hk : s.k ≤ s'.k) (h : Goes C s s' K' K) (h' : Goes C s' s'' K'' K') : Goes C s s'' K'' K :=
  fun σ k => h σ fun σ' he => h' σ' fun σ'' he' => k σ'' (Sup.trans hk he he')
theorem Goes.refl {C : Cx} {s : St} {K : Act → World → Prop} : Goes C s s K K := fun σ k => k σ fun _ _ => rfl
theorem pull_all : ∀ Γ : List Chunk, pull Γ (List.replicate Γ.length 0) = some (Γ, [])
  | [] => rfl
  | c :: Γ => by
    have h := pull_all Γ
    simp only [List.length_cons, List.replicate_succ]
    unfold pull
    simp [h]
section
variable {P : Program} {S : Same P} {F : CallF} {o : Oper} {s s' : St} {σ : Nat → Nat} {v : AV} {ops : Array Oper} {C : Cx} {Q : Exit → Act → World → Prop} {rest : List Oper} {d : Nat}
theorem grdA_grd {ρ : ASlots} {b : Bool} (h : grdA ops ρ o = some b) : grd ops (inst σ ρ) o = some b := by
  unfold grdA at h
  unfold grd
  cases hg : o.guard with
  | none => rw [hg] at h; exact h
  | some p =>
    obtain ⟨j, q⟩ := p
    rw [hg] at h
    simp only at h ⊢
    split at h
    · rename_i p hp
      split at h
      · rename_i d hd
        split at h
        · rename_i c hl
          simp only [hp, Option.bind_some, hd, look_inst σ hl, val]
          exact h
        · rename_i hl
          simp only [hp, Option.bind_some, hd, look_inst σ hl, val]
          exact h
        · cases h
      · cases h
    · cases h
theorem belS_cons {k : Nat} {ρ : ASlots} (hv : bel k v) (h : belS k ρ) : belS k ((d, v) :: ρ) := fun p hp => by
  rcases List.mem_cons.1 hp with rfl | hp
  · exact hv
  · exact h p hp
theorem belS_up {k k' : Nat} (hk : k ≤ k') {ρ : ASlots} (h : belS k ρ) : belS k' ρ := fun p hp => bel_up hk _ (h p hp)
theorem mem_append {M N : List MC} : mem σ (M ++ N) = mem σ M ++ mem σ N := by unfold mem; rw [List.map_append]
theorem inst_cons {ρ : ASlots} : inst σ ((d, v) :: ρ) = (d, val σ v) :: inst σ ρ := rfl
theorem stepA_to (hF : CallsOk P F) (hs : s.Good) (h : stepA S F C.n ops o s = some s') : s'.Good ∧ s.k ≤ s'.k ∧ Goes C s s' (wpList P ops Q rest) (wpList P ops Q (o :: rest)) := by
  obtain ⟨hbig, hsl, hme⟩ := hs
  unfold stepA at h
  split at h
  · cases h
  · rename_i hg
    split at h
    · rename_i d hd
      cases hn : Nat.blt d C.n with
      | false => rw [hn] at h; cases h
      | true =>
        rw [hn] at h; cases h
        exact ⟨⟨hbig, belS_cons (by simp only [bel]) hsl, hme⟩, Nat.le_refl _, fun σ k => To.sk (grdA_grd hg) hd hn (k σ fun _ _ => rfl)⟩
    · cases h
  · rename_i hg
    split at h
    · rename_i r hr
      have hok := execA_ok hbig hsl hme hr
      unfold putA at h
      split at h
      · split at h
        · rename_i d hd
          cases hn : Nat.blt d C.n with
          | false => rw [hn] at h; cases h
          | true =>
            rw [hn] at h; cases h
            exact ⟨⟨hbig, belS_cons hok.1 hsl, hme⟩, Nat.le_refl _, fun σ k => To.rd (grdA_grd hg) hd hn (hok.2 σ) (k σ fun _ _ => rfl)⟩
        · cases h
      · split at h
        · cases h
        · rename_i hd
          cases h
          exact ⟨⟨hbig, hsl, hok.1⟩, Nat.le_refl _, fun σ k => To.up (grdA_grd hg) hd (hok.2 σ) (k σ fun _ _ => rfl)⟩
      · rename_i v N k'
        obtain ⟨h1, h2, h3, h4⟩ := hok
        split at h
        · rename_i d hd
          cases hn : Nat.blt d C.n with
          | false => rw [hn] at h; cases h
          | true =>
            rw [hn] at h; cases h
            refine ⟨⟨Nat.le_trans hbig h1, belS_cons h2 (belS_up h1 hsl), belM_append h3 (belM_up h1 hme)⟩, h1, fun σ k => To.mk (grdA_grd hg) hd hn (h4 σ) ?_⟩
            rintro _ _ ⟨σ', he, rfl, rfl⟩
            have := k σ' he
            rw [mem_append, ← mem_ext he hme, inst_cons, ← inst_ext he hsl] at this
            exact this
        · cases h
      · rename_i v M' k'
        obtain ⟨h1, h2, h3, h4⟩ := hok
        split at h
        · rename_i d hd
          cases hn : Nat.blt d C.n with
          | false => rw [hn] at h; cases h
          | true =>
            rw [hn] at h; cases h
            refine ⟨⟨Nat.le_trans hbig h1, belS_cons h2 (belS_up h1 hsl), h3⟩, h1, fun σ k => To.ge (grdA_grd hg) hd hn (h4 σ) ?_⟩
            rintro _ _ ⟨σ', he, rfl, rfl⟩
            have := k σ' he
            rw [inst_cons, ← inst_ext he hsl] at this
            exact this
        · cases h
    · split at h
      · rename_i f vs d he hd
        split at h
        · rename_i v M' k' hf
          cases hn : Nat.blt d C.n with
          | false => rw [hn] at h; cases h
          | true =>
            rw [hn] at h; cases h
            have hk := hF _ _ _ _ _ _ _ hf hbig (entA_bel hbig hsl he) hme
            refine ⟨⟨Nat.le_trans hbig hk.le, belS_cons hk.bval (belS_up hk.le hsl), hk.bmem⟩, hk.le, fun σ k => ?_⟩
            refine To.call _ (grdA_grd hg) hd hn (entA_ok he σ) (pull_all _) (hk.does σ) ?_
            rintro _ _ ⟨σ', he', rfl, rfl⟩
            have := k σ' he'
            rw [inst_cons, ← inst_ext he' hsl] at this
            rw [List.append_nil]
            exact this
        · cases h
      · cases h
theorem runL_to (hF : CallsOk P F) : ∀ (l : List Oper) (s s' : St), runL S F C.n ops l s = some s' → s.Good → s'.Good ∧ s.k ≤ s'.k ∧ Goes C s s' (Q .normal) (wpList P ops Q l)
  | [], s, s', h, hs => by
    simp only [runL, Option.some.injEq] at h; subst h
    exact ⟨hs, Nat.le_refl _, fun σ k => To.nil (k σ fun _ _ => rfl)⟩
  | o :: r, s, s', h, hs => by
    unfold runL at h
    split at h
    · rename_i s1 h1
      obtain ⟨g1, g2, g3⟩ := stepA_to (Q := Q) (rest := r) hF hs h1
      obtain ⟨a, b, c⟩ := runL_to hF r s1 s' h g1
      exact ⟨a, Nat.le_trans g2 b, Goes.trans g2 g3 c⟩
    · cases h
end
end Go.In
