/- The interpreter of known runs: places renamed; regions that are walked in two orders. Own text. -/
import Derived.Test.YtfkmjkooemjekaaGreatDoorA14
import Derived.Test.YtfkmjkooemjekaaGreatDoorAq
set_option linter.unusedVariables false
set_option linter.unusedSimpArgs false
namespace Go.In
open Go.RowKit Go.Flow Go.Mem Go.Sep
mutual
def ren (π : Nat → Nat) : AV → AV
  | .ptr i o => .ptr (π i) o
  | .sl i o l c => .sl (π i) o l c
  | .slu i o l c d => .slu (π i) o l (π c) d
  | .mp i => .mp (π i)
  | .fn f a b => .fn f (rens π a) (rens π b)
  | .ifc t v => .ifc t (ren π v)
  | .agg l => .agg (rens π l)
  | .tup l => .tup (rens π l)
  | .bool b => .bool b
  | .int k n => .int k n
  | .str s => .str s
  | .nilp => .nilp
  | .nils => .nils
  | .nilm => .nilm
  | .nilf => .nilf
  | .nili => .nili
  | .und => .und
def rens (π : Nat → Nat) : List AV → List AV
  | [] => []
  | v :: l => ren π v :: rens π l
end
structure Ren (π : Nat → Nat) (k : Nat) : Prop where
  fix : ∀ i, i < k → π i = i
  big : ∀ i, k ≤ i → k ≤ π i
def after (σ π : Nat → Nat) : Nat → Nat := fun i => σ (π i)
theorem bl_ren {σ π : Nat → Nat} {k : Nat} (hk : 4096 ≤ k) (h : Ren π k) (i : Nat) : bl σ (π i) = bl (after σ π) i := by
  unfold bl after
  rcases Nat.lt_or_ge i k with hi | hi
  · rw [h.fix i hi]
  · have h1 : Nat.blt i 4096 = false := by
      cases hb : Nat.blt i 4096 with
      | false => rfl
      | true => have := Nat.le_of_ble_eq_true hb; omega
    have h2 : Nat.blt (π i) 4096 = false := by
      have := h.big i hi
      cases hb : Nat.blt (π i) 4096 with
      | false => rfl
      | true => have := Nat.le_of_ble_eq_true hb; omega
    rw [h1, h2]; rfl
mutual
theorem val_ren {σ π : Nat → Nat} {k : Nat} (hk : 4096 ≤ k) (h : Ren π k) : ∀ v : AV, val σ (ren π v) = val (after σ π) v
  | .ptr i o => by simp only [ren, val, bl_ren hk h]
  | .sl i o l c => by simp only [ren, val, bl_ren hk h]
  | .slu i o l c d => by simp only [ren, val, bl_ren hk h]; rfl
  | .mp i => by simp only [ren, val, bl_ren hk h]
  | .fn f a b => by simp only [ren, val, vals_ren hk h a, vals_ren hk h b]
  | .ifc t v => by simp only [ren, val, val_ren hk h v]
  | .agg l => by simp only [ren, val, vals_ren hk h l]
  | .tup l => by simp only [ren, val, vals_ren hk h l]
  | .bool _ => by simp only [ren, val]
  | .int _ _ => by simp only [ren, val]
  | .str _ => by simp only [ren, val]
  | .nilp => by simp only [ren, val]
  | .nils => by simp only [ren, val]
  | .nilm => by simp only [ren, val]
  | .nilf => by simp only [ren, val]
  | .nili => by simp only [ren, val]
  | .und => by simp only [ren, val]
theorem vals_ren {σ π : Nat → Nat} {k : Nat} (hk : 4096 ≤ k) (h : Ren π k) : ∀ l : List AV, vals σ (rens π l) = vals (after σ π) l
  | [] => by simp only [rens, vals]
  | v :: l => by simp only [rens, vals, val_ren hk h v, vals_ren hk h l]
end
def renA (π : Nat → Nat) : AC → AC
  | .kn c => .kn c
  | .un c d => .un (π c) d
def renK (π : Nat → Nat) : MK → MK
  | .box t => .box t
  | .row e s n c => .row e s n (renA π c)
  | .ro => .ro
  | .maps m => .maps (m.map fun p => (p.1, ren π p.2))
def renM (π : Nat → Nat) (c : MC) : MC := ⟨π c.i, renK π c.kd, rens π c.cs⟩
theorem ck_ren {σ π : Nat → Nat} {k : Nat} (hk : 4096 ≤ k) (h : Ren π k) (c : MC) : ck σ (renM π c) = ck (after σ π) c := by
  obtain ⟨i, kd, cs⟩ := c
  unfold renM ck
  cases kd with
  | box t => simp only [renK, bl_ren hk h, vals_ren hk h]
  | row e s n c =>
    have : cp σ (renA π c) = cp (after σ π) c := by cases c <;> rfl
    simp only [renK, bl_ren hk h, vals_ren hk h, this]
  | ro => simp only [renK, bl_ren hk h, vals_ren hk h]
  | maps m =>
    have : prs σ (m.map fun p => (p.1, ren π p.2)) = prs (after σ π) m := by
      unfold prs
      rw [List.map_map]
      exact List.map_congr_left fun p _ => by simp only [Function.comp_def, val_ren hk h]
    simp only [renK, bl_ren hk h, this]
theorem mem_ren {σ π : Nat → Nat} {k : Nat} (hk : 4096 ≤ k) (h : Ren π k) (M : List MC) : mem σ (M.map (renM π)) = mem (after σ π) M := by
  unfold mem
  rw [List.map_map]
  exact List.map_congr_left fun c _ => ck_ren hk h c
def rot (k a i : Nat) : Nat := bif Nat.blt i k then i else bif Nat.blt i (k + a) then i + 1 else bif Nat.beq i (k + a) then k else i
theorem rot_ren (k a : Nat) : Ren (rot k a) k := by
  refine ⟨fun i hi => ?_, fun i hi => ?_⟩
  · unfold rot
    rw [show Nat.blt i k = true from Nat.ble_eq_true_of_le hi]; rfl
  · unfold rot
    cases h1 : Nat.blt i k with
    | true => have := Nat.le_of_ble_eq_true h1; omega
    | false =>
      cases h2 : Nat.blt i (k + a) with
      | true => show k ≤ i + 1; omega
      | false =>
        cases h3 : Nat.beq i (k + a) with
        | true => exact Nat.le_refl _
        | false => exact hi
theorem id_ren (k : Nat) : Ren (fun i => i) k := ⟨fun _ _ => rfl, fun _ h => h⟩
def keepL (ρ : ASlots) : List Nat → ASlots
  | [] => []
  | t :: r => match alook ρ t with
    | some v => (t, v) :: keepL ρ r
    | none => keepL ρ r
def slotsEq (π : Nat → Nat) (ρ ρ' : ASlots) : List Nat → Bool
  | [] => true
  | t :: r => (match alook ρ t with
    | none => true
    | some u => match alook ρ' t with
      | some v => eqV (ren π u) v
      | none => false) && slotsEq π ρ ρ' r
def takeM : List MC → MC → Option (List MC)
  | [], _ => none
  | d :: r, c => bif Nat.beq d.i c.i then (bif eqK d.kd c.kd && eqVs d.cs c.cs then some r else none) else match takeM r c with
    | some r' => some (d :: r')
    | none => none
def pullA : List MC → List MC → Option (List MC)
  | M, [] => some M
  | M, c :: r => match takeM M c with
    | some M' => pullA M' r
    | none => none
def placeA : AV → Option Nat
  | .ptr i _ => some i
  | .sl i _ _ _ => some i
  | .slu i _ _ _ _ => some i
  | _ => none
def thetaA (ρ : ASlots) (M : List MC) : List Nat → Option (List MC)
  | [] => some []
  | t :: r => match alook ρ t, thetaA ρ M r with
    | some v, some l => match placeA v with
      | some i => match find M i with
        | some (_, c) => some (c :: l)
        | none => none
      | none => some l
    | _, _ => none
inductive Plan where
  | flow (ms : List Meta) (ts : List Nat)
  | split (m p : Nat) (rest : Option Nat) (a b : Plan) (keep : List Nat)
  | cut (n : Nat) (a b : Plan)
def rotOf (k k' : Nat) : Option Nat → Nat → Nat
  | some r => rot k (k' - k - 1 - r)
  | none => fun i => i
def planA {P : Program} (S : Same P) (F : CallF) (n : Nat) : Plan → List Oper → St → Option St
  | .flow ms ts, l, s => bif flowB l ms then (match thetaA s.ρ s.M ts with
      | some Th => match flowA S F n l Th ms ⟨s.ρ, s.M, [], s.k⟩ with
        | some s' => some ⟨s'.ρ, flatN s'.N ++ s'.M, s'.k⟩
        | none => none
      | none => none) else none
  | .cut j a b, l, s => bif cutB j l then (match planA S F n a (l.take j) s with
      | some s1 => planA S F n b (shiftL j l) s1
      | none => none) else none
  | .split m p r a b keep, l, s => bif !Nat.beq m p && plainGo3 m p 0 l then (match planA S F n a (tie l m p) s, planA S F n b (tie l p m) s with
      | some s1, some s2 => bif Nat.beq s1.k s2.k && slotsEq (rotOf s.k s1.k r) s1.ρ s2.ρ keep then (match pullA s2.M (s1.M.map (renM (rotOf s.k s1.k r))) with
          | some _ => some ⟨keepL s1.ρ keep, s1.M, s1.k⟩
          | none => none) else none
      | _, _ => none) else none
section
variable {P : Program} {S : Same P} {F : CallF} {C : Cx} {σ : Nat → Nat} {s s' : St} {k : Nat}
theorem thetaA_mem {ρ : ASlots} {M : List MC} : ∀ {ts : List Nat} {Th : List MC}, thetaA ρ M ts = some Th → ∀ c ∈ Th, c ∈ M
  | [], Th, h, c, hc => by simp only [thetaA, Option.some.injEq] at h; subst h; cases hc
  | t :: r, Th, h, c, hc => by
    unfold thetaA at h
    split at h
    · rename_i v l hv hl
      split at h
      · split at h
        · rename_i j b hf
          cases h
          rcases List.mem_cons.1 hc with rfl | hc
          · exact find_mem hf
          · exact thetaA_mem hl c hc
        · cases h
      · cases h; exact thetaA_mem hl c hc
    · cases h
theorem keepL_bel {ρ : ASlots} (h : belS k ρ) : ∀ l, belS k (keepL ρ l)
  | [] => fun p hp => by cases hp
  | t :: r => by
    unfold keepL
    split
    · rename_i v hv; exact belS_cons (bel_look h hv) (keepL_bel h r)
    · exact keepL_bel h r
theorem keepL_subs {ρ : ASlots} : ∀ l, subs (inst σ ρ) (inst σ (keepL ρ l))
  | [] => trivial
  | t :: r => by
    unfold keepL
    split
    · rename_i v hv; exact ⟨look_inst σ hv, keepL_subs r⟩
    · exact keepL_subs r
theorem slotsEq_subs {π : Nat → Nat} (hk : 4096 ≤ k) (h : Ren π k) {ρ ρ' : ASlots} : ∀ {l : List Nat}, slotsEq π ρ ρ' l = true → subs (inst σ ρ') (inst (after σ π) (keepL ρ l))
  | [], _ => trivial
  | t :: r, hq => by
    simp only [slotsEq, Bool.and_eq_true] at hq
    have ih := slotsEq_subs hk h hq.2
    have h1 := hq.1
    unfold keepL
    split
    · rename_i u hu
      rw [hu] at h1
      simp only at h1
      split at h1
      · rename_i v hv
        have e := eqV_ok _ _ h1
        refine ⟨?_, ih⟩
        rw [look_inst σ hv, ← e, val_ren hk h]
      · cases h1
    · exact ih
theorem takeM_perm : ∀ {M : List MC} {c : MC} {R : List MC}, takeM M c = some R → M.Perm (c :: R)
  | [], _, _, h => by cases h
  | d :: r, c, R, h => by
    unfold takeM at h
    cases hb : Nat.beq d.i c.i with
    | true =>
      rw [hb] at h; simp only [cond_true] at h
      cases hq : (eqK d.kd c.kd && eqVs d.cs c.cs) with
      | false => rw [hq] at h; cases h
      | true =>
        rw [hq] at h; cases h
        rw [Bool.and_eq_true] at hq
        have e1 := Nat.eq_of_beq_eq_true hb
        have e2 := eqK_ok hq.1
        have e3 := eqVs_ok _ _ hq.2
        obtain ⟨i, kd, cs⟩ := d
        obtain ⟨i', kd', cs'⟩ := c
        simp only at e1 e2 e3
        subst e1 e2 e3
        exact List.Perm.refl _
    | false =>
      rw [hb] at h; simp only [cond_false] at h
      split at h
      · rename_i r' hr
        cases h
        exact ((takeM_perm hr).cons d).trans (List.Perm.swap _ _ _)
      · cases h
theorem pullA_perm : ∀ {L M R : List MC}, pullA M L = some R → M.Perm (L ++ R)
  | [], M, R, h => by simp only [pullA, Option.some.injEq] at h; subst h; exact List.Perm.refl _
  | c :: r, M, R, h => by
    unfold pullA at h
    split at h
    · rename_i M' hm
      exact (takeM_perm hm).trans ((pullA_perm h).cons c)
    · cases h
theorem rotOf_ren {k' : Nat} {r : Option Nat} : Ren (rotOf k k' r) k := by
  cases r with
  | none => exact id_ren k
  | some r => exact rot_ren k _
theorem planA_to (hF : CallsOk P F) : ∀ (pl : Plan) (l : List Oper) (s s' : St), planA S F C.n pl l s = some s' → s.Good → s'.Good ∧ s.k ≤ s'.k ∧ ∀ Q, Goes C s s' Q (AnyQ P l Q)
  | .flow ms ts, l, s, s', h, hs => by
    simp only [planA] at h
    cases hB : flowB l ms with
    | false => rw [hB] at h; cases h
    | true =>
      rw [hB] at h; simp only [cond_true] at h
      split at h
      · rename_i Th hTh
        split at h
        · rename_i s1 h1
          cases h
          have hT : belM s.k Th := fun c hc => hs.me c (thetaA_mem hTh c hc)
          have hfl := fun Q => flowA_to (C := C) (Q := Q) hF ms _ _ ⟨hs.big, hs.sl, hs.me, fun c hc => by cases hc⟩ hT h1
          obtain ⟨a, b, _⟩ := hfl fun _ _ => True
          refine ⟨⟨a.big, a.sl, belM_append a.nw a.me⟩, b, fun Q σ k => ?_⟩
          refine To.anyFlow (mem σ Th) ms hB (fun w hw c hc => ?_) ((hfl Q).2.2 σ k)
          obtain ⟨d, hd, rfl⟩ := List.mem_map.1 hc
          exact hw _ (List.mem_map_of_mem (thetaA_mem hTh d hd))
        · cases h
      · cases h
  | .cut j a b, l, s, s', h, hs => by
    simp only [planA] at h
    cases hB : cutB j l with
    | false => rw [hB] at h; cases h
    | true =>
      rw [hB] at h; simp only [cond_true] at h
      split at h
      · rename_i s1 h1
        obtain ⟨g1, g2, g3⟩ := planA_to hF a _ _ _ h1 hs
        obtain ⟨k1, k2, k3⟩ := planA_to hF b _ _ _ h g1
        exact ⟨k1, Nat.le_trans g2 k2, fun Q σ k => To.anyCut j hB (Goes.trans g2 (g3 (AnyQ P (shiftL j l) Q)) (k3 Q) σ k)⟩
      · cases h
  | .split m p r a b keep, l, s, s', h, hs => by
    simp only [planA] at h
    cases hB : (!Nat.beq m p && plainGo3 m p 0 l) with
    | false => rw [hB] at h; cases h
    | true =>
      rw [hB] at h; simp only [cond_true] at h
      rw [Bool.and_eq_true, Bool.not_eq_true'] at hB
      split at h
      · rename_i s1 s2 h1 h2
        cases hq : (Nat.beq s1.k s2.k && slotsEq (rotOf s.k s1.k r) s1.ρ s2.ρ keep) with
        | false => rw [hq] at h; cases h
        | true =>
          rw [hq] at h; simp only [cond_true] at h
          rw [Bool.and_eq_true] at hq
          split at h
          · rename_i R hR
            cases h
            obtain ⟨a1, a2, a3⟩ := planA_to hF a _ _ _ h1 hs
            obtain ⟨b1, b2, b3⟩ := planA_to hF b _ _ _ h2 hs
            have hren : Ren (rotOf s.k s1.k r) s.k := rotOf_ren
            refine ⟨⟨a1.big, keepL_bel a1.sl _, a1.me⟩, a2, fun Q σ k => To.anySplit m p hB.1 hB.2 ?_ ?_⟩
            · exact a3 Q σ fun σ' he => To.sub _ (keepL_subs keep) (k σ' he)
            · refine b3 Q σ fun σ' he => ?_
              have hσ : Sup s.k σ (after σ' (rotOf s.k s1.k r)) := fun i hi => by
                show σ i = σ' (rotOf s.k s1.k r i)
                rw [hren.fix i hi]; exact he i hi
              have hk := k _ hσ
              refine To.sub _ (slotsEq_subs hs.big hren hq.2) ?_
              refine To.perm (Γ' := mem σ' (s1.M.map (renM (rotOf s.k s1.k r))) ++ mem σ' R) (by rw [← mem_append]; exact mem_perm (pullA_perm hR)) (To.drop ?_)
              rw [mem_ren hs.big hren]
              exact hk
          · cases h
      · cases h
end
end Go.In
