/- The interpreter of known runs: regions, code, functions. Own text. -/
import Derived.Test.YtfkmjkooemjekaaGreatDoorAr
set_option linter.unusedVariables false
set_option linter.unusedSimpArgs false
namespace Go.In
open Go.RowKit Go.Flow Go.Mem Go.Sep
structure Env (P : Program) where
  S : Same P
  flow : Nat → Nat → Option Plan
  live : Nat → List Nat
  drop : Nat → Nat
  fuel : Nat
  mixed : P.follows .mixedOrders = true
def regionA {P : Program} (E : Env P) (F : CallF) (n f : Nat) (id : Nat) (ops : Array Oper) (draw : Bool) (s : St) : Option St :=
  match draw with
  | false => runL E.S F n ops ops.toList s
  | true => match E.flow f id with
    | some pl => planA E.S F n pl ops.toList s
    | none => none
inductive Ex where
  | nor
  | exi (id : Nat)
  | ret
def Ex.to : Ex → Exit
  | .nor => .normal
  | .exi id => .exit id
  | .ret => .ret
def loopA (g : St → Option (Ex × St)) (live : List Nat) : Nat → St → Option (Ex × St)
  | 0, _ => none
  | m + 1, s => match g ⟨keepL s.ρ live, s.M, s.k⟩ with
    | some (.nor, s1) => loopA g live m s1
    | some (.exi id, s1) => some (.exi id, s1)
    | some (.ret, s1) => some (.ret, s1)
    | none => none
def codeA {P : Program} (E : Env P) (F : CallF) (n f : Nat) : Code → St → Option (Ex × St)
  | .skip, s => some (.nor, s)
  | .region id ops draw, s => match regionA E F n f id ops draw s with
    | some s' => some (.nor, s')
    | none => none
  | .seq a b, s => match codeA E F n f a s with
    | some (.nor, s1) => codeA E F n f b s1
    | some (.exi id, s1) => some (.exi id, s1)
    | some (.ret, s1) => some (.ret, s1)
    | none => none
  | .cond c x y, s => match aev s.ρ c with
    | some (.bool true) => codeA E F n f x s
    | some (.bool false) => codeA E F n f y s
    | _ => none
  | .block id c, s => match codeA E F n f c s with
    | some (.exi j, s1) => bif Nat.beq j id then some (.nor, s1) else some (.exi j, s1)
    | some (.nor, s1) => some (.nor, s1)
    | some (.ret, s1) => some (.ret, s1)
    | none => none
  | .loop c, s => loopA (codeA E F n f c) (E.live f) E.fuel s
  | .exit id, s => some (.exi id, s)
  | .ret, s => some (.ret, s)
  | _, _ => none
def resA (P : Program) (s : St) : List ResultVar → Option (List AV)
  | [] => some []
  | .tmp t :: r => match alook s.ρ t, resA P s r with
    | some v, some l => some (v :: l)
    | _, _ => none
  | .cell t ty :: r => match readA P s.ρ s.M (.load ty (.tmp t)), resA P s r with
    | some v, some l => some (v :: l)
    | _, _ => none
def packA : List AV → AV
  | [v] => v
  | l => .tup l
def slotsA : Nat → List AV → ASlots
  | _, [] => []
  | k, v :: r => (k, v) :: slotsA (k + 1) r
def dropM (mode k : Nat) (M : List MC) : List MC :=
  match mode with
  | 0 => M
  | 1 => M.filter fun c => Nat.blt c.i k || (match c.kd with | .box _ => false | .maps _ => false | _ => true)
  | _ => M.filter fun c => Nat.blt c.i k
def funA {P : Program} (E : Env P) (F : CallF) (f : Nat) (vs : List AV) (M : List MC) (k : Nat) : Option (AV × List MC × Nat) :=
  match P.funcs[f]? with
  | some fn => match fn.body with
    | some c => bif Nat.ble vs.length fn.ntmps then (match codeA E F fn.ntmps f c ⟨slotsA 0 vs, M, k⟩ with
      | some (.exi _, _) => none
      | some (_, s) => match resA P s fn.results.toList with
        | some l => some (packA l, dropM (E.drop f) k s.M, s.k)
        | none => none
      | none => none) else none
    | none => none
  | none => none
def callA {P : Program} (E : Env P) (O : CallF) : Nat → CallF
  | 0, _, _, _, _ => none
  | d + 1, f, vs, M, k => match O f vs M k with
    | some r => some r
    | none => funA E (callA E O d) f vs M k
section
variable {P : Program} {E : Env P} {F : CallF} {C : Cx} {σ : Nat → Nat} {s s' : St} {Q : Exit → Act → World → Prop} {f k : Nat}
theorem regionA_to (hF : CallsOk P F) {id : Nat} {ops : Array Oper} {draw : Bool} (hs : s.Good) (h : regionA E F C.n f id ops draw s = some s') : s'.Good ∧ s.k ≤ s'.k ∧ Goes C s s' (Q .normal) ((Code.region id ops draw).wp P Q) := by
  unfold regionA at h
  split at h
  · obtain ⟨a, b, c⟩ := runL_to (Q := Q) hF ops.toList s s' h hs
    exact ⟨a, b, fun σ k => To.reg (l := ops.toList) (c σ k)⟩
  · split at h
    · rename_i pl _
      obtain ⟨a, b, c⟩ := planA_to hF pl ops.toList s s' h hs
      exact ⟨a, b, fun σ k => To.anyRegion (l := ops.toList) E.mixed (c (Q .normal) σ k)⟩
    · cases h
def CodeOk (C : Cx) (P : Program) (c : Code) (g : St → Option (Ex × St)) : Prop :=
  ∀ s e s', g s = some (e, s') → s.Good → s'.Good ∧ s.k ≤ s'.k ∧ ∀ Q, Goes C s s' (Q e.to) (c.wp P Q)
theorem loopA_to {c : Code} {g : St → Option (Ex × St)} {live : List Nat} (hg : CodeOk C P c g) : ∀ (m : Nat) (s : St) (e : Ex) (s' : St), loopA g live m s = some (e, s') → s.Good → s'.Good ∧ s.k ≤ s'.k ∧ ∀ Q, Goes C s s' (Q e.to) (Code.rounds P c Q m)
  | 0, s, e, s', h, _ => by cases h
  | m + 1, s, e, s', h, hs => by
    unfold loopA at h
    have hs0 : St.Good ⟨keepL s.ρ live, s.M, s.k⟩ := ⟨hs.big, keepL_bel hs.sl _, hs.me⟩
    have pre : ∀ {K' K : Act → World → Prop} {s1 : St}, Goes C ⟨keepL s.ρ live, s.M, s.k⟩ s1 K' K → Goes C s s1 K' K := fun hh σ k => To.sub _ (keepL_subs live) (hh σ k)
    split at h
    · rename_i s1 h1
      obtain ⟨a, b, c1⟩ := hg _ _ _ h1 hs0
      obtain ⟨a', b', c2⟩ := loopA_to hg m s1 e s' h a
      exact ⟨a', Nat.le_trans b b', fun Q => pre (Goes.trans b (c1 (Exit.then (Code.rounds P c Q m) Q)) (c2 Q))⟩
    · rename_i id s1 h1
      cases h
      obtain ⟨a, b, c1⟩ := hg _ _ _ h1 hs0
      exact ⟨a, b, fun Q => pre (c1 (Exit.then (Code.rounds P c Q m) Q))⟩
    · rename_i s1 h1
      cases h
      obtain ⟨a, b, c1⟩ := hg _ _ _ h1 hs0
      exact ⟨a, b, fun Q => pre (c1 (Exit.then (Code.rounds P c Q m) Q))⟩
    · cases h
theorem codeA_to (hF : CallsOk P F) : ∀ (c : Code), CodeOk C P c (codeA E F C.n f c)
  | .skip => fun s e s' h hs => by simp only [codeA, Option.some.injEq, Prod.mk.injEq] at h; obtain ⟨rfl, rfl⟩ := h; exact ⟨hs, Nat.le_refl _, fun Q σ k => To.skip (k σ fun _ _ => rfl)⟩
  | .region id ops draw => fun s e s' h hs => by
    simp only [codeA] at h
    split at h
    · rename_i s1 h1
      cases h
      have h0 := fun Q => regionA_to (C := C) (Q := Q) hF hs h1
      exact ⟨(h0 fun _ _ _ => True).1, (h0 fun _ _ _ => True).2.1, fun Q => (h0 Q).2.2⟩
    · cases h
  | .seq a b => fun s e s' h hs => by
    simp only [codeA] at h
    split at h
    · rename_i s1 h1
      obtain ⟨g1, g2, g3⟩ := codeA_to hF a s _ _ h1 hs
      obtain ⟨k1, k2, k3⟩ := codeA_to hF b s1 _ _ h g1
      exact ⟨k1, Nat.le_trans g2 k2, fun Q σ k => To.seq (Goes.trans g2 (g3 (Exit.then (b.wp P Q) Q)) (k3 Q) σ k)⟩
    · rename_i id s1 h1
      cases h
      obtain ⟨g1, g2, g3⟩ := codeA_to hF a s _ _ h1 hs
      exact ⟨g1, g2, fun Q σ k => To.seq (g3 (Exit.then (b.wp P Q) Q) σ k)⟩
    · rename_i s1 h1
      cases h
      obtain ⟨g1, g2, g3⟩ := codeA_to hF a s _ _ h1 hs
      exact ⟨g1, g2, fun Q σ k => To.seq (g3 (Exit.then (b.wp P Q) Q) σ k)⟩
    · cases h
  | .cond c x y => fun s e s' h hs => by
    simp only [codeA] at h
    split at h
    · rename_i hc
      obtain ⟨g1, g2, g3⟩ := codeA_to hF x s _ _ h hs
      exact ⟨g1, g2, fun Q σ k => To.condT (evv (σ := σ) hc) (g3 Q σ k)⟩
    · rename_i hc
      obtain ⟨g1, g2, g3⟩ := codeA_to hF y s _ _ h hs
      exact ⟨g1, g2, fun Q σ k => To.condF (evv (σ := σ) hc) (g3 Q σ k)⟩
    · cases h
  | .block id c => fun s e s' h hs => by
    simp only [codeA] at h
    split at h
    · rename_i j s1 h1
      obtain ⟨g1, g2, g3⟩ := codeA_to hF c s _ _ h1 hs
      cases hj : Nat.beq j id with
      | true =>
        rw [hj] at h; cases h
        have e0 := Nat.eq_of_beq_eq_true hj
        subst e0
        exact ⟨g1, g2, fun Q σ k => To.block (g3 (Exit.inBlock j Q) σ fun σ' he => To.blockX (k σ' he))⟩
      | false =>
        rw [hj] at h; cases h
        exact ⟨g1, g2, fun Q σ k => To.block (g3 (Exit.inBlock id Q) σ fun σ' he => To.blockY hj (k σ' he))⟩
    · rename_i s1 h1
      cases h
      obtain ⟨g1, g2, g3⟩ := codeA_to hF c s _ _ h1 hs
      exact ⟨g1, g2, fun Q σ k => To.block (g3 (Exit.inBlock id Q) σ k)⟩
    · rename_i s1 h1
      cases h
      obtain ⟨g1, g2, g3⟩ := codeA_to hF c s _ _ h1 hs
      exact ⟨g1, g2, fun Q σ k => To.block (g3 (Exit.inBlock id Q) σ k)⟩
    · cases h
  | .loop c => fun s e s' h hs => by
    simp only [codeA] at h
    obtain ⟨a, b, d⟩ := loopA_to (codeA_to hF c) E.fuel s e s' h hs
    exact ⟨a, b, fun Q σ k => To.rounds E.fuel (d Q σ k)⟩
  | .exit id => fun s e s' h hs => by simp only [codeA, Option.some.injEq, Prod.mk.injEq] at h; obtain ⟨rfl, rfl⟩ := h; exact ⟨hs, Nat.le_refl _, fun Q σ k => To.exit (k σ fun _ _ => rfl)⟩
  | .ret => fun s e s' h hs => by simp only [codeA, Option.some.injEq, Prod.mk.injEq] at h; obtain ⟨rfl, rfl⟩ := h; exact ⟨hs, Nat.le_refl _, fun Q σ k => To.ret (k σ fun _ _ => rfl)⟩
  | .rangeFunc _ _ _ _ => fun s e s' h hs => by simp [codeA] at h
  | .scope _ => fun s e s' h hs => by simp [codeA] at h
  | .label _ => fun s e s' h hs => by simp [codeA] at h
  | .goto _ => fun s e s' h hs => by simp [codeA] at h
  | .refuse _ => fun s e s' h hs => by simp [codeA] at h
theorem resA_bel (hs : s.Good) : ∀ {rs : List ResultVar} {l : List AV}, resA P s rs = some l → bels s.k l
  | [], l, h => by simp only [resA, Option.some.injEq] at h; subst h; simp only [bels]
  | .tmp t :: r, l, h => by
    unfold resA at h
    split at h
    · rename_i v l' hv hl
      cases h
      simp only [bels]
      exact ⟨bel_look hs.sl hv, resA_bel hs hl⟩
    · cases h
  | .cell t ty :: r, l, h => by
    unfold resA at h
    split at h
    · rename_i v l' hv hl
      cases h
      simp only [bels]
      exact ⟨(readA_ok (o := ⟨none, .load ty (.tmp t), 0, "", #[], none⟩) hs.big hs.sl hs.me hv).1, resA_bel hs hl⟩
    · cases h
def resF (a : Act) : ResultVar → Sem Value
  | .tmp t => pure (a.tmps.getD t undef)
  | .cell t ty => do loadVar ty (← asAddr (a.tmps.getD t undef))
theorem asAddr_some (x : Addr) : asAddr (.pointer (some x)) = pure x := rfl
theorem resA_run (hs : s.Good) {a : Act} {w : World} (ha : Sees (inst σ s.ρ) a) (hw : oks (mem σ s.M) w) : ∀ {rs : List ResultVar} {l : List AV}, resA P s rs = some l →
    (rs.mapM (resF a)).run P w = .ok (vals σ l) w
  | [], l, h => by simp only [resA, Option.some.injEq] at h; subst h; rfl
  | .tmp t :: r, l, h => by
    unfold resA at h
    split at h
    · rename_i v l' hv hl
      cases h
      have h1 : a.tmps.getD t undef = val σ v := by rw [Array.getD_eq_getD_getElem?, ha t _ (look_inst σ hv)]; rfl
      rw [List.mapM_cons]
      simp only [Sem.run_bind, Sem.run_pure, Result.andThen_ok, resF, h1, resA_run hs ha hw hl, vals]
    · cases h
  | .cell t ty :: r, l, h => by
    unfold resA at h
    split at h
    · rename_i v l' hv hl
      cases h
      have h2 := (readA_ok (o := ⟨none, .load ty (.tmp t), 0, "", #[], none⟩) hs.big hs.sl hs.me hv).2 σ a w ha hw
      simp only [readA] at hv
      split at hv
      · rename_i i q hx
        have hx' : ev (inst σ s.ρ) (.tmp t) = some (.pointer (some ⟨bl σ i, q, none⟩)) := evv hx
        have h3 : a.tmps.getD t undef = .pointer (some ⟨bl σ i, q, none⟩) := by rw [Array.getD_eq_getD_getElem?, ha t _ hx']; rfl
        have h4 : (loadVar ty ⟨bl σ i, q, none⟩).run P w = .ok (val σ v) w := by
          unfold execOp at h2
          have h5 : a.eval (.tmp t) = .pointer (some ⟨bl σ i, q, none⟩) := h3
          simp only [h5, Instr.loadAt, Instr.sureAddr, Sem.run_bind, Sem.run_pure, Result.andThen_ok] at h2
          cases hr : (loadVar ty ⟨bl σ i, q, none⟩).run P w with
          | ok v2 w2 => rw [hr] at h2; simp at h2; rw [h2.1, h2.2]
          | halt hh w2 => rw [hr] at h2; simp [Result.andThen] at h2
        rw [List.mapM_cons]
        simp only [Sem.run_bind, Sem.run_pure, Result.andThen_ok, resF, h3, asAddr_some, h4, resA_run hs ha hw hl, vals]
      · cases hv
    · cases h
theorem packA_val {l : List AV} : (if h : (vals σ l).toArray.size = 1 then (vals σ l).toArray[0] else .tuple (vals σ l).toArray) = val σ (packA l) := by
  match l with
  | [] => simp [packA, vals, val]
  | [v] => simp [packA, vals]
  | u :: v :: r => simp [packA, vals, val]
theorem packA_bel {l : List AV} (h : bels k l) : bel k (packA l) := by
  match l with
  | [] => simp only [packA, bel, bels]
  | [v] => simp only [bels] at h; exact h.1
  | u :: v :: r => simp only [packA, bel]; exact h
theorem slotsA_inst : ∀ (l : List AV) (i : Nat), inst σ (slotsA i l) = slotsOf i (vals σ l)
  | [], _ => rfl
  | v :: r, i => by
    show (i, val σ v) :: inst σ (slotsA (i + 1) r) = _
    rw [slotsA_inst r (i + 1)]; rfl
theorem slotsA_bel : ∀ {l : List AV} (i : Nat), bels k l → belS k (slotsA i l)
  | [], _, _ => fun p hp => by cases hp
  | v :: r, i, h => by
    simp only [bels] at h
    exact belS_cons h.1 (slotsA_bel (i + 1) h.2)
theorem results_run {fn : Func} (hs : s.Good) {a : Act} {w : World} (ha : Sees (inst σ s.ρ) a) (hw : oks (mem σ s.M) w) {l : List AV} (h : resA P s fn.results.toList = some l) : (results fn a.tmps).run P w = .ok (val σ (packA l)) w := by
  have h1 := resA_run hs ha hw h
  have e : results fn a.tmps = (fn.results.mapM (resF a) >>= fun vs => pure (if h : vs.size = 1 then vs[0] else .tuple vs)) := rfl
  have e2 : ∀ x : Sem (List Value), (List.toArray <$> x : Sem (Array Value)) = (x >>= fun l => pure l.toArray) := fun _ => rfl
  rw [e, Array.mapM_eq_mapM_toList, e2]
  simp only [Sem.run_bind, h1, Result.andThen_ok, Sem.run_pure, packA_val]
theorem dropM_bel {mode k k' : Nat} {M : List MC} (h : belM k M) : belM k (dropM mode k' M) := by
  unfold dropM
  split
  · exact h
  · exact belM_filter h
  · exact belM_filter h
theorem dropM_does {mode k k' : Nat} {M : List MC} {vs : List Value} {Γ : List Chunk} {v : AV} (h : Does P f vs Γ (Outs k σ v M)) : Does P f vs Γ (Outs k σ v (dropM mode k' M)) := by
  unfold dropM
  split
  · exact h
  · exact Does.keep h
  · exact Does.keep h
theorem funA_ok (hF : CallsOk P F) : CallsOk P (funA E F) := fun f vs M k v M' k' h hbig hvs hM => by
  unfold funA at h
  split at h
  · rename_i fn hfn
    split at h
    · rename_i c hc
      cases hl : Nat.ble vs.length fn.ntmps with
      | false => rw [hl] at h; cases h
      | true =>
        rw [hl] at h; simp only [cond_true] at h
        have hs0 : St.Good ⟨slotsA 0 vs, M, k⟩ := ⟨hbig, slotsA_bel 0 hvs, hM⟩
        split at h
        · cases h
        · rename_i e s hne hco
          split at h
          · rename_i l hr
            cases h
            have hco' := fun C (hn : C.n = fn.ntmps) => codeA_to (C := C) (E := E) (f := f) hF c ⟨slotsA 0 vs, M, k⟩ e s (by rw [hn]; exact hco)
            obtain ⟨g1, g2, _⟩ := hco' ⟨fn.ntmps, [], default, []⟩ rfl hs0
            refine ⟨g2, packA_bel (resA_bel g1 hr), dropM_bel g1.me, fun σ => dropM_does ?_⟩
            refine Does.enter hfn hc rfl (by rw [vals_len]; exact hl) fun w => ?_
            obtain ⟨_, _, g3⟩ := hco' ⟨fn.ntmps, mem σ M, w, []⟩ rfl hs0
            have g4 := g3 (bodyPost P fn (Fin ⟨fn.ntmps, mem σ M, w, []⟩ (Outs k σ (packA l) s.M))) σ
            rw [← slotsA_inst]
            refine g4 fun σ' he => ?_
            refine To.ends ?_ (fun a w' ha hw => results_run g1 ha.sees hw.each hr) ⟨σ', he, rfl, rfl⟩
            cases e with
            | nor => exact .inr rfl
            | ret => exact .inl rfl
            | exi id => exact absurd rfl (hne id)
          · cases h
        · cases h
    · cases h
  · cases h
theorem callA_ok {O : CallF} (hO : CallsOk P O) : ∀ d, CallsOk P (callA E O d)
  | 0 => fun _ _ _ _ _ _ _ h => by cases h
  | d + 1 => fun f vs M k v M' k' h hbig hvs hM => by
    unfold callA at h
    split at h
    · rename_i r hr; cases h; exact hO _ _ _ _ _ _ _ hr hbig hvs hM
    · exact funA_ok (callA_ok hO d) _ _ _ _ _ _ _ h hbig hvs hM
end
end Go.In
