/- The interpreter of known runs: a region that draws its order: that it is so. Own text. -/
import Derived.Test.YtfkmjkooemjekaaGreatDoorA13
set_option linter.unusedVariables false
set_option linter.unusedSimpArgs false
namespace Go.In
open Go.RowKit Go.Flow Go.Mem Go.Sep
structure FS.Good (s : FS) : Prop where
  big : 4096 ≤ s.k
  sl : belS s.k s.ρ
  me : belM s.k s.M
  nw : belM s.k (flatN s.N)
section
variable {P : Program} {S : Same P} {F : CallF} {C : Cx} {σ σ' : Nat → Nat} {l : List Oper} {Th M M' : List MC} {N : List (Nat × List MC)} {m : Meta} {ms : List Meta} {s s' : FS} {k k' : Nat} {Q : Act → World → Prop} {v : AV}
theorem flat_newsV : flat (newsV σ N) = mem σ (flatN N) := by
  induction N with
  | nil => rfl
  | cons n N ih =>
    show mem σ n.2 ++ flat (newsV σ N) = mem σ (n.2 ++ flatN N)
    rw [ih, mem_append]
theorem avail_newsV {deps : List Nat} : avail (newsV σ N) deps = mem σ (availN N deps) := by
  induction N with
  | nil => rfl
  | cons n N ih =>
    show (bif deps.any (Nat.beq n.1) then mem σ n.2 else []) ++ avail (newsV σ N) deps = mem σ ((bif deps.any (Nat.beq n.1) then n.2 else []) ++ availN N deps)
    rw [ih, mem_append]
    cases deps.any (Nat.beq n.1) <;> rfl
theorem belM_avail {deps : List Nat} (h : belM k (flatN N)) : belM k (availN N deps) := fun c hc => by
  unfold availN at hc
  obtain ⟨n, hn, hc⟩ := List.mem_flatMap.1 hc
  cases hd : deps.any (Nat.beq n.1) with
  | false => rw [hd] at hc; cases hc
  | true => rw [hd] at hc; exact h c (List.mem_flatMap.2 ⟨n, hn, hc⟩)
theorem newsV_ext (he : Sup k σ σ') (h : belM k (flatN N)) : newsV σ N = newsV σ' N := by
  unfold newsV
  refine List.map_congr_left fun n hn => ?_
  rw [mem_ext he fun c hc => h c (List.mem_flatMap.2 ⟨n, hn, hc⟩)]
theorem notIn_ok {i : Nat} (h : notIn i N = true) : (newsV σ N).all (fun m => !Nat.beq m.1 i) = true := by
  induction N with
  | nil => rfl
  | cons n N ih =>
    simp only [notIn, Bool.and_eq_true] at h
    show (!Nat.beq n.1 i && (newsV σ N).all _) = true
    rw [ih h.2, h.1]; rfl
theorem thB_mem : ∀ {Th M : List MC}, thB Th M = true → ∀ c ∈ Th, c ∈ M
  | [], _, _, c, hc => by cases hc
  | d :: r, M, h, c, hc => by
    simp only [thB, Bool.and_eq_true] at h
    rcases List.mem_cons.1 hc with rfl | hc
    · have h1 := h.1
      split at h1
      · rename_i j b hf
        rw [Bool.and_eq_true] at h1
        have e1 := eqK_ok h1.1
        have e2 := eqVs_ok _ _ h1.2
        have e3 := (find_get hf).2
        have : c = b := by
          obtain ⟨i, kd, cs⟩ := c
          obtain ⟨i', kd', cs'⟩ := b
          simp only at e1 e2 e3
          subst e1 e2 e3; rfl
        rw [this]; exact find_mem hf
      · cases h1
    · exact thB_mem h.2 c hc
theorem thB_oks (h : thB Th M = true) : ∀ w, oks (mem σ M) w → oks (mem σ Th) w := fun w hw c hc => by
  obtain ⟨d, hd, rfl⟩ := List.mem_map.1 hc
  exact hw _ (List.mem_map_of_mem (thB_mem h d hd))
theorem roM_owns : owns (mem σ (roM M)) = [] := by
  induction M with
  | nil => rfl
  | cons c M ih =>
    unfold roM
    split
    · rename_i cs _
      show owns (ck σ ⟨c.i, .ro, cs⟩ :: mem σ (roM M)) = []
      show (ck σ ⟨c.i, .ro, cs⟩).owns ++ owns (mem σ (roM M)) = []
      rw [ih]; rfl
    · exact ih
theorem ro_holds {c : MC} {cs : List AV} (h : cellsM c = some cs) {w : World} (hw : (ck σ c).holds w) : (ck σ ⟨c.i, .ro, cs⟩).holds w := by
  obtain ⟨i, kd, cs'⟩ := c
  unfold cellsM at h
  unfold ck at hw ⊢
  cases kd with
  | box t => cases h; exact .inr ⟨_, 0, rfl, range_of_whole hw⟩
  | row e size n c =>
    cases h
    obtain ⟨A', cap', h1, h2, _⟩ := own_form hw
    simp only [Value.slice.injEq] at h1
    show Src w (some ⟨bl σ i, 0, none⟩) _
    rw [h1.1]; exact h2
  | ro => cases h; exact hw
  | maps m => cases h
theorem roM_oks {w : World} (h : oks (mem σ M) w) : oks (mem σ (roM M)) w := by
  induction M with
  | nil => exact h
  | cons c M ih =>
    have h1 : (ck σ c).holds w := h _ (List.mem_cons_self ..)
    have h2 := ih fun d hd => h d (List.mem_cons_of_mem _ hd)
    unfold roM
    split
    · rename_i cs hc
      intro d hd
      rcases List.mem_cons.1 (show d ∈ ck σ ⟨c.i, .ro, cs⟩ :: mem σ (roM M) from hd) with rfl | hd
      · exact ro_holds hc h1
      · exact h2 d hd
    · exact h2
theorem roM_bel (h : belM k M) : belM k (roM M) := by
  induction M with
  | nil => exact h
  | cons c M ih =>
    have h1 := h c (List.mem_cons_self ..)
    have h2 := ih fun d hd => h d (List.mem_cons_of_mem _ hd)
    unfold roM
    split
    · rename_i cs hc
      exact belM_cons ⟨h1.pl, trivial, cellsM_bel hc h1⟩ h2
    · exact h2
theorem newM_reads : reads (mem σ (newM k M)) = [] := by
  unfold newM
  induction M with
  | nil => rfl
  | cons c M ih =>
    rw [List.filter_cons]
    split
    · rename_i hc
      show (ck σ c).reads ++ reads (mem σ (List.filter _ M)) = []
      rw [ih]
      simp only [Bool.and_eq_true, Bool.not_eq_true'] at hc
      obtain ⟨i, kd, cs⟩ := c
      unfold ck
      cases kd <;> first | rfl | (simp [isRo] at hc)
    · exact ih
theorem mem_perm {M M' : List MC} (h : M.Perm M') : (mem σ M).Perm (mem σ M') := h.map _
theorem Does.keep {f : FuncId} {vs : List Value} {Γ : List Chunk} {v : AV} {p : MC → Bool} (h : Does P f vs Γ (Outs k σ v M)) : Does P f vs Γ (Outs k σ v (M.filter p)) := fun w hs =>
  (h w hs).mono fun e w' ⟨u, Γ', h1, ⟨σ', h2, h3, h4⟩, h5⟩ => by
    refine ⟨u, mem σ' (M.filter p), h1, ⟨σ', h2, h3, rfl⟩, ?_⟩
    subst h4
    have hp : (mem σ' M).Perm (mem σ' (M.filter p) ++ mem σ' (M.filter fun c => !p c)) := by
      rw [← mem_append]; exact mem_perm (List.filter_append_perm p M).symm
    exact (h5.perm hp).drop
theorem belM_filter {p : MC → Bool} (h : belM k M) : belM k (M.filter p) := fun c hc => h c (List.mem_filter.1 hc).1
theorem Ge.ofRd {o : Oper} {ρ : Slots} {Γ : List Chunk} {u : Value} (h : Rd P o ρ Γ u) : Ge P o ρ Γ (fun v Γ' => v = u ∧ Γ' = Γ) := fun a w ha hs => ⟨_, _, w, h a w ha hs.each, ⟨rfl, rfl⟩, Post.refl hs⟩
theorem Ge.ofMk {o : Oper} {ρ : Slots} {Γ : List Chunk} {R : Value → List Chunk → Prop} (h : Mk P o ρ Γ R) : Ge P o ρ Γ (fun v Γ' => ∃ N, R v N ∧ Γ' = N ++ Γ) := fun a w ha hs => by
  obtain ⟨v, N, w', h1, h2, h3⟩ := h a w ha hs.each
  exact ⟨v, _, w', h1, ⟨N, h2, rfl⟩, h3.add hs⟩
theorem flow1_to (hF : CallsOk P F) (hs : s.Good) (hT : belM s.k Th) (h : flow1 S F C.n l Th m s = some s') : s'.Good ∧ s.k ≤ s'.k ∧ ∀ σ,
    (∀ σ', Sup s.k σ σ' → FlowS P l (mem σ' Th) Q ms C (inst σ' s'.ρ) (mem σ' s'.M) (newsV σ' s'.N)) → FlowS P l (mem σ Th) Q (m :: ms) C (inst σ s.ρ) (mem σ s.M) (newsV σ s.N) := by
  obtain ⟨hbig, hsl, hme, hnw⟩ := hs
  obtain ⟨i, deps, kd⟩ := m
  unfold flow1 at h
  simp only at h
  split at h
  · cases h
  · rename_i o ho
    split at h
    · cases h
    -- barred by its guard
    · rename_i hg
      split at h
      · rename_i d hd
        cases hn : Nat.blt d C.n with
        | false => rw [hn] at h; cases h
        | true =>
          rw [hn] at h; simp only [cond_true] at h
          split at h
          · cases h
            exact ⟨⟨hbig, belS_cons (by simp only [bel]) hsl, hme, hnw⟩, Nat.le_refl _, fun σ k => FlowS.skip (.inl rfl) ho (grdA_grd hg) hd hn (k σ fun _ _ => rfl)⟩
          · cases h
            exact ⟨⟨hbig, belS_cons (by simp only [bel]) hsl, hme, hnw⟩, Nat.le_refl _, fun σ k => FlowS.skip (.inr (.inl rfl)) ho (grdA_grd hg) hd hn (k σ fun _ _ => rfl)⟩
          · cases hni : notIn i s.N with
            | false => rw [hni] at h; cases h
            | true =>
              rw [hni] at h; cases h
              exact ⟨⟨hbig, belS_cons (by simp only [bel]) hsl, hme, hnw⟩, Nat.le_refl _, fun σ k => FlowS.skipM ho (grdA_grd hg) hd hn (notIn_ok hni) (k σ fun _ _ => rfl)⟩
          · cases h
            exact ⟨⟨hbig, belS_cons (by simp only [bel]) hsl, hme, hnw⟩, Nat.le_refl _, fun σ k => FlowS.skip (.inr (.inr rfl)) ho (grdA_grd hg) hd hn (k σ fun _ _ => rfl)⟩
          · cases h
      · cases h
    · rename_i hg
      split at h
      -- kind 0
      · split at h
        · rename_i d v hd hr
          cases hn : Nat.blt d C.n with
          | false => rw [hn] at h; cases h
          | true =>
            rw [hn] at h; cases h
            have hok := execA_ok hbig hsl hT hr
            exact ⟨⟨hbig, belS_cons hok.1 hsl, hme, hnw⟩, Nat.le_refl _, fun σ k => FlowS.free ho (grdA_grd hg) hd hn (hok.2 σ) (k σ fun _ _ => rfl)⟩
        · cases h
      -- kind 1
      · split at h
        · rename_i d v hd hr
          cases hn : Nat.blt d C.n with
          | false => rw [hn] at h; cases h
          | true =>
            rw [hn] at h; cases h
            have hok := execA_ok hbig hsl (belM_append (belM_avail hnw) hme) hr
            refine ⟨⟨hbig, belS_cons hok.1 hsl, hme, hnw⟩, Nat.le_refl _, fun σ k => FlowS.rd ho (grdA_grd hg) hd hn ?_ (k σ fun _ _ => rfl)⟩
            rw [avail_newsV, ← mem_append]
            exact hok.2 σ
        · cases h
      -- kind 2
      · split at h
        · rename_i d v N k' hd hr
          cases hn : (Nat.blt d C.n && notIn i s.N) with
          | false => rw [hn] at h; cases h
          | true =>
            rw [hn] at h; cases h
            rw [Bool.and_eq_true] at hn
            obtain ⟨h1, h2, h3, h4⟩ := execA_ok hbig hsl (belM_append (belM_avail hnw) hme) hr
            refine ⟨⟨Nat.le_trans hbig h1, belS_cons h2 (belS_up h1 hsl), belM_up h1 hme, belM_append h3 (belM_up h1 hnw)⟩, h1, fun σ k => ?_⟩
            have hmk := h4 σ
            rw [mem_append, ← avail_newsV] at hmk
            refine FlowS.mkG ho (grdA_grd hg) hd hn.1 (notIn_ok hn.2) hmk ?_
            rintro _ _ ⟨σ', he, rfl, rfl⟩
            have := k σ' he
            rw [inst_cons, ← inst_ext he hsl, ← mem_ext he hme, ← mem_ext he hT] at this
            have e1 : newsV σ' ((i, N) :: s.N) = (i, mem σ' N) :: newsV σ s.N := by rw [newsV_ext he hnw]; rfl
            rw [e1] at this
            exact this
        · cases h
      -- kind 3
      · split at h
        · rename_i d f vs hd he
          split at h
          · rename_i v M' k' hf
            cases hn : (Nat.blt d C.n && belB s.k v) with
            | false => rw [hn] at h; cases h
            | true =>
              rw [hn] at h; cases h
              rw [Bool.and_eq_true] at hn
              have hbv := belB_ok v hn.2
              have hA := belM_append (belM_avail (deps := deps) hnw) hme
              have hk := hF _ _ _ _ _ _ _ hf hbig (entA_bel hbig hsl he) (roM_bel hA)
              refine ⟨⟨hbig, belS_cons hbv hsl, hme, hnw⟩, Nat.le_refl _, fun σ k => ?_⟩
              refine FlowS.callQ (Γ1 := mem σ (roM (availN s.N deps ++ s.M))) ho (grdA_grd hg) hd hn.1 (entA_ok he σ) (Does.mono (hk.does σ) ?_) roM_owns (fun w hw => roM_oks ?_) (k σ fun _ _ => rfl)
              · rintro _ _ ⟨σ', he', rfl, _⟩
                exact (val_ext (fun i hi => he' i hi) v hbv).symm
              · rw [mem_append, ← avail_newsV]; exact hw
          · cases h
        · cases h
      -- kind 4
      · split at h
        · rename_i d f vs hd he
          split at h
          · rename_i v M' k' hf
            cases hn : (Nat.blt d C.n && notIn i s.N && o.guard.isNone) with
            | false => rw [hn] at h; cases h
            | true =>
              rw [hn] at h; cases h
              simp only [Bool.and_eq_true, Option.isNone_iff_eq_none] at hn
              obtain ⟨⟨n1, n2⟩, n3⟩ := hn
              have hA := belM_append (belM_avail (deps := deps) hnw) hme
              have hk := hF _ _ _ _ _ _ _ hf hbig (entA_bel hbig hsl he) (roM_bel hA)
              refine ⟨⟨Nat.le_trans hbig hk.le, belS_cons hk.bval (belS_up hk.le hsl), belM_up hk.le hme, belM_append (belM_filter hk.bmem) (belM_up hk.le hnw)⟩, hk.le, fun σ k => ?_⟩
              refine FlowS.callM (Γ1 := mem σ (roM (availN s.N deps ++ s.M))) ho n3 hd n1 (notIn_ok n2) (entA_ok he σ) (Does.keep (p := fun c => Nat.ble s.k c.i && !isRo c) (hk.does σ)) roM_owns (fun w hw => roM_oks (by rw [mem_append, ← avail_newsV]; exact hw)) ?_
              rintro _ _ ⟨σ', he', rfl, rfl⟩
              refine ⟨newM_reads, ?_⟩
              have := k σ' he'
              rw [inst_cons, ← inst_ext he' hsl, ← mem_ext he' hme, ← mem_ext he' hT] at this
              have e1 : newsV σ' ((i, newM s.k M') :: s.N) = (i, mem σ' (newM s.k M')) :: newsV σ s.N := by rw [newsV_ext he' hnw]; rfl
              rw [e1] at this
              exact this
          · cases h
        · cases h
      -- kind 5
      · cases hgn : o.guard.isNone with
        | false => rw [hgn] at h; cases h
        | true =>
          rw [hgn] at h; simp only [cond_true] at h
          have hg0 := Option.isNone_iff_eq_none.1 hgn
          have hA := belM_append hnw hme
          have eA : ∀ σ, mem σ (flatN s.N ++ s.M) = flat (newsV σ s.N) ++ mem σ s.M := fun σ => by rw [mem_append, flat_newsV]
          split at h
          · rename_i r hr
            have hok := execA_ok hbig hsl hA hr
            split at h
            · rename_i s1 hp
              cases hth : thB Th s1.M with
              | false => rw [hth] at h; cases h
              | true =>
                rw [hth] at h; cases h
                unfold putA at hp
                split at hp
                · split at hp
                  · rename_i d hd
                    cases hn : Nat.blt d C.n with
                    | false => rw [hn] at hp; cases hp
                    | true =>
                      rw [hn] at hp; cases hp
                      refine ⟨⟨hbig, belS_cons hok.1 hsl, hA, fun c hc => by cases hc⟩, Nat.le_refl _, fun σ k => ?_⟩
                      have hge := Ge.ofRd (hok.2 σ)
                      rw [eA] at hge
                      refine FlowS.ge ho hg0 hd hn hge ?_
                      rintro _ _ ⟨rfl, rfl⟩
                      have := k σ fun _ _ => rfl
                      rw [eA] at this
                      exact ⟨fun w hw => thB_oks hth w (by rw [eA]; exact hw), this⟩
                  · cases hp
                · split at hp
                  · cases hp
                  · rename_i hd
                    cases hp
                    refine ⟨⟨hbig, hsl, hok.1, fun c hc => by cases hc⟩, Nat.le_refl _, fun σ k => ?_⟩
                    have hup := hok.2 σ
                    rw [eA] at hup
                    exact FlowS.up ho hg0 hd hup (thB_oks hth) (k σ fun _ _ => rfl)
                · rename_i v N k'
                  obtain ⟨h1, h2, h3, h4⟩ := hok
                  split at hp
                  · rename_i d hd
                    cases hn : Nat.blt d C.n with
                    | false => rw [hn] at hp; cases hp
                    | true =>
                      rw [hn] at hp; cases hp
                      refine ⟨⟨Nat.le_trans hbig h1, belS_cons h2 (belS_up h1 hsl), belM_append h3 (belM_up h1 hA), fun c hc => by cases hc⟩, h1, fun σ k => ?_⟩
                      have hge := Ge.ofMk (h4 σ)
                      rw [eA] at hge
                      refine FlowS.ge ho hg0 hd hn hge ?_
                      rintro _ _ ⟨_, ⟨σ', he, rfl, rfl⟩, rfl⟩
                      have := k σ' he
                      have e2 : mem σ' (N ++ (flatN s.N ++ s.M)) = mem σ' N ++ (flat (newsV σ s.N) ++ mem σ s.M) := by rw [mem_append, ← mem_ext he hA, eA]
                      rw [inst_cons, ← inst_ext he hsl, ← mem_ext he hT, e2] at this
                      refine ⟨fun w hw => ?_, this⟩
                      have := thB_oks (σ := σ') hth w (by rw [e2]; exact hw)
                      rw [← mem_ext he hT] at this
                      exact this
                  · cases hp
                · rename_i v M' k'
                  obtain ⟨h1, h2, h3, h4⟩ := hok
                  split at hp
                  · rename_i d hd
                    cases hn : Nat.blt d C.n with
                    | false => rw [hn] at hp; cases hp
                    | true =>
                      rw [hn] at hp; cases hp
                      refine ⟨⟨Nat.le_trans hbig h1, belS_cons h2 (belS_up h1 hsl), h3, fun c hc => by cases hc⟩, h1, fun σ k => ?_⟩
                      have hge := h4 σ
                      rw [eA] at hge
                      refine FlowS.ge ho hg0 hd hn hge ?_
                      rintro _ _ ⟨σ', he, rfl, rfl⟩
                      have := k σ' he
                      rw [inst_cons, ← inst_ext he hsl, ← mem_ext he hT] at this
                      refine ⟨fun w hw => ?_, this⟩
                      have := thB_oks (σ := σ') hth w hw
                      rw [← mem_ext he hT] at this
                      exact this
                  · cases hp
            · cases h
          · split at h
            · rename_i f vs d he hd
              split at h
              · rename_i v M' k' hf
                cases hn : (Nat.blt d C.n && thB Th M') with
                | false => rw [hn] at h; cases h
                | true =>
                  rw [hn] at h; cases h
                  rw [Bool.and_eq_true] at hn
                  have hk := hF _ _ _ _ _ _ _ hf hbig (entA_bel hbig hsl he) hA
                  refine ⟨⟨Nat.le_trans hbig hk.le, belS_cons hk.bval (belS_up hk.le hsl), hk.bmem, fun c hc => by cases hc⟩, hk.le, fun σ k => ?_⟩
                  have hdo := hk.does σ
                  rw [eA] at hdo
                  refine FlowS.call _ ho hg0 hd hn.1 (entA_ok he σ) (pull_all _) hdo ?_
                  rintro _ _ ⟨σ', he', rfl, rfl⟩
                  have := k σ' he'
                  rw [inst_cons, ← inst_ext he' hsl, ← mem_ext he' hT] at this
                  rw [List.append_nil]
                  refine ⟨fun w hw => ?_, this⟩
                  have := thB_oks (σ := σ') hn.2 w hw
                  rw [← mem_ext he' hT] at this
                  exact this
              · cases h
            · cases h
      · cases h
theorem flowA_to (hF : CallsOk P F) : ∀ (ms : List Meta) (s s' : FS), s.Good → belM s.k Th → flowA S F C.n l Th ms s = some s' → s'.Good ∧ s.k ≤ s'.k ∧ ∀ σ,
    (∀ σ', Sup s.k σ σ' → To C (inst σ' s'.ρ) (mem σ' (flatN s'.N ++ s'.M)) Q) → FlowS P l (mem σ Th) Q ms C (inst σ s.ρ) (mem σ s.M) (newsV σ s.N)
  | [], s, s', hs, _, h => by
    simp only [flowA, Option.some.injEq] at h; subst h
    refine ⟨hs, Nat.le_refl _, fun σ k => FlowS.fin ?_⟩
    have := k σ fun _ _ => rfl
    rw [mem_append, ← flat_newsV] at this
    exact this
  | m :: r, s, s', hs, hT, h => by
    unfold flowA at h
    split at h
    · rename_i s1 h1
      obtain ⟨g1, g2, g3⟩ := flow1_to (Q := Q) (ms := r) hF hs hT h1
      obtain ⟨a, b, c⟩ := flowA_to hF r s1 s' g1 (belM_up g2 hT) h
      exact ⟨a, Nat.le_trans g2 b, fun σ k => g3 σ fun σ' he => c σ' fun σ'' he' => k σ'' (Sup.trans g2 he he')⟩
    · cases h
end
end Go.In
