/- Regions that draw: two orders that both are walked, and a region cut in two. Own text. -/
import Derived.Test.YtfkmjkooemjekaaGreatDoorL3
set_option linter.unusedVariables false
set_option linter.unusedSimpArgs false
namespace Go.Sep
open Go.RowKit Go.Flow Go.Mem
def NoCall (o : Oper) : Prop := ∀ (ρ : Operand → Value) (P : Program) (w w' : World), (∀ f args, (execOp ρ o).run P w ≠ .ok (.enter f args) w') ∧ (∀ row args, (execOp ρ o).run P w ≠ .ok (.row row args) w')
def lenOp (o : Oper) : Bool := match o.op with
  | .call c => match c.callee with
    | .builtin .len => true
    | .builtin .append => true
    | _ => false
  | _ => false
def plainOp3 (o : Oper) : Bool := plainOp2 o || lenOp o
theorem noCall_of {o : Oper} (h : plainOp3 o = true) : NoCall o := fun ρ P w w' => by
  unfold plainOp3 at h
  rw [Bool.or_eq_true] at h
  rcases h with h | h
  · exact plain_value2 h ρ P w w'
  · have hv : ∀ s : Sem Value, (∀ f args, (do pure (.value (← s)) : Sem Next).run P w ≠ .ok (.enter f args) w') ∧ (∀ row args, (do pure (.value (← s)) : Sem Next).run P w ≠ .ok (.row row args) w') := fun s => by
      simp only [Sem.run_bind]
      cases s.run P w <;> simp [Result.andThen]
    unfold lenOp at h
    split at h
    · rename_i c hc
      obtain ⟨cl, as, ts⟩ := c
      simp only at h
      split at h
      · unfold execOp
        simp only [hc, resolve, invoke, builtin, Sem.run_bind, Sem.run_pure, Result.andThen_ok]
        have := hv (Builtin.len_ ts o.type (as.map ρ))
        simpa only [Sem.run_bind, Sem.run_pure] using this
      · unfold execOp
        simp only [hc, resolve, invoke, builtin, Sem.run_bind, Sem.run_pure, Result.andThen_ok]
        have := hv (Builtin.append_ ts o.type (as.map ρ))
        simpa only [Sem.run_bind, Sem.run_pure] using this
      · cases h
    · cases h
theorem OpTo.andN {P : Program} {ops : Array Oper} {o : Oper} {a : Act} {w : World} {K K' : Value → World → Prop} (hp : NoCall o) (h : OpTo P ops o a w K) (h' : OpTo P ops o a w K') : OpTo P ops o a w fun v w' => K v w' ∧ K' v w' := by
  unfold OpTo at *
  split
  · rename_i hw
    rw [if_pos hw] at h h'
    have hq := hp a.eval P w
    unfold upTo at *
    split
    · rename_i he; rw [he] at h h'; exact ⟨h, h'⟩
    · rename_i he; rw [he] at h h'; exact ⟨h, h'⟩
    · rename_i w' he; exact absurd he ((hq w').1 _ _)
    · rename_i w' he; exact absurd he ((hq w').2 _ _)
    · rename_i h1 h2 h3 h4
      generalize (execOp a.eval o).run P w = r at *
      cases r with
      | ok n w' => cases n <;> first | exact absurd rfl (h1 _ _) | exact absurd rfl (h2 _) | exact absurd rfl (h3 _ _ _) | exact absurd rfl (h4 _ _ _) | exact h
      | halt x w' => exact h
  · rename_i hw
    rw [if_neg hw] at h h'
    exact ⟨h, h'⟩
def plainGo3 (m p : Nat) : Nat → List Oper → Bool
  | _, [] => true
  | i, o :: l => (plainOp3 o || Nat.beq i m || Nat.beq i p || tiedB m p o) && plainGo3 m p (i + 1) l
theorem plainGo3_at {m p : Nat} : ∀ {l : List Oper} {k i : Nat} {o : Oper}, plainGo3 m p k l = true → l[i]? = some o → plainOp3 o = true ∨ k + i = m ∨ k + i = p ∨ ∃ e ∈ o.after, Region.binds .any e = true ∧ (e.on = m ∨ e.on = p)
  | [], _, _, _, _, h => by simp at h
  | o :: l, k, i, o', h, hi => by
    rw [plainGo3, Bool.and_eq_true] at h
    cases i with
    | zero =>
      obtain rfl : o = o' := by simpa using hi
      have h1 := h.1
      simp only [Bool.or_eq_true] at h1
      rcases h1 with ((h1 | h1) | h1) | h1
      · exact .inl h1
      · exact .inr (.inl (Nat.eq_of_beq_eq_true h1))
      · exact .inr (.inr (.inl (Nat.eq_of_beq_eq_true h1)))
      · obtain ⟨e, he, h2⟩ := List.any_eq_true.1 h1
        simp only [Bool.and_eq_true, Bool.or_eq_true] at h2
        exact .inr (.inr (.inr ⟨e, Array.mem_toList_iff.1 he, h2.1, h2.2.imp Nat.eq_of_beq_eq_true Nat.eq_of_beq_eq_true⟩))
    | succ i =>
      have := plainGo3_at h.2 (i := i) (o := o') (by simpa using hi)
      rwa [show k + 1 + i = k + (i + 1) by omega] at this
section
variable {P : Program} {l : List Oper} {Q : Act → World → Prop}
theorem any_split3 {m p : Nat} (hne : m ≠ p) (hpl : ∀ i o, l[i]? = some o → NoCall o ∨ i = m ∨ i = p ∨ ∃ e ∈ o.after, Region.binds .any e = true ∧ (e.on = m ∨ e.on = p)) : ∀ (fuel : Nat) (listed : Array Bool) (a : Act) (w : World), AnyI P (tie l m p).toArray Q fuel listed a w → AnyI P (tie l p m).toArray Q fuel listed a w → listed.getD p false = false → listed.getD m false = false → AnyI P l.toArray Q fuel listed a w
  | 0, listed, a, w, h1, h2, hp, hm => by
    refine ⟨List.eq_nil_iff_forall_not_mem.2 fun i hi => ?_, h1.2⟩
    by_cases e : i = m
    · have := ready_tie (m := p) (p := m).2 ⟨hi, fun e2 => absurd (e.symm.trans e2) hne⟩
      rw [h2.1] at this; cases this
    · have := ready_tie (m := m) (p := p).2 ⟨hi, fun e2 => absurd e2 e⟩
      rw [h1.1] at this; cases this
  | fuel + 1, listed, a, w, h1, h2, hp, hm => by
    refine ⟨fun hr => h1.1 (List.eq_nil_iff_forall_not_mem.2 fun i hi => ?_), fun i hi => ?_⟩
    · have h1 := (ready_tie.1 hi).1
      rw [hr] at h1; cases h1
    · have hl := (ready_iff.1 hi).1
      by_cases em : i = m
      · obtain ⟨o, h3, h4⟩ := opI_tie (h2.2 i (ready_tie.2 ⟨hi, fun e2 => absurd (em.symm.trans e2) hne⟩))
        exact ⟨o, by simpa using h3, h4.mono fun v w' hv => any_tied fuel _ _ _ (by rw [em] at hl ⊢; exact listed_own hl) hv⟩
      · by_cases ep : i = p
        · obtain ⟨o, h3, h4⟩ := opI_tie (h1.2 i (ready_tie.2 ⟨hi, fun e2 => absurd e2 em⟩))
          exact ⟨o, by simpa using h3, h4.mono fun v w' hv => any_tied fuel _ _ _ (by rw [ep] at hl ⊢; exact listed_own hl) hv⟩
        · obtain ⟨o, h3, h4⟩ := opI_tie (h1.2 i (ready_tie.2 ⟨hi, fun e2 => absurd e2 em⟩))
          obtain ⟨o', h3', h4'⟩ := opI_tie (h2.2 i (ready_tie.2 ⟨hi, fun e2 => absurd e2 ep⟩))
          rw [h3] at h3'
          obtain rfl := Option.some.inj h3'
          have hun : ∀ k, i ≠ k → listed.getD k false = false → (listed.setIfInBounds i true).getD k false = false := fun k hk hf => by
            rw [Array.getD_eq_getD_getElem?] at *
            rw [Array.getElem?_setIfInBounds, if_neg hk]; exact hf
          have hpo : NoCall o := by
            rcases hpl i o h3 with hq | hq | hq | ⟨e, he, hb, hq⟩
            · exact hq
            · exact absurd hq em
            · exact absurd hq ep
            · obtain ⟨_, o2, h5, h6⟩ := ready_iff.1 hi
              rw [h3] at h5
              obtain rfl := Option.some.inj h5
              have h7 := h6 e he hb
              rcases hq with hq | hq <;> rw [hq] at h7
              · rw [hm] at h7; cases h7
              · rw [hp] at h7; cases h7
          exact ⟨o, by simpa using h3, (OpTo.andN hpo h4 h4').mono fun v w' ⟨hv, hv'⟩ => any_split3 hne hpl fuel _ _ _ hv hv' (hun p ep hp) (hun m em hm)⟩
def shiftE (n : Nat) (e : Edge) : Edge := ⟨e.on - n, e.ground⟩
def shiftOp (n : Nat) (o : Oper) : Oper := { o with after := ((o.after.toList.filter fun e => Nat.ble n e.on).map (shiftE n)).toArray }
def shiftL (n : Nat) (l : List Oper) : List Oper := (l.drop n).map (shiftOp n)
def headB (n : Nat) : Nat → List Oper → Bool
  | _, [] => true
  | i, o :: r => (o.after.toList.all fun e => !Region.binds .any e || Nat.blt e.on i) && (match o.guard with | none => true | some (j, _) => Nat.blt j n) && headB n (i + 1) r
def tailB (n : Nat) (A : List Nat) : Nat → List Oper → Bool
  | _, [] => true
  | i, o :: r => o.guard.isNone && ((List.range n).all fun j => (A.getD i 0).testBit j) && tailB n A (i + 1) r
def cutB (n : Nat) (l : List Oper) : Bool := headB n 0 (l.take n) && tailB n (ancMask l []) n (l.drop n) && Nat.ble n l.length
theorem headB_at {n : Nat} : ∀ {l : List Oper} {k i : Nat} {o : Oper}, headB n k l = true → l[i]? = some o → (∀ e ∈ o.after, Region.binds .any e = true → e.on < k + i) ∧ ∀ j s, o.guard = some (j, s) → j < n
  | [], _, _, _, _, h => by simp at h
  | o :: l, k, i, o', h, hi => by
    simp only [headB, Bool.and_eq_true] at h
    cases i with
    | zero =>
      obtain rfl : o = o' := by simpa using hi
      refine ⟨fun e he hb => ?_, fun j s hg => ?_⟩
      · have := List.all_eq_true.1 h.1.1 e (Array.mem_toList_iff.2 he)
        rw [hb] at this
        exact Nat.le_of_ble_eq_true this
      · have := h.1.2
        rw [hg] at this
        exact Nat.le_of_ble_eq_true this
    | succ i =>
      have := headB_at h.2 (i := i) (o := o') (by simpa using hi)
      rwa [show k + 1 + i = k + (i + 1) by omega] at this
theorem tailB_at {n : Nat} {A : List Nat} : ∀ {l : List Oper} {k i : Nat} {o : Oper}, tailB n A k l = true → l[i]? = some o → o.guard = none ∧ ∀ j, j < n → (A.getD (k + i) 0).testBit j = true
  | [], _, _, _, _, h => by simp at h
  | o :: l, k, i, o', h, hi => by
    simp only [tailB, Bool.and_eq_true, Option.isNone_iff_eq_none] at h
    cases i with
    | zero =>
      obtain rfl : o = o' := by simpa using hi
      exact ⟨h.1.1, fun j hj => List.all_eq_true.1 h.1.2 j (List.mem_range.2 hj)⟩
    | succ i =>
      have := tailB_at h.2 (i := i) (o := o') (by simpa using hi)
      rwa [show k + 1 + i = k + (i + 1) by omega] at this
structure CutAt (n : Nat) (l : List Oper) : Prop where
  le : n ≤ l.length
  hd : ∀ i o, l[i]? = some o → i < n → (∀ e ∈ o.after, Region.binds .any e = true → e.on < i) ∧ ∀ j s, o.guard = some (j, s) → j < n
  tl : ∀ i o, l[i]? = some o → n ≤ i → o.guard = none ∧ ∀ j, j < n → anc l i j = true
theorem cutB_ok {n : Nat} {l : List Oper} (h : cutB n l = true) : CutAt n l := by
  simp only [cutB, Bool.and_eq_true] at h
  obtain ⟨⟨h1, h2⟩, h3⟩ := h
  refine ⟨Nat.le_of_ble_eq_true h3, fun i o ho hi => ?_, fun i o ho hi => ?_⟩
  · have := headB_at h1 (i := i) (o := o) (by rw [List.getElem?_take, if_pos hi]; exact ho)
    rwa [Nat.zero_add] at this
  · have := tailB_at h2 (i := i - n) (o := o) (by rw [List.getElem?_drop, show n + (i - n) = i by omega]; exact ho)
    rw [show n + (i - n) = i by omega] at this
    exact this
theorem mem_direct {o : Oper} {d : Nat} : d ∈ direct o ↔ ∃ e ∈ o.after, Region.binds .any e = true ∧ e.on = d := by
  unfold direct
  rw [List.mem_map]
  constructor
  · rintro ⟨e, he, rfl⟩
    obtain ⟨h1, h2⟩ := List.mem_filter.1 he
    exact ⟨e, Array.mem_toList_iff.1 h1, h2, rfl⟩
  · rintro ⟨e, he, hb, rfl⟩
    exact ⟨e, List.mem_filter.2 ⟨Array.mem_toList_iff.2 he, hb⟩, rfl⟩
def ClosedA (l : List Oper) (A : Array Bool) : Prop := ∀ i o, l[i]? = some o → A.getD i false = true → ∀ d ∈ direct o, A.getD d false = true
def AnyQ (P : Program) (l : List Oper) (Q : Act → World → Prop) (a : Act) (w : World) : Prop := AnyI P l.toArray Q l.length (Array.replicate l.length false) a w
theorem AnyI.more : ∀ {fuel : Nat} (k : Nat) {listed : Array Bool} {a : Act} {w : World}, AnyI P l.toArray Q fuel listed a w → AnyI P l.toArray Q (fuel + k) listed a w
  | 0, 0, _, _, _, h => h
  | 0, k + 1, listed, a, w, h => by
    show AnyI P l.toArray Q (0 + k + 1) listed a w
    exact ⟨fun _ => h.2, fun i hi => by rw [h.1] at hi; cases hi⟩
  | fuel + 1, k, listed, a, w, h => by
    rw [show fuel + 1 + k = (fuel + k) + 1 by omega]
    exact ⟨h.1, fun i hi => (h.2 i hi).mono fun a w hh => AnyI.more k hh⟩
theorem getD_app {A B : Array Bool} {i : Nat} {d : Bool} (h : i < A.size) : (A ++ B).getD i d = A.getD i d := by
  rw [Array.getD_eq_getD_getElem?, Array.getD_eq_getD_getElem?, Array.getElem?_append_left h]
theorem getD_app2 {A B : Array Bool} {i : Nat} {d : Bool} (h : A.size ≤ i) : (A ++ B).getD i d = B.getD (i - A.size) d := by
  rw [Array.getD_eq_getD_getElem?, Array.getD_eq_getD_getElem?, Array.getElem?_append_right h]
theorem getD_rep {n i : Nat} {b d : Bool} (h : i < n) : (Array.replicate n b).getD i d = b := by
  rw [Array.getD_eq_getD_getElem?, Array.getElem?_replicate, if_pos h]; rfl
theorem getD_dd {A : Array Bool} {i : Nat} {d e : Bool} (h : i < A.size) : A.getD i d = A.getD i e := by
  rw [Array.getD_eq_getD_getElem?, Array.getD_eq_getD_getElem?, Array.getElem?_eq_getElem h]; rfl
theorem opTo_take {n : Nat} (c : CutAt n l) {i : Nat} {o : Oper} (ho : l[i]? = some o) (hi : i < n) {a : Act} {w : World} {K : Value → World → Prop} (h : OpTo P (l.take n).toArray o a w K) : OpTo P l.toArray o a w K := by
  have hg := (c.hd i o ho hi).2
  have e : Region.wanted o (yielded l.toArray a.tmps) = Region.wanted o (yielded (l.take n).toArray a.tmps) := by
    unfold Region.wanted
    cases hgu : o.guard with
    | none => rfl
    | some p =>
      obtain ⟨j, s⟩ := p
      have hj := hg j s hgu
      simp only [yielded, List.getElem?_toArray, List.getElem?_take, if_pos hj]
  unfold OpTo at *
  rw [e]; exact h
theorem head_all {n : Nat} (c : CutAt n l) {A : Array Bool} (hA : A.size = n) (hr : Region.ready .any (l.take n).toArray A = []) : A = Array.replicate n true := by
  have key : ∀ i, i < n → A.getD i true = true := by
    intro i
    induction i using Nat.strongRecOn with
    | _ i ih =>
      intro hi
      cases hb : A.getD i true with
      | true => rfl
      | false =>
        have hlt : i < l.length := Nat.lt_of_lt_of_le hi c.le
        have ho : l[i]? = some l[i] := List.getElem?_eq_getElem hlt
        have : i ∈ Region.ready .any (l.take n).toArray A := ready_iff.2 ⟨hb, l[i], by rw [List.getElem?_take, if_pos hi]; exact ho, fun e he hb9 => by
          have h1 := (c.hd i _ ho hi).1 e he hb9
          have := ih e.on h1 (by omega)
          rw [getD_dd (by rw [hA]; omega)]; exact this⟩
        rw [hr] at this; cases this
  apply Array.ext
  · simp [hA]
  · intro i h1 h2
    have := key i (by omega)
    rw [Array.getD_eq_getD_getElem?, Array.getElem?_eq_getElem h1] at this
    simpa using this
theorem cut1 {n f2 : Nat} (c : CutAt n l) {Q' : Act → World → Prop} {B : Array Bool} (hB : B = Array.replicate (l.length - n) false) (hQ : ∀ a w, Q' a w → AnyI P l.toArray Q f2 (Array.replicate n true ++ B) a w) :
    ∀ (fuel : Nat) (A : Array Bool) (a : Act) (w : World), A.size = n → ClosedA l A → AnyI P (l.take n).toArray Q' fuel A a w → AnyI P l.toArray Q (fuel + f2) (A ++ B) a w
  | 0, A, a, w, hA, hcl, h => by
    rw [Nat.zero_add, head_all c hA h.1]
    exact hQ a w h.2
  | fuel + 1, A, a, w, hA, hcl, h => by
    by_cases hr : Region.ready .any (l.take n).toArray A = []
    · rw [head_all c hA hr, Nat.add_comm]
      exact AnyI.more (fuel + 1) (hQ a w (h.1 hr))
    · have hin : ∀ i, i ∈ Region.ready .any (l.take n).toArray A → i ∈ Region.ready .any l.toArray (A ++ B) := fun i hi => by
        obtain ⟨h1, o, h2, h3⟩ := ready_iff.1 hi
        rw [List.getElem?_take] at h2
        have hin : i < n := by
          rcases Nat.lt_or_ge i n with h | h
          · exact h
          · rw [if_neg (by omega)] at h2; cases h2
        rw [if_pos hin] at h2
        refine ready_iff.2 ⟨by rw [getD_app (by omega)]; exact h1, o, h2, fun e he hb => ?_⟩
        have h4 := (c.hd i o h2 hin).1 e he hb
        rw [getD_app (by omega)]; exact h3 e he hb
      have hout : ∀ i, i ∈ Region.ready .any l.toArray (A ++ B) → i < n ∧ i ∈ Region.ready .any (l.take n).toArray A := fun i hi => by
        obtain ⟨h1, o, h2, h3⟩ := ready_iff.1 hi
        rcases Nat.lt_or_ge i n with hlt | hge
        · refine ⟨hlt, ready_iff.2 ⟨by rw [getD_app (by omega)] at h1; exact h1, o, by rw [List.getElem?_take, if_pos hlt]; exact h2, fun e he hb => ?_⟩⟩
          have h4 := (c.hd i o h2 hlt).1 e he hb
          have := h3 e he hb
          rw [getD_app (by omega)] at this; exact this
        · refine absurd ?_ hr
          refine List.eq_nil_iff_forall_not_mem.2 fun j hj => ?_
          obtain ⟨j1, _, j2, _⟩ := ready_iff.1 hj
          have hjn : j < n := by
            rcases Nat.lt_or_ge j n with h | h
            · exact h
            · rw [List.getElem?_take, if_neg (by omega)] at j2; cases j2
          have hX : ∀ d, d ∈ direct o → (A ++ B).getD d false = true := fun d hd => by
            obtain ⟨e, he, hb, rfl⟩ := mem_direct.1 hd
            exact h3 e he hb
          have hAB : ∀ k, (A ++ B).getD k false = true → A.getD k false = true := fun k hk => by
            rcases Nat.lt_or_ge k n with hkn | hkn
            · rwa [getD_app (by omega)] at hk
            · rw [getD_app2 (by omega), hB, Array.getD_eq_getD_getElem?, Array.getElem?_replicate] at hk
              split at hk <;> cases hk
          have hj : A.getD j false = true := by
            obtain ⟨d, hd, hdj⟩ := anc_step h2 ((c.tl i o h2 hge).2 j hjn)
            have h5 := hAB d (hX d hd)
            rcases hdj with rfl | ⟨_, hdj⟩
            · exact h5
            · exact anc_closed (X := fun k => A.getD k false = true) hcl d j h5 hdj
          rw [getD_dd (e := true) (by omega), j1] at hj
          cases hj
      rw [show fuel + 1 + f2 = (fuel + f2) + 1 by omega]
      refine ⟨fun hr2 => ?_, fun i hi => ?_⟩
      · refine absurd ?_ hr
        exact List.eq_nil_iff_forall_not_mem.2 fun j hj => by
          have := hin j hj
          rw [hr2] at this; cases this
      · obtain ⟨hlt, hi'⟩ := hout i hi
        obtain ⟨o, h1, h2⟩ := h.2 i hi'
        have ho : l[i]? = some o := by
          simp only [List.getElem?_toArray, List.getElem?_take, if_pos hlt] at h1
          exact h1
        refine ⟨o, by simpa using ho, (opTo_take c ho hlt h2).mono fun v w' hv => ?_⟩
        have hcl2 : ClosedA l (A.setIfInBounds i true) := fun k ok hk hkt d hd => by
          have hset : ∀ x, A.getD x false = true → (A.setIfInBounds i true).getD x false = true := fun x hx => listed_set hx
          by_cases e : k = i
          · subst e
            obtain ⟨_, o2, h5, h6⟩ := ready_iff.1 hi'
            rw [List.getElem?_take, if_pos hlt, hk] at h5
            cases h5
            obtain ⟨e, he, hb, rfl⟩ := mem_direct.1 hd
            exact hset _ (h6 e he hb)
          · refine hset _ (hcl k ok hk ?_ d hd)
            rw [Array.getD_eq_getD_getElem?] at hkt ⊢
            rwa [Array.getElem?_setIfInBounds, if_neg (Ne.symm e)] at hkt
        have := cut1 c hB hQ fuel (A.setIfInBounds i true) _ _ (by simp [hA]) hcl2 hv
        rw [show (A ++ B).setIfInBounds i true = A.setIfInBounds i true ++ B by
          apply Array.ext_getElem?
          intro j
          rw [Array.getElem?_setIfInBounds]
          by_cases hj : j < A.size
          · rw [Array.getElem?_append_left hj, Array.getElem?_append_left (by simpa using hj), Array.getElem?_setIfInBounds]
            by_cases e : i = j
            · simp [e, hj]; omega
            · simp [e]
          · rw [Array.getElem?_append_right (by omega), Array.getElem?_append_right (by simp; omega)]
            have : i ≠ j := by omega
            simp [this]]
        exact this
theorem shift_get {n i : Nat} : (shiftL n l)[i]? = (l[n + i]?).map (shiftOp n) := by unfold shiftL; rw [List.getElem?_map, List.getElem?_drop]
theorem cut2 {n : Nat} (c : CutAt n l) : ∀ (fuel : Nat) (B : Array Bool) (a : Act) (w : World), B.size = l.length - n → AnyI P (shiftL n l).toArray Q fuel B a w → AnyI P l.toArray Q fuel (Array.replicate n true ++ B) a w := by
  have hready : ∀ (B : Array Bool), B.size = l.length - n → ∀ i, i ∈ Region.ready .any l.toArray (Array.replicate n true ++ B) ↔ n ≤ i ∧ (i - n) ∈ Region.ready .any (shiftL n l).toArray B := by
    intro B hB i
    rw [ready_iff, ready_iff]
    constructor
    · rintro ⟨h1, o, h2, h3⟩
      have hge : n ≤ i := by
        rcases Nat.lt_or_ge i n with h | h
        · rw [getD_app (by simpa using h), getD_rep h] at h1; cases h1
        · exact h
      refine ⟨hge, by rw [getD_app2 (by simpa using hge)] at h1; simpa using h1, shiftOp n o, by rw [shift_get, show n + (i - n) = i by omega, h2]; rfl, fun e he hb => ?_⟩
      simp only [shiftOp, List.mem_toArray, List.mem_map, List.mem_filter] at he
      obtain ⟨e', ⟨he', hle⟩, rfl⟩ := he
      have hle := Nat.le_of_ble_eq_true hle
      have := h3 e' (Array.mem_toList_iff.1 he') hb
      rw [getD_app2 (by simpa using hle)] at this
      simpa [shiftE] using this
    · rintro ⟨hge, h1, o, h2, h3⟩
      rw [shift_get, show n + (i - n) = i by omega] at h2
      obtain ⟨o', h4, rfl⟩ := Option.map_eq_some_iff.1 h2
      refine ⟨by rw [getD_app2 (by simpa using hge)]; simpa using h1, o', h4, fun e he hb => ?_⟩
      rcases Nat.lt_or_ge e.on n with h | h
      · rw [getD_app (by simpa using h), getD_rep h]
      · rw [getD_app2 (by simpa using h)]
        have := h3 (shiftE n e) (by
          simp only [shiftOp, List.mem_toArray, List.mem_map, List.mem_filter]
          exact ⟨e, ⟨Array.mem_toList_iff.2 he, Nat.ble_eq_true_of_le h⟩, rfl⟩) hb
        simpa [shiftE] using this
  have hnil : ∀ (B : Array Bool), B.size = l.length - n → (Region.ready .any l.toArray (Array.replicate n true ++ B) = [] ↔ Region.ready .any (shiftL n l).toArray B = []) := by
    intro B hB
    constructor
    · intro h
      refine List.eq_nil_iff_forall_not_mem.2 fun i hi => ?_
      have := (hready B hB (n + i)).2 ⟨by omega, by rwa [show n + i - n = i by omega]⟩
      rw [h] at this; cases this
    · intro h
      refine List.eq_nil_iff_forall_not_mem.2 fun i hi => ?_
      have := ((hready B hB i).1 hi).2
      rw [h] at this; cases this
  intro fuel
  induction fuel with
  | zero => intro B a w hB h; exact ⟨(hnil B hB).2 h.1, h.2⟩
  | succ fuel ih =>
    intro B a w hB h
    refine ⟨fun hr => h.1 ((hnil B hB).1 hr), fun i hi => ?_⟩
    obtain ⟨hge, hi'⟩ := (hready B hB i).1 hi
    obtain ⟨o, h1, h2⟩ := h.2 _ hi'
    simp only [List.getElem?_toArray, shift_get, show n + (i - n) = i by omega] at h1
    obtain ⟨o', h3, rfl⟩ := Option.map_eq_some_iff.1 h1
    have hg := (c.tl i o' h3 hge).1
    refine ⟨o', by simpa using h3, ?_⟩
    have h4 : OpTo P l.toArray o' a w fun v w' => AnyI P (shiftL n l).toArray Q fuel (B.setIfInBounds (i - n) true) (a.put o'.dst v) w' := by
      unfold OpTo at *
      have e1 : Region.wanted o' (yielded l.toArray a.tmps) = true := by unfold Region.wanted; rw [hg]
      have e2 : Region.wanted (shiftOp n o') (yielded (shiftL n l).toArray a.tmps) = true := by unfold Region.wanted; rw [show (shiftOp n o').guard = o'.guard from rfl, hg]
      rw [if_pos e1]
      rw [if_pos e2] at h2
      exact h2
    refine h4.mono fun v w' hv => ?_
    have := ih (B.setIfInBounds (i - n) true) _ _ (by simpa using hB) hv
    rw [show (Array.replicate n true ++ B).setIfInBounds i true = Array.replicate n true ++ B.setIfInBounds (i - n) true by
      apply Array.ext_getElem?
      intro j
      rw [Array.getElem?_setIfInBounds]
      by_cases hj : j < n
      · have : i ≠ j := by omega
        rw [if_neg this, Array.getElem?_append_left (by simpa using hj), Array.getElem?_append_left (by simpa using hj)]
      · have hjn : n ≤ j := by omega
        rw [Array.getElem?_append_right (by simpa using hjn), Array.getElem?_append_right (by simpa using hjn), Array.getElem?_setIfInBounds]
        by_cases e : i = j
        · subst e
          have h9 : (i < n + B.size) = (i - n < B.size) := propext (by omega)
          simp [h9]
        · have : ¬ (i - n = j - n) := by omega
          simp [e, this]]
    exact this
variable {C : Cx} {ρ : Slots} {Γ : List Chunk}
theorem To.anyRegion {id : Nat} {R : Exit → Act → World → Prop} (hm : P.follows .mixedOrders = true) (h : To C ρ Γ (AnyQ P l (R .normal))) : To C ρ Γ ((Code.region id l.toArray true).wp P R) := fun a w ha hp => by
  refine wp_region_any hm (AnyI.any (fun _ _ h => h) _ _ _ _ ?_)
  have := h a w.drew ha (hp.ext (Ext.drew_ w))
  simpa [AnyQ] using this
theorem To.anyFlow (Θ : List Chunk) (ms : List Meta) (hB : flowB l ms = true) (hΘ : ∀ w, oks Γ w → oks Θ w) (h : FlowS P l Θ Q ms C ρ Γ []) : To C ρ Γ (AnyQ P l Q) := fun a w ha hp => by
  have hS := hΘ w hp.sat.each
  have hfl := h a w [] ha hp trivial
  have hx : Ext w w := Ext.rfl_ w
  show AnyI P l.toArray Q l.length (Array.replicate l.length false) a w
  refine any_of_inv (S := oks Θ) (ms := ms) (a0 := a) hB (fun _ _ => oks_ext) _ _ _ _ ?_ ?_
  · have hno : ∀ j, ¬ exd (Array.replicate l.length false) j := fun j => by
      unfold exd
      simp only [Array.getD_eq_getD_getElem?, Array.getElem?_replicate]
      split <;> simp
    exact ⟨[], ms, a, w, [], fun _ => undef, fun _ => w, fun _ => w, rfl, by simp, fun i o _ hx => (hno i hx).elim, ⟨rfl, rfl, fun _ _ => rfl, fun j _ _ _ _ hx => (hno j hx).elim⟩,
      ⟨rfl, rfl, fun _ _ => rfl, fun j _ _ _ _ hx => by obtain ⟨m, hm, _⟩ := hx; simp at hm⟩, hfl, hx, hS, fun p hp => by simp at hp, fun j hx => (hno j hx).elim, fun i _ hx => (hno i hx).elim, fun p hp => by simp at hp, fun p _ hx => (hno _ hx).elim⟩
  · simp [List.countP_replicate]
theorem To.anySplit (m p : Nat) (hne : Nat.beq m p = false) (hpl : plainGo3 m p 0 l = true) (h1 : To C ρ Γ (AnyQ P (tie l m p) Q)) (h2 : To C ρ Γ (AnyQ P (tie l p m) Q)) : To C ρ Γ (AnyQ P l Q) := fun a w ha hp => by
  have g1 := h1 a w ha hp
  have g2 := h2 a w ha hp
  unfold AnyQ at *
  rw [tie_len] at g1 g2
  have hno : ∀ j, (Array.replicate l.length false).getD j false = false := fun j => by
    simp only [Array.getD_eq_getD_getElem?, Array.getElem?_replicate]
    split <;> rfl
  refine any_split3 (fun e => by rw [e, Nat.beq_refl] at hne; cases hne) (fun i o ho => ?_) _ _ _ _ g1 g2 (hno p) (hno m)
  have := plainGo3_at hpl ho
  rw [Nat.zero_add] at this
  exact this.imp noCall_of id
theorem To.anyCut (n : Nat) (hc : cutB n l = true) (h : To C ρ Γ (AnyQ P (l.take n) (AnyQ P (shiftL n l) Q))) : To C ρ Γ (AnyQ P l Q) := fun a w ha hp => by
  have c := cutB_ok hc
  have g := h a w ha hp
  have hl : (l.take n).length = n := by rw [List.length_take]; exact Nat.min_eq_left c.le
  unfold AnyQ at g ⊢
  rw [hl] at g
  have hs : (shiftL n l).length = l.length - n := by unfold shiftL; simp
  have := cut1 (f2 := l.length - n) c (B := Array.replicate (l.length - n) false) rfl (fun a w hq => cut2 c _ _ _ _ (by simp) (by rw [hs] at hq; exact hq)) n (Array.replicate n false) a w (by simp) (fun k ok _ hk => by rw [Array.getD_eq_getD_getElem?, Array.getElem?_replicate] at hk; split at hk <;> cases hk) g
  rw [show n + (l.length - n) = l.length by have := c.le; omega] at this
  rw [show Array.replicate l.length false = Array.replicate n false ++ Array.replicate (l.length - n) false by
    rw [Array.replicate_append_replicate]; congr 1; have := c.le; omega]
  exact this
end
end Go.Sep
