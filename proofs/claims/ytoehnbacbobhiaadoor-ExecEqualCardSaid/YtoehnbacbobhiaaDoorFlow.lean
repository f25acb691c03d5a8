import Derived.Orders
import Derived.Below
import Derived.Tactics
import Derived.Tactics2
import Derived.Deep.MidRow
namespace Go.Flow
open Go.RowKit

/-- w' is w with new blocks and another count of draws. -/
structure Ext (w w' : World) : Prop extends Below w.heap.size w w' where
  drawn : w.drawn ≤ w'.drawn
theorem Ext.rfl_ (w : World) : Ext w w := ⟨Below.refl _ _, Nat.le_refl _⟩
theorem Ext.tr {a b c : World} (h : Ext a b) (k : Ext b c) : Ext a c :=
  ⟨⟨k.os.trans h.os, k.tape.trans h.tape, k.output.trans h.output, Nat.le_trans h.size k.size, fun i hi => (k.block i (Nat.lt_of_lt_of_le hi h.size)).trans (h.block i hi)⟩, Nat.le_trans h.drawn k.drawn⟩

structure Meta where
  i : Nat
  deps : List Nat
  kind : Nat

/-- What a call or another operation comes to. -/
def upTo (P : Program) (K : Value → World → Prop) : Result Next → Prop
  | .ok (.value v) w' => K v w'
  | .ok .skip w' => K undef w'
  | .ok (.enter f args) w' => Calls P f args w' fun e w'' => ∃ v, e = .returned v ∧ K v w''
  | .ok (.row row args) w' => Rows P row args w' K
  | _ => False
def valTo (K : Value → World → Prop) : Result Next → Prop
  | .ok (.value v) w' => K v w'
  | .ok .skip w' => K undef w'
  | _ => False

def OpTo (P : Program) (ops : Array Oper) (o : Oper) (a : Act) (w : World) (K : Value → World → Prop) : Prop :=
  if Region.wanted o (yielded ops a.tmps) = true then upTo P K ((execOp a.eval o).run P w) else K undef w
def ValTo (P : Program) (ops : Array Oper) (o : Oper) (a : Act) (w : World) (K : Value → World → Prop) : Prop :=
  if Region.wanted o (yielded ops a.tmps) = true then valTo K ((execOp a.eval o).run P w) else K undef w

/-- Of two that made memory one came behind the other. -/
def InTurn (h : List (Nat × World × World)) : Prop := ∀ p ∈ h, ∀ q ∈ h, p.1 ≠ q.1 → Ext p.2.2 q.2.1 ∨ Ext q.2.2 p.2.1

def Flow (P : Program) (ops : Array Oper) (S : World → Prop) (Q : Act → World → Prop) : List (Oper × Meta) → Act → World → List (Nat × World × World) → Prop
  | [], a, b, h => ∀ w, Ext b w → S w → (∀ p ∈ h, Ext p.2.2 w) → InTurn h → Q a w
  | (o, m) :: rest, a, b, h =>
    match m.kind with
    | 0 => ∃ v, (∀ w, S w → ValTo P ops o a w fun v' w' => v' = v ∧ w' = w) ∧ Flow P ops S Q rest (a.put o.dst v) b h
    | 1 => ∀ w, Ext b w → S w → (∀ p ∈ h, p.1 ∈ m.deps → Ext p.2.2 w) → ValTo P ops o a w fun v w' => Ext w w' ∧ Flow P ops S Q rest (a.put o.dst v) b h
    | 2 => ∀ w, Ext b w → S w → (∀ p ∈ h, p.1 ∈ m.deps → Ext p.2.2 w) → ValTo P ops o a w fun v w' => Ext w w' ∧ Flow P ops S Q rest (a.put o.dst v) b ((m.i, w, w') :: h)
    | 3 => ∀ w, Ext b w → S w → (∀ p ∈ h, p.1 ∈ m.deps → Ext p.2.2 w) → OpTo P ops o a w fun v w' => Ext w w' ∧ Flow P ops S Q rest (a.put o.dst v) b h
    | 4 => ∀ w, Ext b w → S w → (∀ p ∈ h, p.1 ∈ m.deps → Ext p.2.2 w) → OpTo P ops o a w fun v w' => Ext w w' ∧ Flow P ops S Q rest (a.put o.dst v) b ((m.i, w, w') :: h)
    | _ => ∀ w, Ext b w → S w → (∀ p ∈ h, Ext p.2.2 w) → InTurn h → OpTo P ops o a w fun v w' => S w' ∧ Flow P ops S Q rest (a.put o.dst v) w' []

/-! ### looking at a frame -/
theorem exec_same {ops : Array Oper} {o : Oper} (hs : ∀ cs b, o.op ≠ .select cs b) {a a' : Act} (h : ∀ t ∈ o.looksAt ops, a.tmps[t]? = a'.tmps[t]?) :
    execOp a.eval o = execOp a'.eval o ∧ Region.wanted o (yielded ops a.tmps) = Region.wanted o (yielded ops a'.tmps) := by
  constructor
  · refine execOp_congr o hs fun x hx => ?_
    cases x with
    | tmp t =>
      have := h t (List.mem_append_left _ (List.mem_filterMap.2 ⟨.tmp t, by simpa using hx, rfl⟩))
      simp only [Act.eval, Array.getD_eq_getD_getElem?, this]
    | const v => rfl
    | global g => rfl
    | func f => rfl
  · unfold Region.wanted
    cases hg : o.guard with
    | none => rfl
    | some gw =>
      obtain ⟨g, want⟩ := gw
      have hy : yielded ops a.tmps g = yielded ops a'.tmps g := by
        unfold yielded
        cases ht : (ops[g]?).bind (·.dst) with
        | none => rfl
        | some t =>
          have := h t (List.mem_append_right _ (by simp [hg, ht]))
          simp only [Option.bind_some, this]
      simp only [hy]

theorem ValTo.same {P : Program} {ops : Array Oper} {o : Oper} (hs : ∀ cs b, o.op ≠ .select cs b) {a a' : Act} (h : ∀ t ∈ o.looksAt ops, a.tmps[t]? = a'.tmps[t]?) {w : World} {K : Value → World → Prop}
    (k : ValTo P ops o a w K) : ValTo P ops o a' w K := by
  obtain ⟨h1, h2⟩ := exec_same hs h
  unfold ValTo at *
  rw [← h1, ← h2]; exact k
theorem OpTo.same {P : Program} {ops : Array Oper} {o : Oper} (hs : ∀ cs b, o.op ≠ .select cs b) {a a' : Act} (h : ∀ t ∈ o.looksAt ops, a.tmps[t]? = a'.tmps[t]?) {w : World} {K : Value → World → Prop}
    (k : OpTo P ops o a w K) : OpTo P ops o a' w K := by
  obtain ⟨h1, h2⟩ := exec_same hs h
  unfold OpTo at *
  rw [← h1, ← h2]; exact k

theorem valTo_some {K : Value → World → Prop} {r : Result Next} (h : valTo K r) : ∃ v w, K v w ∧ ∀ K', valTo K' r ↔ K' v w := by
  unfold valTo at *
  split at h
  · rename_i v w; exact ⟨v, w, h, fun K' => Iff.rfl⟩
  · rename_i w; exact ⟨undef, w, h, fun K' => Iff.rfl⟩
  · exact h.elim
/-- What a plain operation comes to is one value and one world. -/
theorem ValTo.one {P : Program} {ops : Array Oper} {o : Oper} {a : Act} {w : World} {K : Value → World → Prop} (k : ValTo P ops o a w K) :
    ∃ v w', K v w' ∧ ∀ K', ValTo P ops o a w K' ↔ K' v w' := by
  unfold ValTo at *
  split at k
  · rename_i hw
    obtain ⟨v, w', h1, h2⟩ := valTo_some k
    exact ⟨v, w', h1, fun K' => by rw [if_pos hw]; exact h2 K'⟩
  · rename_i hw
    exact ⟨undef, w, k, fun K' => by rw [if_neg hw]⟩
theorem ValTo.op {P : Program} {ops : Array Oper} {o : Oper} {a : Act} {w : World} {K : Value → World → Prop} (k : ValTo P ops o a w K) : OpTo P ops o a w K := by
  unfold ValTo at k
  unfold OpTo
  split at k
  · rename_i hw
    rw [if_pos hw]
    unfold valTo at k
    split at k
    · rename_i he; rw [he]; exact k
    · rename_i he; rw [he]; exact k
    · exact k.elim
  · rename_i hw
    rw [if_neg hw]; exact k
/-- Something that it can come to. -/
theorem OpTo.some_ {P : Program} {ops : Array Oper} {o : Oper} {a : Act} {w : World} {K : Value → World → Prop} (k : OpTo P ops o a w K) : ∃ v w', K v w' := by
  unfold OpTo at k
  split at k
  · unfold upTo at k
    split at k
    · exact ⟨_, _, k⟩
    · exact ⟨_, _, k⟩
    · obtain ⟨e, w', fr, ⟨v, _, hv⟩, _⟩ := k []
      exact ⟨v, w', hv⟩
    · obtain ⟨v, w', hv, _⟩ := k default []
      exact ⟨v, w', hv⟩
    · exact k.elim
  · exact ⟨_, _, k⟩
theorem OpTo.wpOp {P : Program} {ops : Array Oper} {Q : Exit → Act → World → Prop} {i : Nat} {o : Oper} (ho : ops[i]? = some o) {a : Act} {w : World} {K : Value → World → Prop} {K' : Act → World → Prop}
    (k : OpTo P ops o a w K) (hk : ∀ v w', K v w' → K' (a.put o.dst v) w') : wpOp P ops Q i K' a w := by
  unfold Go.wpOp
  simp only [ho]
  unfold OpTo at k
  split at k
  · rename_i hw
    rw [if_pos hw]
    refine .inl ?_
    unfold Oper.wp
    unfold upTo at k
    split at k
    · rename_i he; rw [he]; exact hk _ _ k
    · rename_i he; rw [he]; exact hk _ _ k
    · rename_i he; rw [he]
      refine Calls.mono k fun e w'' hh => ?_
      obtain ⟨v, rfl, hv⟩ := hh
      exact hk _ _ hv
    · rename_i he; rw [he]
      exact Rows.mono k fun v w'' hv => hk _ _ hv
    · exact k.elim
  · rename_i hw
    rw [if_neg hw]
    exact hk _ _ k

theorem OpTo.mono {P : Program} {ops : Array Oper} {o : Oper} {a : Act} {w : World} {K K' : Value → World → Prop} (k : OpTo P ops o a w K) (hk : ∀ v w', K v w' → K' v w') : OpTo P ops o a w K' := by
  unfold OpTo at k ⊢
  split
  · rename_i hw
    rw [if_pos hw] at k
    unfold upTo at k ⊢
    split at k
    · exact hk _ _ k
    · exact hk _ _ k
    · exact Calls.mono k fun e w'' ⟨v, h1, h2⟩ => ⟨v, h1, hk _ _ h2⟩
    · exact Rows.mono k fun v w'' hv => hk _ _ hv
    · exact k.elim
  · rename_i hw
    rw [if_neg hw] at k
    exact hk _ _ k
/-- One operation of a region, by its number. -/
def OpI (P : Program) (ops : Array Oper) (i : Nat) (K : Act → World → Prop) (a : Act) (w : World) : Prop :=
  ∃ o, ops[i]? = some o ∧ OpTo P ops o a w fun v w' => K (a.put o.dst v) w'
theorem OpTo.opI {P : Program} {ops : Array Oper} {i : Nat} {o : Oper} (ho : ops[i]? = some o) {a : Act} {w : World} {K : Value → World → Prop} {K' : Act → World → Prop}
    (k : OpTo P ops o a w K) (hk : ∀ v w', K v w' → K' (a.put o.dst v) w') : OpI P ops i K' a w := ⟨o, ho, k.mono hk⟩
theorem OpI.mono {P : Program} {ops : Array Oper} {i : Nat} {a : Act} {w : World} {K K' : Act → World → Prop} (k : OpI P ops i K a w) (hk : ∀ a w, K a w → K' a w) : OpI P ops i K' a w := by
  obtain ⟨o, h1, h2⟩ := k
  exact ⟨o, h1, h2.mono fun v w' h => hk _ _ h⟩
/-- Whatever the order. -/
def AnyI (P : Program) (ops : Array Oper) (Q : Act → World → Prop) : Nat → Array Bool → Act → World → Prop
  | 0, listed, a, w => Region.ready .any ops listed = [] ∧ Q a w
  | fuel + 1, listed, a, w => (Region.ready .any ops listed = [] → Q a w) ∧ ∀ i ∈ Region.ready .any ops listed, OpI P ops i (AnyI P ops Q fuel (listed.setIfInBounds i true)) a w
theorem AnyI.any {P : Program} {ops : Array Oper} {Q : Act → World → Prop} {R : Exit → Act → World → Prop} (hR : ∀ a w, Q a w → R .normal a w) : ∀ (fuel : Nat) (listed : Array Bool) (a : Act) (w : World), AnyI P ops Q fuel listed a w → wpAny P .any ops R fuel listed a w
  | 0, _, _, _, h => ⟨h.1, hR _ _ h.2⟩
  | fuel + 1, _, a, w, h => ⟨fun hr => hR _ _ (h.1 hr), fun i hi => by
      obtain ⟨o, h1, h2⟩ := h.2 i hi
      exact h2.wpOp h1 fun v w' hv => AnyI.any hR fuel _ _ _ hv⟩

/-! ### the region's edges -/
def direct (o : Oper) : List Nat := (o.after.toList.filter (Region.binds .any)).map (·.on)
def maskOf (o : Oper) (acc : List Nat) : Nat := (direct o).foldl (fun s k => s ||| (2 ^ k ||| acc.getD k 0)) 0
def ancMask : List Oper → List Nat → List Nat
  | [], acc => acc
  | o :: r, acc => ancMask r (acc ++ [maskOf o acc])
/-- j comes before i, whatever the order. -/
def anc (l : List Oper) (i j : Nat) : Bool := ((ancMask l []).getD i 0).testBit j

theorem foldl_testBit (g : Nat → Nat) (ks : List Nat) : ∀ (s j : Nat), (ks.foldl (fun s k => s ||| g k) s).testBit j = true → s.testBit j = true ∨ ∃ k ∈ ks, (g k).testBit j = true := by
  induction ks with
  | nil => intro s j h; exact .inl h
  | cons k ks ih =>
    intro s j h
    rcases ih _ _ h with h | ⟨k', hk', h⟩
    · rw [Nat.testBit_or, Bool.or_eq_true] at h
      rcases h with h | h
      · exact .inl h
      · exact .inr ⟨k, List.mem_cons_self, h⟩
    · exact .inr ⟨k', List.mem_cons_of_mem _ hk', h⟩

theorem ancMask_spec : ∀ (l : List Oper) (acc : List Nat), ∃ tl, ancMask l acc = acc ++ tl ∧ tl.length = l.length ∧
    ∀ k o, l[k]? = some o → ∀ j, ((ancMask l acc).getD (acc.length + k) 0).testBit j = true → ∃ d ∈ direct o, d = j ∨ (d < acc.length + k ∧ ((ancMask l acc).getD d 0).testBit j = true) := by
  intro l
  induction l with
  | nil => intro acc; exact ⟨[], by simp [ancMask], rfl, fun k o h => by simp at h⟩
  | cons o l ih =>
    intro acc
    obtain ⟨tl, e, hlen, hspec⟩ := ih (acc ++ [maskOf o acc])
    refine ⟨maskOf o acc :: tl, by rw [ancMask, e]; simp, by simp [hlen], fun k o' hk j hj => ?_⟩
    cases k with
    | zero =>
      simp only [List.getElem?_cons_zero, Option.some.injEq] at hk
      subst hk
      rw [ancMask, e] at hj ⊢
      have h0 : ((acc ++ [maskOf o acc]) ++ tl).getD (acc.length + 0) 0 = maskOf o acc := by simp
      rw [h0] at hj
      rcases foldl_testBit _ _ _ _ hj with h | ⟨d, hd, h⟩
      · simp at h
      · refine ⟨d, hd, ?_⟩
        rw [Nat.testBit_or, Bool.or_eq_true] at h
        rcases h with h | h
        · left
          rw [Nat.testBit_two_pow] at h
          simpa using h
        · right
          by_cases hlt : d < acc.length
          · refine ⟨by omega, ?_⟩
            have : ((acc ++ [maskOf o acc]) ++ tl).getD d 0 = acc.getD d 0 := by
              simp only [List.getD_eq_getElem?_getD, List.append_assoc]
              rw [List.getElem?_append_left hlt]
            rw [this]; exact h
          · simp only [List.getD_eq_getElem?_getD, List.getElem?_eq_none (by omega : acc.length ≤ d)] at h
            simp at h
    | succ k =>
      have hk' : l[k]? = some o' := by simpa using hk
      have e1 : (acc ++ [maskOf o acc]).length + k = acc.length + (k + 1) := by simp; omega
      have := hspec k o' hk' j (by rw [e1]; exact hj)
      rw [e1] at this
      exact this

theorem anc_step {l : List Oper} {i j : Nat} {o : Oper} (ho : l[i]? = some o) (h : anc l i j = true) : ∃ d ∈ direct o, d = j ∨ (d < i ∧ anc l d j = true) := by
  obtain ⟨tl, e, hlen, hspec⟩ := ancMask_spec l []
  have := hspec i o ho j (by simpa [anc] using h)
  simpa [anc] using this

theorem anc_lt {l : List Oper} {i j : Nat} (h : anc l i j = true) : i < l.length := by
  obtain ⟨tl, e, hlen, hspec⟩ := ancMask_spec l []
  unfold anc at h
  rw [e] at h
  rcases Nat.lt_or_ge i l.length with hlt | hge
  · exact hlt
  · simp [List.getElem?_eq_none (by omega : tl.length ≤ i)] at h

/-- What is closed under the edges is closed under 'anc'. -/
theorem anc_closed {l : List Oper} {X : Nat → Prop} (hc : ∀ i o, l[i]? = some o → X i → ∀ d ∈ direct o, X d) : ∀ i j, X i → anc l i j = true → X j := by
  intro i
  induction i using Nat.strongRecOn with
  | ind i ih =>
    intro j hX h
    have hlt := anc_lt h
    have ho : l[i]? = some l[i] := List.getElem?_eq_getElem hlt
    obtain ⟨d, hd, hj⟩ := anc_step ho h
    have hXd := hc i _ ho hX d hd
    rcases hj with rfl | ⟨hdi, hj⟩
    · exact hXd
    · exact ih d hdi j hXd hj

/-- The table once reckoned. -/
def okPos (l : List Oper) (A : List Nat) (pre : List Meta) (m : Meta) (post : List Meta) : Bool :=
  (match l[m.i]? with
   | some o =>
     (direct o).all (fun d => pre.any (fun p => p.i == d)) &&
     (match o.op with | .select .. => false | _ => true) &&
     (o.looksAt l.toArray).all (fun t => l.zipIdx.all fun (oj, j) => oj.dst != some t || j == m.i || (A.getD m.i 0).testBit j || (A.getD j 0).testBit m.i) &&
     (match o.dst with | some d => l.zipIdx.all fun (oj, j) => oj.dst != some d || j == m.i | none => true)
   | none => false) &&
  m.deps.all (fun j => (A.getD m.i 0).testBit j) &&
  (decide (m.kind < 3) || pre.all fun p => p.kind == 0 || (A.getD m.i 0).testBit p.i) &&
  (decide (m.kind < 5) || post.all fun p => (A.getD p.i 0).testBit m.i) &&
  !(pre.any fun p => p.i == m.i)
def okFrom (l : List Oper) (A : List Nat) : List Meta → List Meta → Bool
  | _, [] => true
  | pre, m :: rest => okPos l A pre m rest && okFrom l A (pre ++ [m]) rest
def flowB (l : List Oper) (ms : List Meta) : Bool :=
  (List.range l.length).all (fun i => ms.any fun m => m.i == i) && okFrom l (ancMask l []) [] ms

structure Good (l : List Oper) (pre : List Meta) (m : Meta) (post : List Meta) (o : Oper) : Prop where
  at_ : l[m.i]? = some o
  edges : ∀ d ∈ direct o, ∃ p ∈ pre, p.i = d
  nosel : ∀ cs b, o.op ≠ .select cs b
  looks : ∀ t ∈ o.looksAt l.toArray, ∀ j oj, l[j]? = some oj → oj.dst = some t → j = m.i ∨ anc l m.i j = true ∨ anc l j m.i = true
  alone : ∀ t, o.dst = some t → ∀ j oj, l[j]? = some oj → oj.dst = some t → j = m.i
  deps : ∀ j ∈ m.deps, anc l m.i j = true
  calls : 3 ≤ m.kind → ∀ p ∈ pre, p.kind ≠ 0 → anc l m.i p.i = true
  bars : 5 ≤ m.kind → ∀ p ∈ post, anc l p.i m.i = true
  new : ∀ p ∈ pre, p.i ≠ m.i

theorem good_of {l : List Oper} {pre post : List Meta} {m : Meta} (h : okPos l (ancMask l []) pre m post = true) : ∃ o, Good l pre m post o := by
  unfold okPos at h
  simp only [Bool.and_eq_true] at h
  obtain ⟨⟨⟨⟨h1, h2⟩, h3⟩, h4⟩, h5⟩ := h
  cases ho : l[m.i]? with
  | none => simp [ho] at h1
  | some o =>
    simp only [ho, Bool.and_eq_true] at h1
    obtain ⟨⟨⟨e1, e2⟩, e3⟩, e4⟩ := h1
    refine ⟨o, ho, fun d hd => ?_, fun cs b hsel => ?_, fun t ht j oj hj hdst => ?_, fun t ht j oj hj hdst => ?_, fun j hj => ?_, fun hk p hp hp0 => ?_, fun hk p hp => ?_, fun p hp hpi => ?_⟩
    · have := List.all_eq_true.1 e1 d hd
      simp only [List.any_eq_true, beq_iff_eq] at this
      exact this
    · rw [hsel] at e2; simp at e2
    · have := List.all_eq_true.1 (List.all_eq_true.1 e3 t ht) (oj, j) (List.mem_zipIdx_iff_getElem?.2 hj)
      simp only [hdst, bne_self_eq_false, Bool.false_or, Bool.or_eq_true, beq_iff_eq] at this
      rcases this with (h | h) | h
      · exact .inl h
      · exact .inr (.inl h)
      · exact .inr (.inr h)
    · rw [ht] at e4
      have := List.all_eq_true.1 e4 (oj, j) (List.mem_zipIdx_iff_getElem?.2 hj)
      simpa [hdst] using this
    · exact List.all_eq_true.1 h2 j hj
    · simp only [Bool.or_eq_true, decide_eq_true_eq] at h3
      rcases h3 with h3 | h3
      · omega
      · have := List.all_eq_true.1 h3 p hp
        simp only [Bool.or_eq_true, beq_iff_eq] at this
        exact this.resolve_left hp0
    · simp only [Bool.or_eq_true, decide_eq_true_eq] at h4
      rcases h4 with h4 | h4
      · omega
      · exact List.all_eq_true.1 h4 p hp
    · simp only [Bool.not_eq_true'] at h5
      have := List.any_eq_false.1 h5 p hp
      simp [hpi] at this

theorem okFrom_split {l : List Oper} {A : List Nat} : ∀ (ms pre : List Meta), okFrom l A pre ms = true → ∀ x m y, ms = x ++ m :: y → okPos l A (pre ++ x) m y = true := by
  intro ms
  induction ms with
  | nil => intro pre _ x m y h; simp at h
  | cons m0 ms ih =>
    intro pre h x m y e
    simp only [okFrom, Bool.and_eq_true] at h
    cases x with
    | nil =>
      simp only [List.nil_append, List.cons.injEq] at e
      obtain ⟨rfl, rfl⟩ := e
      simpa using h.1
    | cons x0 x =>
      simp only [List.cons_append, List.cons.injEq] at e
      obtain ⟨rfl, e⟩ := e
      have := ih _ h.2 x m y e
      simpa using this

/-! ### frames -/
def FrameIs (l : List Oper) (a0 a : Act) (ex : Nat → Prop) (val : Nat → Value) : Prop :=
  a.defers = a0.defers ∧ a.tmps.size = a0.tmps.size ∧
  (∀ t, (∀ j oj, l[j]? = some oj → oj.dst = some t → ¬ ex j) → a.tmps[t]? = a0.tmps[t]?) ∧
  (∀ j oj t, l[j]? = some oj → oj.dst = some t → ex j → t < a0.tmps.size → a.tmps[t]? = some (val j))

theorem put_getElem_ne {a : Act} {dst : Option Tmp} {v : Value} {t : Nat} (h : dst ≠ some t) : (a.put dst v).tmps[t]? = a.tmps[t]? := by
  cases dst with
  | none => rfl
  | some d =>
    have : d ≠ t := fun e => h (by rw [e])
    simp [Act.put, Array.getElem?_setIfInBounds_ne this]
theorem put_getElem_eq {a : Act} {d : Nat} {v : Value} (h : d < a.tmps.size) : (a.put (some d) v).tmps[d]? = some v := by
  simp [Act.put, Array.getElem?_setIfInBounds_self_of_lt h]
theorem put_size {a : Act} {dst : Option Tmp} {v : Value} : (a.put dst v).tmps.size = a.tmps.size := by cases dst <;> simp [Act.put]
theorem put_defers {a : Act} {dst : Option Tmp} {v : Value} : (a.put dst v).defers = a.defers := by cases dst <;> simp [Act.put]

theorem FrameIs.put {l : List Oper} {a0 a : Act} {ex ex' : Nat → Prop} {val val' : Nat → Value} (h : FrameIs l a0 a ex val) {i : Nat} {o : Oper} (ho : l[i]? = some o)
    (alone : ∀ t, o.dst = some t → ∀ j oj, l[j]? = some oj → oj.dst = some t → j = i) (hex : ∀ j, ex' j ↔ (ex j ∨ j = i)) (hval : ∀ j, ex j → j ≠ i → val' j = val j) (v : Value) (hv : val' i = v) :
    FrameIs l a0 (a.put o.dst v) ex' val' := by
  obtain ⟨h1, h2, h3, h4⟩ := h
  refine ⟨by rw [put_defers]; exact h1, by rw [put_size]; exact h2, fun t ht => ?_, fun j oj t hj hdst hexj hlt => ?_⟩
  · have hne : o.dst ≠ some t := fun e => ht i o ho e ((hex i).2 (.inr rfl))
    rw [put_getElem_ne hne]
    exact h3 t fun j oj hj hdst hexj => ht j oj hj hdst ((hex j).2 (.inl hexj))
  · by_cases hji : j = i
    · subst hji
      have e : oj = o := by rw [ho] at hj; exact (Option.some.inj hj).symm
      subst e
      rw [hdst, put_getElem_eq (by rw [h2]; exact hlt), hv]
    · have hne : o.dst ≠ some t := fun e => hji (alone t e j oj hj hdst)
      rw [put_getElem_ne hne]
      have hexj' : ex j := ((hex j).1 hexj).resolve_right hji
      rw [hval j hexj' hji]
      exact h4 j oj t hj hdst hexj' hlt
theorem FrameIs.congr {l : List Oper} {a0 a : Act} {ex ex' : Nat → Prop} {val val' : Nat → Value} (h : FrameIs l a0 a ex val) (hex : ∀ j oj, l[j]? = some oj → (ex' j ↔ ex j)) (hval : ∀ j, ex j → val' j = val j) : FrameIs l a0 a ex' val' := by
  obtain ⟨h1, h2, h3, h4⟩ := h
  refine ⟨h1, h2, fun t ht => h3 t fun j oj hj hd hexj => ht j oj hj hd ((hex j oj hj).2 hexj), fun j oj t hj hdst hexj hlt => ?_⟩
  have := (hex j oj hj).1 hexj
  rw [hval j this]
  exact h4 j oj t hj hdst this hlt
theorem FrameIs.eq {l : List Oper} {a0 a a' : Act} {ex : Nat → Prop} {val : Nat → Value} (h : FrameIs l a0 a ex val) (h' : FrameIs l a0 a' ex val) : a = a' := by
  obtain ⟨h1, h2, h3, h4⟩ := h
  obtain ⟨k1, k2, k3, k4⟩ := h'
  have ht : a.tmps = a'.tmps := by
    apply Array.ext_getElem?
    intro t
    by_cases hlt : t < a0.tmps.size
    · by_cases hown : ∃ j oj, l[j]? = some oj ∧ oj.dst = some t ∧ ex j
      · obtain ⟨j, oj, hj, hd, he⟩ := hown
        rw [h4 j oj t hj hd he hlt, k4 j oj t hj hd he hlt]
      · have hn : ∀ j oj, l[j]? = some oj → oj.dst = some t → ¬ ex j := fun j oj hj hd he => hown ⟨j, oj, hj, hd, he⟩
        rw [h3 t hn, k3 t hn]
    · rw [Array.getElem?_eq_none (by omega), Array.getElem?_eq_none (by omega)]
  cases a; cases a'
  simp only at ht h1 k1
  rw [ht, h1, k1]

/-- The slots that an operation looks at hold what those before it have given, or what they held at the region's head. -/
def LooksOk (l : List Oper) (a0 : Act) (i : Nat) (o : Oper) (val : Nat → Value) (a : Act) : Prop :=
  a.tmps.size = a0.tmps.size ∧ ∀ t ∈ o.looksAt l.toArray,
    (∀ j oj, l[j]? = some oj → oj.dst = some t → anc l i j = true → t < a0.tmps.size → a.tmps[t]? = some (val j)) ∧
    ((∀ j oj, l[j]? = some oj → oj.dst = some t → anc l i j = false) → a.tmps[t]? = a0.tmps[t]?)

theorem LooksOk.agree {l : List Oper} {a0 a a' : Act} {i : Nat} {o : Oper} {val val' : Nat → Value} (h : LooksOk l a0 i o val a) (h' : LooksOk l a0 i o val' a') (hv : ∀ j, anc l i j = true → val j = val' j) :
    ∀ t ∈ o.looksAt l.toArray, a.tmps[t]? = a'.tmps[t]? := by
  intro (t : Nat) ht
  obtain ⟨h1, h2⟩ := h.2 t ht
  obtain ⟨k1, k2⟩ := h'.2 t ht
  by_cases hlt : t < a0.tmps.size
  · by_cases hown : ∃ j oj, l[j]? = some oj ∧ oj.dst = some t ∧ anc l i j = true
    · obtain ⟨j, oj, hj, hd, he⟩ := hown
      rw [h1 j oj hj hd he hlt, k1 j oj hj hd he hlt, hv j he]
    · have hn : ∀ j oj, l[j]? = some oj → oj.dst = some t → anc l i j = false := fun j oj hj hd => by
        cases hb : anc l i j with
        | false => rfl
        | true => exact (hown ⟨j, oj, hj, hd, hb⟩).elim
      rw [h2 hn, k2 hn]
  · have e1 : a.tmps[t]? = none := Array.getElem?_eq_none (by have := h.1; omega)
    have e2 : a'.tmps[t]? = none := Array.getElem?_eq_none (by have := h'.1; omega)
    rw [e1, e2]
theorem LooksOk.val {l : List Oper} {a0 a : Act} {i : Nat} {o : Oper} {val val' : Nat → Value} (h : LooksOk l a0 i o val a) (hv : ∀ j, anc l i j = true → val' j = val j) : LooksOk l a0 i o val' a :=
  ⟨h.1, fun t ht => ⟨fun j oj hj hd he hlt => by rw [hv j he]; exact (h.2 t ht).1 j oj hj hd he hlt, (h.2 t ht).2⟩⟩

theorem FrameIs.looks {l : List Oper} {a0 a : Act} {ex : Nat → Prop} {val : Nat → Value} (h : FrameIs l a0 a ex val) {i : Nat} {o : Oper}
    (hl : ∀ t ∈ o.looksAt l.toArray, ∀ j oj, l[j]? = some oj → oj.dst = some t → j = i ∨ anc l i j = true ∨ anc l j i = true)
    (hi : ¬ ex i) (h1 : ∀ j, anc l i j = true → ex j) (h2 : ∀ j, anc l j i = true → ¬ ex j) : LooksOk l a0 i o val a :=
  ⟨h.2.1, fun t ht => ⟨fun j oj hj hd he hlt => h.2.2.2 j oj t hj hd (h1 j he) hlt, fun hn => h.2.2.1 t fun j oj hj hd hex => by
    rcases hl t ht j oj hj hd with rfl | he | he
    · exact hi hex
    · rw [hn j oj hj hd] at he; cases he
    · exact h2 j he hex⟩⟩

/-! ### the walk of any order is the canonical walk -/
def pick (l : List Oper) (ms : List Meta) : List (Oper × Meta) := ms.map fun m => (l.getD m.i default, m)
def exd (listed : Array Bool) (i : Nat) : Prop := listed.getD i false = true

section
variable {P : Program} {l : List Oper} {ms : List Meta} {S : World → Prop} {Q : Act → World → Prop} {a0 : Act}

structure RecOk (P : Program) (l : List Oper) (S : World → Prop) (a0 : Act) (b w : World) (val : Nat → Value) (pw qw : Nat → World) (m : Meta) : Prop where
  ok : ∃ o a', l[m.i]? = some o ∧ LooksOk l a0 m.i o val a' ∧
    ((m.kind = 0 ∧ ∃ w', S w' ∧ ValTo P l.toArray o a' w' fun v w'' => v = val m.i ∧ w'' = w') ∨
     ((m.kind = 1 ∨ m.kind = 2) ∧ Ext b (pw m.i) ∧ S (pw m.i) ∧ (∀ j ∈ m.deps, Ext (qw j) (pw m.i)) ∧ Ext (qw m.i) w ∧
       ValTo P l.toArray o a' (pw m.i) fun v w'' => v = val m.i ∧ w'' = qw m.i))

structure Inv (P : Program) (l : List Oper) (ms : List Meta) (S : World → Prop) (Q : Act → World → Prop) (a0 : Act) (listed : Array Bool) (a : Act) (w : World)
    (pre rem : List Meta) (ac : Act) (b : World) (h : List (Nat × World × World)) (val : Nat → Value) (pw qw : Nat → World) : Prop where
  split : ms = pre ++ rem
  size : listed.size = l.length
  closed : ∀ i o, l[i]? = some o → exd listed i → ∀ d ∈ direct o, exd listed d
  fa : FrameIs l a0 a (exd listed) val
  fc : FrameIs l a0 ac (fun j => ∃ m ∈ pre, m.i = j) val
  flow : Flow P l.toArray S Q (pick l rem) ac b h
  hb : Ext b w
  hS : S w
  hh : ∀ p ∈ h, p.2 = (pw p.1, qw p.1) ∧ exd listed p.1
  hq : ∀ j, exd listed j → Ext (qw j) w
  hpq : ∀ i j, exd listed i → exd listed j → i ≠ j → Ext (qw i) (pw j) ∨ Ext (qw j) (pw i)
  done : ∀ m ∈ pre, exd listed m.i ∨ (m.kind = 0 ∧ ∃ o a', l[m.i]? = some o ∧ LooksOk l a0 m.i o val a' ∧ ∀ w, S w → ValTo P l.toArray o a' w fun v w' => v = val m.i ∧ w' = w)
  recs : ∀ m ∈ rem, exd listed m.i → RecOk P l S a0 b w val pw qw m

theorem good_at (hB : flowB l ms = true) {pre : List Meta} {m : Meta} {post : List Meta} (e : ms = pre ++ m :: post) : ∃ o, Good l pre m post o := by
  simp only [flowB, Bool.and_eq_true] at hB
  have := okFrom_split ms [] hB.2 pre m post e
  exact good_of (by simpa using this)

/-- What stands ahead in the canonical order is closed under the edges. -/
theorem pre_closed (hB : flowB l ms = true) {pre rem : List Meta} (e : ms = pre ++ rem) : ∀ i o, l[i]? = some o → (∃ m ∈ pre, m.i = i) → ∀ d ∈ direct o, ∃ m ∈ pre, m.i = d := by
  rintro i o ho ⟨m, hm, rfl⟩ d hd
  obtain ⟨x, y, rfl⟩ := List.append_of_mem hm
  obtain ⟨o', g⟩ := good_at hB (pre := x) (m := m) (post := y ++ rem) (by rw [e]; simp)
  have : o' = o := by have := g.at_; rw [ho] at this; exact (Option.some.inj this).symm
  subst this
  obtain ⟨p, hp, hpd⟩ := g.edges d hd
  exact ⟨p, by simp [hp], hpd⟩

theorem anc_pre (hB : flowB l ms = true) {pre : List Meta} {m : Meta} {post : List Meta} {o : Oper} (e : ms = pre ++ m :: post) (g : Good l pre m post o) {j : Nat} (h : anc l m.i j = true) : ∃ p ∈ pre, p.i = j := by
  obtain ⟨d, hd, hj⟩ := anc_step g.at_ h
  have hp := g.edges d hd
  rcases hj with rfl | ⟨_, hj⟩
  · exact hp
  · exact anc_closed (X := fun j => ∃ p ∈ pre, p.i = j) (pre_closed hB (rem := m :: post) e) d j hp hj

theorem not_pre_of_anc (hB : flowB l ms = true) {pre : List Meta} {m : Meta} {post : List Meta} {o : Oper} (e : ms = pre ++ m :: post) (g : Good l pre m post o) {j : Nat} (h : anc l j m.i = true) : ¬ ∃ p ∈ pre, p.i = j := by
  intro hp
  obtain ⟨p, hp, hpi⟩ := anc_closed (X := fun j => ∃ p ∈ pre, p.i = j) (pre_closed hB (rem := m :: post) e) j m.i hp h
  exact g.new p hp hpi

theorem getD_of {i : Nat} {o : Oper} (h : l[i]? = some o) : l.getD i default = o := by simp [h]

/-- The canonical frame shows the head of what is left just what it looks at. -/
theorem canon_looks (hB : flowB l ms = true) {pre : List Meta} {m : Meta} {post : List Meta} {o : Oper} (e : ms = pre ++ m :: post) (g : Good l pre m post o) {ac : Act} {val : Nat → Value}
    (fc : FrameIs l a0 ac (fun j => ∃ m ∈ pre, m.i = j) val) : LooksOk l a0 m.i o val ac :=
  fc.looks g.looks (fun ⟨p, hp, hpi⟩ => g.new p hp hpi) (fun _ h => anc_pre hB e g h) (fun _ h => not_pre_of_anc hB e g h)

theorem fc_put (_hB : flowB l ms = true) {pre : List Meta} {m : Meta} {post : List Meta} {o : Oper} (_e : ms = pre ++ m :: post) (g : Good l pre m post o) {ac : Act} {val val' : Nat → Value}
    (fc : FrameIs l a0 ac (fun j => ∃ m ∈ pre, m.i = j) val) (v : Value) (hv : val' m.i = v) (hval : ∀ j, (∃ p ∈ pre, p.i = j) → val' j = val j) : FrameIs l a0 (ac.put o.dst v) (fun j => ∃ p ∈ pre ++ [m], p.i = j) val' := by
  refine fc.put g.at_ g.alone (fun j => ?_) (fun j hj _ => hval j hj) v hv
  constructor
  · rintro ⟨p, hp, hpj⟩
    rcases List.mem_append.1 hp with hp | hp
    · exact .inl ⟨p, hp, hpj⟩
    · have : p = m := by simpa using hp
      subst this; exact .inr hpj.symm
  · rintro (⟨p, hp, hpj⟩ | rfl)
    · exact ⟨p, by simp [hp], hpj⟩
    · exact ⟨m, by simp, rfl⟩

/-- Nothing that is carried out waits for what is not. -/
theorem not_anc_of_unlisted {listed : Array Bool} (closed : ∀ i o, l[i]? = some o → exd listed i → ∀ d ∈ direct o, exd listed d) {i j : Nat} (hi : ¬ exd listed i) (hj : exd listed j) : anc l j i = false := by
  cases h : anc l j i with
  | false => rfl
  | true => exact (hi (anc_closed closed j i hj h)).elim

/-- The head of what is left is let by: it has been carried out, or it is free. -/
theorem Inv.pop (hB : flowB l ms = true) {listed : Array Bool} {a : Act} {w : World} {pre : List Meta} {m : Meta} {post : List Meta} {ac : Act} {b : World} {h : List (Nat × World × World)} {val : Nat → Value} {pw qw : Nat → World}
    (I : Inv P l ms S Q a0 listed a w pre (m :: post) ac b h val pw qw) (hm : exd listed m.i ∨ m.kind = 0) :
    ∃ ac' h' val', Inv P l ms S Q a0 listed a w (pre ++ [m]) post ac' b h' val' pw qw := by
  obtain ⟨o, g⟩ := good_at hB I.split
  have hlk := canon_looks hB I.split g I.fc
  have hsplit : ms = (pre ++ [m]) ++ post := by rw [I.split]; simp
  have hfl := I.flow
  simp only [pick, List.map_cons, getD_of g.at_] at hfl
  by_cases hex : exd listed m.i
  · -- it has been carried out
    obtain ⟨o', a', ho', hl', hrec⟩ := (I.recs m (by simp) hex).ok
    have eo : o' = o := by have := g.at_; rw [ho'] at this; exact Option.some.inj this
    subst eo
    have hag := hl'.agree hlk (fun _ _ => rfl)
    have mk : ∀ (v : Value) (h' : List (Nat × World × World)), v = val m.i → (∀ p ∈ h', p.2 = (pw p.1, qw p.1) ∧ exd listed p.1) → Flow P l.toArray S Q (pick l post) (ac.put o'.dst v) b h' →
        ∃ ac' h' val', Inv P l ms S Q a0 listed a w (pre ++ [m]) post ac' b h' val' pw qw := by
      intro v h' hv hh' hf
      refine ⟨ac.put o'.dst v, h', val, hsplit, I.size, I.closed, I.fa, fc_put hB I.split g I.fc v hv.symm (fun _ _ => rfl), hf, I.hb, I.hS, hh', I.hq, I.hpq, fun p hp => ?_, fun p hp => I.recs p (by simp [hp])⟩
      rcases List.mem_append.1 hp with hp | hp
      · exact I.done p hp
      · have : p = m := by simpa using hp
        subst this; exact .inl hex
    rcases hrec with ⟨hk, w', hSw', hval⟩ | ⟨hk, r1, r2, r3, r4, hval⟩
    · simp only [Flow, hk] at hfl
      obtain ⟨v, hv, hf⟩ := hfl
      have h1 := hval.same g.nosel hag
      obtain ⟨v1, w1, _, hone⟩ := h1.one
      have e1 := (hone _).1 h1
      have e2 := (hone _).1 (hv w' hSw')
      exact mk v h (by rw [← e2.1, e1.1]) I.hh hf
    · have h1 := hval.same g.nosel hag
      have hpre : ∀ p ∈ h, p.1 ∈ m.deps → Ext p.2.2 (pw m.i) := fun p hp hd => by rw [(I.hh p hp).1]; exact r3 _ hd
      rcases hk with hk | hk <;> simp only [Flow, hk] at hfl
      · have h2 := hfl (pw m.i) r1 r2 hpre
        obtain ⟨v1, w1, _, hone⟩ := h1.one
        have e1 := (hone _).1 h1
        have e2 := (hone _).1 h2
        exact mk v1 h e1.1 I.hh e2.2
      · have h2 := hfl (pw m.i) r1 r2 hpre
        obtain ⟨v1, w1, _, hone⟩ := h1.one
        have e1 := (hone _).1 h1
        have e2 := (hone _).1 h2
        refine mk v1 _ e1.1 (fun p hp => ?_) e2.2
        rcases List.mem_cons.1 hp with rfl | hp
        · exact ⟨by rw [e1.2], hex⟩
        · exact I.hh p hp
  · -- it is free
    have hk : m.kind = 0 := hm.resolve_left hex
    simp only [Flow, hk] at hfl
    obtain ⟨v, hv, hf⟩ := hfl
    have hnew : ∀ p ∈ pre, p.i ≠ m.i := g.new
    have hvp : ∀ j, (∃ p ∈ pre, p.i = j) → (fun j => if j = m.i then v else val j) j = val j := by
      rintro j ⟨p, hp, rfl⟩
      simp [hnew p hp]
    have hvx : ∀ j, exd listed j → (fun j => if j = m.i then v else val j) j = val j := fun j hj => by
      have : j ≠ m.i := fun e => hex (e ▸ hj)
      simp [this]
    refine ⟨ac.put o.dst v, h, fun j => if j = m.i then v else val j, hsplit, I.size, I.closed, I.fa.congr (fun _ _ _ => Iff.rfl) hvx, fc_put hB I.split g I.fc v (by simp) hvp, hf, I.hb, I.hS, I.hh, I.hq, I.hpq, fun p hp => ?_, fun p hp hpx => ?_⟩
    · rcases List.mem_append.1 hp with hp | hp
      · refine (I.done p hp).imp id fun ⟨k, o', a', ho', hl', hval⟩ => ⟨k, o', a', ho', hl'.val fun j hj => ?_, by simpa [hnew p hp] using hval⟩
        obtain ⟨x, y, e⟩ := List.append_of_mem hp
        have hj' : ∃ p ∈ pre, p.i = j := anc_closed (X := fun j => ∃ p ∈ pre, p.i = j) (pre_closed hB I.split) p.i j ⟨p, hp, rfl⟩ hj
        exact hvp j hj'
      · have : p = m := by simpa using hp
        subst this
        exact .inr ⟨hk, o, ac, g.at_, hlk.val fun j hj => hvp j (anc_pre hB I.split g hj), by simpa using hv⟩
    · obtain ⟨o', a', ho', hl', hrec⟩ := (I.recs p (by simp [hp]) hpx).ok
      have hpne : p.i ≠ m.i := fun e => hex (e ▸ hpx)
      refine ⟨o', a', ho', hl'.val fun j hj => hvx j (anc_closed I.closed p.i j hpx hj), ?_⟩
      simpa [hpne] using hrec

theorem Inv.normal (hB : flowB l ms = true) {listed : Array Bool} {a : Act} {w : World} {b : World} {pw qw : Nat → World} : ∀ (rem pre : List Meta) (ac : Act) (h : List (Nat × World × World)) (val : Nat → Value),
    Inv P l ms S Q a0 listed a w pre rem ac b h val pw qw → ∃ pre' rem' ac' h' val', Inv P l ms S Q a0 listed a w pre' rem' ac' b h' val' pw qw ∧ (∀ m post, rem' = m :: post → ¬ exd listed m.i ∧ m.kind ≠ 0) := by
  intro rem
  induction rem with
  | nil => intro pre ac h val I; exact ⟨pre, [], ac, h, val, I, fun m post e => by simp at e⟩
  | cons m post ih =>
    intro pre ac h val I
    by_cases hm : exd listed m.i ∨ m.kind = 0
    · obtain ⟨ac', h', val', I'⟩ := I.pop hB hm
      exact ih _ _ _ _ I'
    · refine ⟨pre, m :: post, ac, h, val, I, fun m' post' e => ?_⟩
      simp only [List.cons.injEq] at e
      obtain ⟨rfl, _⟩ := e
      exact ⟨fun h => hm (.inl h), fun h => hm (.inr h)⟩
end

section
variable {P : Program} {l : List Oper} {ms : List Meta} {S : World → Prop} {Q : Act → World → Prop} {a0 : Act}

theorem ne_of_later (hB : flowB l ms = true) {pre : List Meta} {m0 : Meta} {post : List Meta} (e : ms = pre ++ m0 :: post) {m : Meta} (hm : m ∈ post) : m0.i ≠ m.i := by
  obtain ⟨x, y, rfl⟩ := List.append_of_mem hm
  obtain ⟨o, g⟩ := good_at hB (pre := pre ++ m0 :: x) (m := m) (post := y) (by rw [e]; simp)
  exact g.new m0 (by simp)

theorem reach (hB : flowB l ms = true) (hSm : ∀ w w', S w → Ext w w' → S w') {listed : Array Bool} {w b : World} {val : Nat → Value} {pw qw : Nat → World}
    (closed : ∀ i o, l[i]? = some o → exd listed i → ∀ d ∈ direct o, exd listed d) (hb : Ext b w) (hS : S w) (hq : ∀ j, exd listed j → Ext (qw j) w)
    {m : Meta} {om : Oper} (hun : ¬ exd listed m.i) (hanc : ∀ j, anc l m.i j = true → exd listed j) (hk : m.kind < 3) (hom : l[m.i]? = some om) :
    ∀ (rem pre : List Meta) (ac : Act) (h : List (Nat × World × World)) (valh : Nat → Value) (wh : World), ms = pre ++ rem → m ∈ rem → FrameIs l a0 ac (fun j => ∃ p ∈ pre, p.i = j) valh → Flow P l.toArray S Q (pick l rem) ac b h → Ext w wh →
      (∀ p ∈ h, Ext p.2.2 wh ∧ (exd listed p.1 → p.2.2 = qw p.1)) → (∀ j, exd listed j → valh j = val j) → (∀ m' ∈ rem, exd listed m'.i → RecOk P l S a0 b w val pw qw m') →
      ∀ a', LooksOk l a0 m.i om val a' →
        (m.kind = 0 ∧ ∃ v, ∀ w', S w' → ValTo P l.toArray om a' w' fun v' w'' => v' = v ∧ w'' = w') ∨
        (m.kind ≠ 0 ∧ ∃ v w', Ext w w' ∧ ValTo P l.toArray om a' w fun v' w'' => v' = v ∧ w'' = w') := by
  intro rem
  induction rem with
  | nil => intro pre ac h valh wh _ hm; simp at hm
  | cons m0 post ih =>
    intro pre ac h valh wh e hm fc hfl hwh hh hval hrecs a' hla
    obtain ⟨o, g⟩ := good_at hB e
    have hlk := canon_looks hB e g fc
    have hsplit : ms = (pre ++ [m0]) ++ post := by rw [e]; simp
    simp only [pick, List.map_cons, getD_of g.at_] at hfl
    by_cases hme : m0 = m
    · subst hme
      have eo : o = om := by have := g.at_; rw [hom] at this; exact (Option.some.inj this).symm
      subst eo
      have hag := hlk.agree hla (fun j hj => hval j (hanc j hj))
      have hpre : ∀ p ∈ h, p.1 ∈ m0.deps → Ext p.2.2 w := fun p hp hd => by
        have hx := hanc p.1 (g.deps _ hd)
        rw [(hh p hp).2 hx]; exact hq _ hx
      have hk3 : m0.kind = 0 ∨ m0.kind = 1 ∨ m0.kind = 2 := by omega
      rcases hk3 with hk0 | hk0 | hk0 <;> simp only [Flow, hk0] at hfl
      · obtain ⟨v, hv, _⟩ := hfl
        exact .inl ⟨hk0, v, fun w' hw' => (hv w' hw').same g.nosel hag⟩
      · have h1 := (hfl w hb hS hpre).same g.nosel hag
        obtain ⟨v, w', hK, hone⟩ := h1.one
        exact .inr ⟨by omega, v, w', hK.1, (hone _).2 ⟨rfl, rfl⟩⟩
      · have h1 := (hfl w hb hS hpre).same g.nosel hag
        obtain ⟨v, w', hK, hone⟩ := h1.one
        exact .inr ⟨by omega, v, w', hK.1, (hone _).2 ⟨rfl, rfl⟩⟩
    · have hmp : m ∈ post := by
        rcases List.mem_cons.1 hm with h | h
        · exact (hme h.symm).elim
        · exact h
      have hrecs' : ∀ m' ∈ post, exd listed m'.i → RecOk P l S a0 b w val pw qw m' := fun m' hm' => hrecs m' (by simp [hm'])
      have hnew : ∀ p ∈ pre, p.i ≠ m0.i := g.new
      -- a value that is only supposed
      have hvp : ∀ v, ∀ j, (∃ p ∈ pre, p.i = j) → (fun j => if j = m0.i then v else valh j) j = valh j := by
        rintro v j ⟨p, hp, rfl⟩
        simp [hnew p hp]
      by_cases hex : exd listed m0.i
      · obtain ⟨o', a1, ho', hl', hrec⟩ := (hrecs m0 (by simp) hex).ok
        have eo : o' = o := by have := g.at_; rw [ho'] at this; exact Option.some.inj this
        subst eo
        have hag := hl'.agree hlk (fun j hj => (hval j (anc_closed closed m0.i j hex hj)).symm)
        have mk : ∀ (v : Value) (h' : List (Nat × World × World)), v = val m0.i → (∀ p ∈ h', Ext p.2.2 wh ∧ (exd listed p.1 → p.2.2 = qw p.1)) → Flow P l.toArray S Q (pick l post) (ac.put o'.dst v) b h' → _ := fun v h' hv hh' hf =>
          ih (pre ++ [m0]) (ac.put o'.dst v) h' valh wh hsplit hmp (fc_put hB e g fc v (by rw [hval _ hex, hv]) (fun _ _ => rfl)) hf hwh hh' hval hrecs' a' hla
        rcases hrec with ⟨hk0, w', hSw', hv0⟩ | ⟨hk0, r1, r2, r3, r4, hv0⟩
        · simp only [Flow, hk0] at hfl
          obtain ⟨v, hv, hf⟩ := hfl
          have h1 := hv0.same g.nosel hag
          obtain ⟨v1, w1, _, hone⟩ := h1.one
          have e1 := (hone _).1 h1
          have e2 := (hone _).1 (hv w' hSw')
          exact mk v h (by rw [← e2.1, e1.1]) hh hf
        · have h1 := hv0.same g.nosel hag
          have hpre : ∀ p ∈ h, p.1 ∈ m0.deps → Ext p.2.2 (pw m0.i) := fun p hp hd => by
            rw [(hh p hp).2 (anc_closed closed m0.i p.1 hex (g.deps _ hd))]; exact r3 _ hd
          rcases hk0 with hk0 | hk0 <;> simp only [Flow, hk0] at hfl
          · have h2 := hfl (pw m0.i) r1 r2 hpre
            obtain ⟨v1, w1, _, hone⟩ := h1.one
            have e1 := (hone _).1 h1
            have e2 := (hone _).1 h2
            exact mk v1 h e1.1 hh e2.2
          · have h2 := hfl (pw m0.i) r1 r2 hpre
            obtain ⟨v1, w1, _, hone⟩ := h1.one
            have e1 := (hone _).1 h1
            have e2 := (hone _).1 h2
            refine mk v1 _ e1.1 (fun p hp => ?_) e2.2
            rcases List.mem_cons.1 hp with rfl | hp
            · exact ⟨by rw [e1.2]; exact r4.tr hwh, fun _ => e1.2⟩
            · exact hh p hp
      · have hvx : ∀ v, ∀ j, exd listed j → (fun j => if j = m0.i then v else valh j) j = val j := fun v j hj => by
          have : j ≠ m0.i := fun e => hex (e ▸ hj)
          simp [this, hval j hj]
        have mk : ∀ (v : Value) (wh' : World) (h' : List (Nat × World × World)), Ext w wh' → (∀ p ∈ h', Ext p.2.2 wh' ∧ (exd listed p.1 → p.2.2 = qw p.1)) → Flow P l.toArray S Q (pick l post) (ac.put o.dst v) b h' → _ := fun v wh' h' hw' hh' hf =>
          ih (pre ++ [m0]) (ac.put o.dst v) h' (fun j => if j = m0.i then v else valh j) wh' hsplit hmp (fc_put hB e g fc v (by simp) (hvp v)) hf hw' hh' (hvx v) hrecs' a' hla
        have hbh : Ext b wh := hb.tr hwh
        have hSh : S wh := hSm _ _ hS hwh
        have hpre : ∀ p ∈ h, p.1 ∈ m0.deps → Ext p.2.2 wh := fun p hp _ => (hh p hp).1
        have more : ∀ w1, Ext wh w1 → ∀ p ∈ h, Ext p.2.2 w1 ∧ (exd listed p.1 → p.2.2 = qw p.1) := fun w1 hw1 p hp => ⟨(hh p hp).1.tr hw1, (hh p hp).2⟩
        have more' : ∀ w1, Ext wh w1 → ∀ p ∈ (m0.i, wh, w1) :: h, Ext p.2.2 w1 ∧ (exd listed p.1 → p.2.2 = qw p.1) := fun w1 hw1 p hp => by
          rcases List.mem_cons.1 hp with rfl | hp
          · exact ⟨Ext.rfl_ _, fun hx => (hex hx).elim⟩
          · exact more w1 hw1 p hp
        have hk5 : m0.kind = 0 ∨ m0.kind = 1 ∨ m0.kind = 2 ∨ m0.kind = 3 ∨ m0.kind = 4 ∨ 5 ≤ m0.kind := by omega
        rcases hk5 with hk0 | hk0 | hk0 | hk0 | hk0 | hk0
        · simp only [Flow, hk0] at hfl
          obtain ⟨v, _, hf⟩ := hfl
          exact mk v wh h hwh hh hf
        · simp only [Flow, hk0] at hfl
          obtain ⟨v, w1, hK, _⟩ := (hfl wh hbh hSh hpre).one
          exact mk v w1 h (hwh.tr hK.1) (more w1 hK.1) hK.2
        · simp only [Flow, hk0] at hfl
          obtain ⟨v, w1, hK, _⟩ := (hfl wh hbh hSh hpre).one
          exact mk v w1 _ (hwh.tr hK.1) (more' w1 hK.1) hK.2
        · simp only [Flow, hk0] at hfl
          obtain ⟨v, w1, hK⟩ := (hfl wh hbh hSh hpre).some_
          exact mk v w1 h (hwh.tr hK.1) (more w1 hK.1) hK.2
        · simp only [Flow, hk0] at hfl
          obtain ⟨v, w1, hK⟩ := (hfl wh hbh hSh hpre).some_
          exact mk v w1 _ (hwh.tr hK.1) (more' w1 hK.1) hK.2
        · exact (hex (hanc _ (g.bars hk0 m hmp))).elim

theorem exd_set {listed : Array Bool} {i j : Nat} (hi : i < listed.size) : exd (listed.setIfInBounds i true) j ↔ (exd listed j ∨ j = i) := by
  unfold exd
  by_cases hij : i = j
  · subst hij; simp [hi]
  · rw [getD_set_ne false hij]
    constructor
    · exact .inl
    · rintro (h | rfl)
      · exact h
      · exact (hij rfl).elim

def Inv' (P : Program) (l : List Oper) (ms : List Meta) (S : World → Prop) (Q : Act → World → Prop) (a0 : Act) (listed : Array Bool) (a : Act) (w : World) : Prop :=
  ∃ pre rem ac b h val pw qw, Inv P l ms S Q a0 listed a w pre rem ac b h val pw qw

theorem ms_all (hB : flowB l ms = true) : ∀ i o, l[i]? = some o → ∃ m ∈ ms, m.i = i := by
  intro i o ho
  have hi : i < l.length := (List.getElem?_eq_some_iff.1 ho).1
  simp only [flowB, Bool.and_eq_true] at hB
  have := List.all_eq_true.1 hB.1 i (List.mem_range.2 hi)
  simpa using this
end

section
variable {P : Program} {l : List Oper} {ms : List Meta} {S : World → Prop} {Q : Act → World → Prop} {a0 : Act}

theorem closed_set {listed : Array Bool} (hsz : listed.size = l.length) (closed : ∀ i o, l[i]? = some o → exd listed i → ∀ d ∈ direct o, exd listed d) {i : Nat} {o : Oper} (ho : l[i]? = some o) (hd : ∀ d ∈ direct o, exd listed d) :
    ∀ j oj, l[j]? = some oj → exd (listed.setIfInBounds i true) j → ∀ d ∈ direct oj, exd (listed.setIfInBounds i true) d := by
  have hi : i < listed.size := by rw [hsz]; exact (List.getElem?_eq_some_iff.1 ho).1
  intro j oj hj hx d hdj
  rw [exd_set hi] at hx ⊢
  rcases hx with hx | rfl
  · exact .inl (closed j oj hj hx d hdj)
  · have : oj = o := by rw [ho] at hj; exact (Option.some.inj hj).symm
    subst this
    exact .inl (hd d hdj)

theorem hpq_set {listed : Array Bool} {i : Nat} (his : i < listed.size) {pw qw : Nat → World} {w w' : World} (hpq : ∀ i j, exd listed i → exd listed j → i ≠ j → Ext (qw i) (pw j) ∨ Ext (qw j) (pw i)) (hq : ∀ j, exd listed j → Ext (qw j) w) (_hw : Ext w w') :
    ∀ a b, exd (listed.setIfInBounds i true) a → exd (listed.setIfInBounds i true) b → a ≠ b → Ext ((fun j => if j = i then w' else qw j) a) ((fun j => if j = i then w else pw j) b) ∨ Ext ((fun j => if j = i then w' else qw j) b) ((fun j => if j = i then w else pw j) a) := by
  intro a b ha hb hne
  rw [exd_set his] at ha hb
  by_cases hai : a = i
  · have hbi : b ≠ i := fun e => hne (hai.trans e.symm)
    right
    simp [hai, hbi]
    exact hq b (hb.resolve_right hbi)
  · by_cases hbi : b = i
    · left
      simp [hai, hbi]
      exact hq a (ha.resolve_right hai)
    · simp only [if_neg hai, if_neg hbi]
      exact hpq a b (ha.resolve_right hai) (hb.resolve_right hbi) hne

/-- ONE OPERATION, whichever is ready. -/
theorem Inv'.step (hB : flowB l ms = true) (hSm : ∀ w w', S w → Ext w w' → S w') {listed : Array Bool} {a : Act} {w : World} (I' : Inv' P l ms S Q a0 listed a w) {i : Nat} (hi : i ∈ Region.ready .any l.toArray listed) :
    OpI P l.toArray i (fun a' w' => Inv' P l ms S Q a0 (listed.setIfInBounds i true) a' w') a w := by
  obtain ⟨pre0, rem0, ac0, b, h0, val0, pw, qw, I0⟩ := I'
  obtain ⟨pre, rem, ac, h, val, I, hhead⟩ := I0.normal hB
  obtain ⟨hun0, o, ho0, hall⟩ := mem_ready.1 hi
  have ho : l[i]? = some o := by simpa using ho0
  have hil : i < l.length := (List.getElem?_eq_some_iff.1 ho).1
  have his : i < listed.size := by rw [I.size]; exact hil
  have hun : ¬ exd listed i := by
    unfold exd
    simp [his] at hun0
    simp [his, hun0]
  have hdir : ∀ d ∈ direct o, exd listed d := by
    intro d hd
    obtain ⟨e, he, rfl⟩ := List.mem_map.1 hd
    have he' := List.mem_filter.1 he
    exact hall e (by simpa using he'.1) he'.2
  have hanc : ∀ j, anc l i j = true → exd listed j := fun j hj => by
    obtain ⟨d, hd, hj'⟩ := anc_step ho hj
    rcases hj' with rfl | ⟨_, hj'⟩
    · exact hdir _ hd
    · exact anc_closed I.closed d j (hdir d hd) hj'
  have hdesc : ∀ j, anc l j i = true → ¬ exd listed j := fun j hj hx => hun (anc_closed I.closed j i hx hj)
  have hcl := closed_set I.size I.closed ho hdir
  have hex := @exd_set listed i
  obtain ⟨m, hm, hmi⟩ := ms_all hB i o ho
  subst hmi
  have hsz : (listed.setIfInBounds m.i true).size = l.length := by simp [I.size]
  rw [I.split] at hm
  rcases List.mem_append.1 hm with hm | hm
  · -- it was let by, being free
    rcases I.done m hm with hx | ⟨hk, o', a', ho', hl', hval⟩
    · exact (hun hx).elim
    have eo : o' = o := by rw [ho] at ho'; exact (Option.some.inj ho').symm
    subst eo
    obtain ⟨x, y, e⟩ := List.append_of_mem hm
    obtain ⟨o2, g⟩ := good_at hB (pre := x) (m := m) (post := y ++ rem) (by rw [I.split, e]; simp)
    have eo : o2 = o' := by have := g.at_; rw [ho] at this; exact (Option.some.inj this).symm
    subst eo
    have hla : LooksOk l a0 m.i o2 val a := I.fa.looks g.looks hun hanc hdesc
    have hrun := (hval w I.hS).same g.nosel (hl'.agree hla (fun _ _ => rfl))
    refine hrun.op.opI ho0 fun v w' hv => ?_
    obtain ⟨rfl, rfl⟩ := hv
    refine ⟨pre, rem, ac, b, h, val, fun j => if j = m.i then w' else pw j, fun j => if j = m.i then w' else qw j, I.split, hsz, hcl, I.fa.put ho g.alone (fun j => hex his) (fun _ _ _ => rfl) _ rfl, I.fc, I.flow, I.hb, I.hS, fun p hp => ?_, fun j hj => ?_, hpq_set his I.hpq I.hq (Ext.rfl_ _), fun p hp => ?_, fun p hp hpx => ?_⟩
    · have := I.hh p hp
      have hne : p.1 ≠ m.i := fun e => hun (e ▸ this.2)
      exact ⟨by simp [hne, this.1], (hex his).2 (.inl this.2)⟩
    · by_cases hj' : j = m.i
      · simp [hj']; exact Ext.rfl_ _
      · simp [hj']
        exact I.hq j (((hex his).1 hj).resolve_right hj')
    · exact (I.done p hp).imp (fun h => (hex his).2 (.inl h)) id
    · have hpm : p.i ≠ m.i := fun e' => by
        obtain ⟨x', y', e2⟩ := List.append_of_mem hp
        exact ne_of_later hB (pre := x) (m0 := m) (post := y ++ rem) (by rw [I.split, e]; simp) (m := p) (by simp [hp]) e'.symm
      have hpx' := ((hex his).1 hpx).resolve_right hpm
      obtain ⟨o3, a3, ho3, hl3, hr3⟩ := (I.recs p hp hpx').ok
      refine ⟨o3, a3, ho3, hl3, hr3.imp id fun ⟨k1, k2, k3, k4, k5, k6⟩ => ⟨k1, by simpa [hpm] using k2, by simpa [hpm] using k3, fun j hj => ?_, by simp [hpm]; exact k5, by simpa [hpm] using k6⟩⟩
      obtain ⟨x', y', e2⟩ := List.append_of_mem hp
      obtain ⟨o4, g4⟩ := good_at hB (pre := pre ++ x') (m := p) (post := y') (by rw [I.split, e2]; simp)
      have hjx := anc_closed I.closed p.i j hpx' (g4.deps j hj)
      have hjm : j ≠ m.i := fun e => hun (e ▸ hjx)
      simp [hjm, hpm]; exact k4 j hj
  · cases rem with
    | nil => simp at hm
    | cons m0 post =>
    obtain ⟨hh1, hh2⟩ := hhead m0 post rfl
    by_cases hme : m0 = m
    · -- it is the canonical head
      subst hme
      obtain ⟨o2, g⟩ := good_at hB I.split
      have eo : o2 = o := by have := g.at_; rw [ho] at this; exact (Option.some.inj this).symm
      subst eo
      have hla : LooksOk l a0 m0.i o2 val a := I.fa.looks g.looks hun hanc hdesc
      have hlk := canon_looks hB I.split g I.fc
      have hag := hlk.agree hla (fun _ _ => rfl)
      have hfl := I.flow
      have hsplit : ms = (pre ++ [m0]) ++ post := by rw [I.split]; simp
      simp only [pick, List.map_cons, getD_of g.at_] at hfl
      have hnew : ∀ p ∈ pre, p.i ≠ m0.i := g.new
      have hpre : ∀ p ∈ h, Ext p.2.2 w := fun p hp => by rw [(I.hh p hp).1]; exact I.hq _ (I.hh p hp).2
      have hturn : InTurn h := fun p hp q hq hne => by rw [(I.hh p hp).1, (I.hh q hq).1]; exact I.hpq _ _ (I.hh p hp).2 (I.hh q hq).2 hne
      -- what every step that only adds to the world comes to
      have mk : ∀ (v : Value) (w' : World) (h' : List (Nat × World × World)), Ext w w' → (∀ p ∈ h', p ∈ h ∨ p = (m0.i, w, w')) → Flow P l.toArray S Q (pick l post) (ac.put o2.dst v) b h' →
          Inv' P l ms S Q a0 (listed.setIfInBounds m0.i true) (a.put o2.dst v) w' := by
        intro v w' h' hw hh' hf
        have hvp : ∀ j, (∃ p ∈ pre, p.i = j) → (fun j => if j = m0.i then v else val j) j = val j := by
          rintro j ⟨p, hp, rfl⟩
          simp [hnew p hp]
        have hvx : ∀ j, exd listed j → (fun j => if j = m0.i then v else val j) j = val j := fun j hj => by
          have : j ≠ m0.i := fun e => hun (e ▸ hj)
          simp [this]
        refine ⟨pre ++ [m0], post, ac.put o2.dst v, b, h', fun j => if j = m0.i then v else val j, fun j => if j = m0.i then w else pw j, fun j => if j = m0.i then w' else qw j, hsplit, hsz, hcl,
          I.fa.put ho g.alone (fun j => hex his) (fun j hj _ => hvx j hj) v (by simp), fc_put hB I.split g I.fc v (by simp) hvp, hf, I.hb.tr hw, hSm _ _ I.hS hw, fun p hp => ?_, fun j hj => ?_, hpq_set his I.hpq I.hq hw, fun p hp => ?_, fun p hp hpx => ?_⟩
        · rcases hh' p hp with hp | rfl
          · have := I.hh p hp
            have hne : p.1 ≠ m0.i := fun e => hun (e ▸ this.2)
            exact ⟨by simp [hne, this.1], (hex his).2 (.inl this.2)⟩
          · exact ⟨by simp, (hex his).2 (.inr rfl)⟩
        · by_cases hj' : j = m0.i
          · simp [hj']; exact Ext.rfl_ _
          · simp [hj']
            exact (I.hq j (((hex his).1 hj).resolve_right hj')).tr hw
        · rcases List.mem_append.1 hp with hp | hp
          · refine (I.done p hp).imp (fun h => (hex his).2 (.inl h)) fun ⟨k, o', a', ho', hl', hval⟩ => ⟨k, o', a', ho', hl'.val fun j hj => ?_, by simpa [hnew p hp] using hval⟩
            exact hvp j (anc_closed (X := fun j => ∃ p ∈ pre, p.i = j) (pre_closed hB I.split) p.i j ⟨p, hp, rfl⟩ hj)
          · have : p = m0 := by simpa using hp
            subst this; exact .inl ((hex his).2 (.inr rfl))
        · have hpm : p.i ≠ m0.i := fun e' => ne_of_later hB I.split hp e'.symm
          have hpx' := ((hex his).1 hpx).resolve_right hpm
          obtain ⟨o3, a3, ho3, hl3, hr3⟩ := (I.recs p (by simp [hp]) hpx').ok
          refine ⟨o3, a3, ho3, hl3.val fun j hj => hvx j (anc_closed I.closed p.i j hpx' hj), ?_⟩
          rcases hr3 with ⟨k1, w3, k2, k3⟩ | ⟨k1, k2, k3, k4, k5, k6⟩
          · exact .inl ⟨k1, w3, k2, by simpa [hpm] using k3⟩
          · refine .inr ⟨k1, by simpa [hpm] using k2, by simpa [hpm] using k3, fun j hj => ?_, by simp [hpm]; exact k5.tr hw, by simpa [hpm] using k6⟩
            obtain ⟨x', y', e2⟩ := List.append_of_mem hp
            obtain ⟨o4, g4⟩ := good_at hB (pre := pre ++ m0 :: x') (m := p) (post := y') (by rw [I.split, e2]; simp)
            have hjx := anc_closed I.closed p.i j hpx' (g4.deps j hj)
            have hjm : j ≠ m0.i := fun e => hun (e ▸ hjx)
            simp [hjm, hpm]; exact k4 j hj
      have hk5 : m0.kind = 1 ∨ m0.kind = 2 ∨ m0.kind = 3 ∨ m0.kind = 4 ∨ 5 ≤ m0.kind := by omega
      rcases hk5 with hk0 | hk0 | hk0 | hk0 | hk0
      · simp only [Flow, hk0] at hfl
        exact ((hfl w I.hb I.hS (fun p hp _ => hpre p hp)).same g.nosel hag).op.opI ho0 fun v w' hv => mk v w' h hv.1 (fun p hp => .inl hp) hv.2
      · simp only [Flow, hk0] at hfl
        exact ((hfl w I.hb I.hS (fun p hp _ => hpre p hp)).same g.nosel hag).op.opI ho0 fun v w' hv => mk v w' _ hv.1 (fun p hp => by rcases List.mem_cons.1 hp with rfl | hp; exact .inr rfl; exact .inl hp) hv.2
      · simp only [Flow, hk0] at hfl
        exact ((hfl w I.hb I.hS (fun p hp _ => hpre p hp)).same g.nosel hag).opI ho0 fun v w' hv => mk v w' h hv.1 (fun p hp => .inl hp) hv.2
      · simp only [Flow, hk0] at hfl
        exact ((hfl w I.hb I.hS (fun p hp _ => hpre p hp)).same g.nosel hag).opI ho0 fun v w' hv => mk v w' _ hv.1 (fun p hp => by rcases List.mem_cons.1 hp with rfl | hp; exact .inr rfl; exact .inl hp) hv.2
      · have hfl' : ∀ w, Ext b w → S w → (∀ p ∈ h, Ext p.2.2 w) → InTurn h → OpTo P l.toArray o2 ac w fun v w' => S w' ∧ Flow P l.toArray S Q (pick l post) (ac.put o2.dst v) w' [] := by
          unfold Flow at hfl
          split at hfl <;> first | omega | exact hfl
        refine ((hfl' w I.hb I.hS hpre hturn).same g.nosel hag).opI ho0 fun v w' hv => ?_
        have hvp : ∀ j, (∃ p ∈ pre, p.i = j) → (fun j => if j = m0.i then v else val j) j = val j := by
          rintro j ⟨p, hp, rfl⟩
          simp [hnew p hp]
        have hvx : ∀ j, exd listed j → (fun j => if j = m0.i then v else val j) j = val j := fun j hj => by
          have : j ≠ m0.i := fun e => hun (e ▸ hj)
          simp [this]
        refine ⟨pre ++ [m0], post, ac.put o2.dst v, w', [], fun j => if j = m0.i then v else val j, fun _ => w', fun _ => w', hsplit, hsz, hcl,
          I.fa.put ho g.alone (fun j => hex his) (fun j hj _ => hvx j hj) v (by simp), fc_put hB I.split g I.fc v (by simp) hvp, hv.2, Ext.rfl_ _, hv.1, fun p hp => by simp at hp, fun j hj => Ext.rfl_ _, fun _ _ _ _ _ => .inl (Ext.rfl_ _), fun p hp => ?_, fun p hp hpx => ?_⟩
        · rcases List.mem_append.1 hp with hp | hp
          · refine (I.done p hp).imp (fun h => (hex his).2 (.inl h)) fun ⟨k, o', a', ho', hl', hval⟩ => ⟨k, o', a', ho', hl'.val fun j hj => ?_, by simpa [hnew p hp] using hval⟩
            exact hvp j (anc_closed (X := fun j => ∃ p ∈ pre, p.i = j) (pre_closed hB I.split) p.i j ⟨p, hp, rfl⟩ hj)
          · have : p = m0 := by simpa using hp
            subst this; exact .inl ((hex his).2 (.inr rfl))
        · have hpm : p.i ≠ m0.i := fun e' => ne_of_later hB I.split hp e'.symm
          have hpx' := ((hex his).1 hpx).resolve_right hpm
          exact (hdesc p.i (g.bars hk0 p hp) hpx').elim
    · -- it comes up out of the canonical turn
      have hmp : m ∈ post := by
        rcases List.mem_cons.1 hm with h | h
        · exact (hme h.symm).elim
        · exact h
      obtain ⟨x, y, e⟩ := List.append_of_mem hmp
      have hsp : ms = (pre ++ m0 :: x) ++ m :: y := by rw [I.split, e]; simp
      obtain ⟨o2, g⟩ := good_at hB hsp
      have eo : o2 = o := by have := g.at_; rw [ho] at this; exact (Option.some.inj this).symm
      subst eo
      have hk : m.kind < 3 := by
        rcases Nat.lt_or_ge m.kind 3 with h | h
        · exact h
        · exact (hh1 (hanc _ (g.calls h m0 (by simp) hh2))).elim
      have hla : LooksOk l a0 m.i o2 val a := I.fa.looks g.looks hun hanc hdesc
      have hr := reach hB hSm I.closed I.hb I.hS I.hq hun hanc hk ho (m0 :: post) pre ac h val w I.split (by simp [hmp]) I.fc I.flow (Ext.rfl_ _)
        (fun p hp => ⟨by rw [(I.hh p hp).1]; exact I.hq _ (I.hh p hp).2, fun _ => by rw [(I.hh p hp).1]⟩) (fun _ _ => rfl) I.recs a hla
      have hnp : ∀ p ∈ pre, p.i ≠ m.i := fun p hp => g.new p (by simp [hp])
      -- its record
      have mk : ∀ (v : Value) (w' : World), Ext w w' → S w' → ValTo P l.toArray o2 a w (fun v' w'' => v' = v ∧ w'' = w') → (m.kind = 0 → w' = w) →
          Inv' P l ms S Q a0 (listed.setIfInBounds m.i true) (a.put o2.dst v) w' := by
        intro v w' hw hSw hrun hw0
        have hvp : ∀ j, (∃ p ∈ pre, p.i = j) → (fun j => if j = m.i then v else val j) j = val j := by
          rintro j ⟨p, hp, rfl⟩
          simp [hnp p hp]
        have hvx : ∀ j, exd listed j → (fun j => if j = m.i then v else val j) j = val j := fun j hj => by
          have : j ≠ m.i := fun e => hun (e ▸ hj)
          simp [this]
        refine ⟨pre, m0 :: post, ac, b, h, fun j => if j = m.i then v else val j, fun j => if j = m.i then w else pw j, fun j => if j = m.i then w' else qw j, I.split, hsz, hcl,
          I.fa.put ho g.alone (fun j => hex his) (fun j hj _ => hvx j hj) v (by simp), I.fc.congr (fun _ _ _ => Iff.rfl) hvp, I.flow, I.hb.tr hw, hSw, fun p hp => ?_, fun j hj => ?_, hpq_set his I.hpq I.hq hw, fun p hp => ?_, fun p hp hpx => ?_⟩
        · have := I.hh p hp
          have hne : p.1 ≠ m.i := fun e => hun (e ▸ this.2)
          exact ⟨by simp [hne, this.1], (hex his).2 (.inl this.2)⟩
        · by_cases hj' : j = m.i
          · simp [hj']; exact Ext.rfl_ _
          · simp [hj']
            exact (I.hq j (((hex his).1 hj).resolve_right hj')).tr hw
        · refine (I.done p hp).imp (fun h => (hex his).2 (.inl h)) fun ⟨k, o', a', ho', hl', hval⟩ => ⟨k, o', a', ho', hl'.val fun j hj => ?_, by simpa [hnp p hp] using hval⟩
          exact hvp j (anc_closed (X := fun j => ∃ p ∈ pre, p.i = j) (pre_closed hB I.split) p.i j ⟨p, hp, rfl⟩ hj)
        · by_cases hpm : p.i = m.i
          · -- the record of this very operation
            have hpm' : p = m := by
              rcases List.mem_append.1 (show p ∈ (m0 :: x) ++ m :: y by rw [e] at hp; simpa using hp) with h1 | h1
              · exact (g.new p (by simp at h1 ⊢; rcases h1 with h1 | h1 <;> simp [h1]) hpm).elim
              · rcases List.mem_cons.1 h1 with h1 | h1
                · exact h1
                · exact (ne_of_later hB hsp h1 hpm.symm).elim
            subst hpm'
            refine ⟨o2, a, ho, hla.val fun j hj => hvx j (hanc j hj), ?_⟩
            by_cases hk0 : p.kind = 0
            · refine .inl ⟨hk0, w, I.hS, ?_⟩
              have e0 := hw0 hk0
              subst e0
              simpa using hrun
            · refine .inr ⟨by omega, by simp; exact I.hb, by simp; exact I.hS, fun j hj => ?_, by simp; exact Ext.rfl_ _, by simpa using hrun⟩
              have hjx := hanc j (g.deps j hj)
              have hjm : j ≠ p.i := fun e => hun (e ▸ hjx)
              simp [hjm]; exact I.hq j hjx
          · have hpx' := ((hex his).1 hpx).resolve_right hpm
            obtain ⟨o3, a3, ho3, hl3, hr3⟩ := (I.recs p hp hpx').ok
            refine ⟨o3, a3, ho3, hl3.val fun j hj => hvx j (anc_closed I.closed p.i j hpx' hj), ?_⟩
            rcases hr3 with ⟨k1, w3, k2, k3⟩ | ⟨k1, k2, k3, k4, k5, k6⟩
            · exact .inl ⟨k1, w3, k2, by simpa [hpm] using k3⟩
            · refine .inr ⟨k1, by simpa [hpm] using k2, by simpa [hpm] using k3, fun j hj => ?_, by simp [hpm]; exact k5.tr hw, by simpa [hpm] using k6⟩
              obtain ⟨x', y', e2⟩ := List.append_of_mem hp
              obtain ⟨o4, g4⟩ := good_at hB (pre := pre ++ x') (m := p) (post := y') (by rw [I.split, e2]; simp)
              have hjx := anc_closed I.closed p.i j hpx' (g4.deps j hj)
              have hjm : j ≠ m.i := fun e => hun (e ▸ hjx)
              simp [hjm, hpm]; exact k4 j hj
      rcases hr with ⟨hk0, v, hv⟩ | ⟨hk0, v, w', hw, hv⟩
      · have hrun := hv w I.hS
        refine hrun.op.opI ho0 fun v' w' hv' => ?_
        obtain ⟨rfl, rfl⟩ := hv'
        exact mk _ _ (Ext.rfl_ _) I.hS hrun (fun _ => rfl)
      · refine hv.op.opI ho0 fun v' w'' hv' => ?_
        obtain ⟨rfl, rfl⟩ := hv'
        exact mk _ _ hw (hSm _ _ I.hS hw) hv (fun h => (hk0 h).elim)

/-- all carried out -/
theorem Inv'.end_ (hB : flowB l ms = true) {listed : Array Bool} {a : Act} {w : World} (I' : Inv' P l ms S Q a0 listed a w) (hr : Region.ready .any l.toArray listed = []) : Q a w := by
  obtain ⟨pre0, rem0, ac0, b, h0, val0, pw, qw, I0⟩ := I'
  obtain ⟨pre, rem, ac, h, val, I, hhead⟩ := I0.normal hB
  have hpos : ∀ n x m y, ms = x ++ m :: y → x.length = n → exd listed m.i := by
    intro n
    induction n using Nat.strongRecOn with
    | ind n ih =>
      intro x m y e hn
      obtain ⟨o2, g⟩ := good_at hB e
      cases hx : listed.getD m.i false with
      | true => exact hx
      | false =>
        exfalso
        have hi : m.i < l.length := (List.getElem?_eq_some_iff.1 g.at_).1
        have : m.i ∈ Region.ready .any l.toArray listed := mem_ready.2 ⟨by
          have hs : m.i < listed.size := by rw [I.size]; exact hi
          simp [hs] at hx ⊢; exact hx, o2, by simpa using g.at_, fun ed hed hbd => by
            have hdo : ed.on ∈ direct o2 := List.mem_map.2 ⟨ed, List.mem_filter.2 ⟨by simpa using hed, hbd⟩, rfl⟩
            obtain ⟨p, hp, hpd⟩ := g.edges _ hdo
            obtain ⟨x1, x2, rfl⟩ := List.append_of_mem hp
            rw [← hpd]
            exact ih x1.length (by rw [← hn]; simp) x1 p (x2 ++ m :: y) (by rw [e]; simp) rfl⟩
        rw [hr] at this
        cases this
  have hall : ∀ i, i < l.length → exd listed i := by
    intro i hi
    obtain ⟨m, hm, hmi⟩ := ms_all hB i _ (List.getElem?_eq_getElem hi)
    obtain ⟨x, y, e⟩ := List.append_of_mem hm
    rw [← hmi]
    exact hpos _ x m y e rfl
  have hrem : rem = [] := by
    cases rem with
    | nil => rfl
    | cons m post =>
      obtain ⟨o, g⟩ := good_at hB I.split
      exact ((hhead m post rfl).1 (hall _ (List.getElem?_eq_some_iff.1 g.at_).1)).elim
  subst hrem
  have hfl := I.flow
  simp only [pick, List.map_nil, Flow] at hfl
  have hq := hfl w I.hb I.hS (fun p hp => by rw [(I.hh p hp).1]; exact I.hq _ (I.hh p hp).2) (fun p hp q hq hne => by rw [(I.hh p hp).1, (I.hh q hq).1]; exact I.hpq _ _ (I.hh p hp).2 (I.hh q hq).2 hne)
  have : a = ac := (I.fa.congr (ex' := fun j => ∃ m ∈ pre, m.i = j) (fun j oj hj => by
    constructor
    · intro _; exact hall j (List.getElem?_eq_some_iff.1 hj).1
    · intro _
      obtain ⟨m, hm, hmi⟩ := ms_all hB j oj hj
      exact ⟨m, by rw [I.split] at hm; simpa using hm, hmi⟩) (fun _ _ => rfl)).eq I.fc
  rw [this]; exact hq

theorem any_of_inv (hB : flowB l ms = true) (hSm : ∀ w w', S w → Ext w w' → S w') : ∀ (fuel : Nat) (listed : Array Bool) (a : Act) (w : World), Inv' P l ms S Q a0 listed a w →
    (listed.toList.countP (· == false)) ≤ fuel → AnyI P l.toArray Q fuel listed a w := by
  intro fuel
  induction fuel with
  | zero =>
    intro listed a w I hc
    have hr : Region.ready .any l.toArray listed = [] := by
      rw [List.eq_nil_iff_forall_not_mem]
      intro i hi
      obtain ⟨hun, o, ho, _⟩ := mem_ready.1 hi
      have hlt : i < listed.size := by
        rcases Nat.lt_or_ge i listed.size with h | h
        · exact h
        · simp [Array.getElem?_eq_none h] at hun
      have hf : listed[i] = false := by simpa [hlt] using hun
      have h0 : listed.toList.countP (· == false) = 0 := by omega
      rw [List.countP_eq_zero] at h0
      exact h0 listed[i] (by simp) (by simp [hf])
    exact ⟨hr, I.end_ hB hr⟩
  | succ fuel ih =>
    intro listed a w I hc
    refine ⟨fun hr => I.end_ hB hr, fun i hi => ?_⟩
    refine (I.step hB hSm hi).mono (fun a' w' I' => ih _ a' w' I' ?_)
    obtain ⟨hun, o, ho, _⟩ := mem_ready.1 hi
    have hlt : i < listed.size := by
      rcases Nat.lt_or_ge i listed.size with h | h
      · exact h
      · simp [Array.getElem?_eq_none h] at hun
    have hf : listed[i] = false := by simpa [hlt] using hun
    have : (listed.setIfInBounds i true).toList = listed.toList.set i true := by simp
    rw [this]
    have hlt' : i < listed.toList.length := by simpa using hlt
    have e1 : listed.toList = listed.toList.take i ++ false :: listed.toList.drop (i + 1) := by
      conv => lhs; rw [← List.take_append_drop i listed.toList, List.drop_eq_getElem_cons hlt']
      simp [hf]
    have e2 : listed.toList.set i true = listed.toList.take i ++ true :: listed.toList.drop (i + 1) := by
      rw [List.set_eq_take_append_cons_drop, if_pos hlt']
    rw [e2, List.countP_append, List.countP_cons]
    rw [e1, List.countP_append, List.countP_cons] at hc
    simp at hc ⊢
    omega

/-- **A REGION THAT DRAWS ITS ORDER: ONE WALK OF ONE ORDER SERVES ALL.** -/
theorem region_flow {Q : Act → World → Prop} {a : Act} {w : World} (S : World → Prop) (ms : List Meta) (hB : flowB l ms = true) (hSm : ∀ w w', S w → Ext w w' → S w') (hS : S w)
    (h : Flow P l.toArray S Q (pick l ms) a w []) : AnyI P l.toArray Q l.toArray.size (Array.replicate l.toArray.size false) a w.drew := by
  have hx : Ext w w.drew := ⟨(Below.refl _ _).drew, Nat.le_succ _⟩
  refine any_of_inv (a0 := a) hB hSm _ _ _ _ ?_ ?_
  · have hno : ∀ j, ¬ exd (Array.replicate l.toArray.size false) j := fun j => by
      unfold exd
      simp only [Array.getD_eq_getD_getElem?, Array.getElem?_replicate]
      split <;> simp
    exact ⟨[], ms, a, w, [], fun _ => undef, fun _ => w, fun _ => w, rfl, by simp, fun i o _ hx => (hno i hx).elim, ⟨rfl, rfl, fun _ _ => rfl, fun j _ _ _ _ hx => (hno j hx).elim⟩,
      ⟨rfl, rfl, fun _ _ => rfl, fun j _ _ _ _ hx => by obtain ⟨m, hm, _⟩ := hx; simp at hm⟩, h, hx, hSm _ _ hS hx, fun p hp => by simp at hp, fun j hx => (hno j hx).elim, fun i _ hx => (hno i hx).elim, fun p hp => by simp at hp, fun p _ hx => (hno _ hx).elim⟩
  · simp [List.countP_replicate]
theorem wp_region_flow {id : Nat} {R : Exit → Act → World → Prop} {a : Act} {w : World} (S : World → Prop) (ms : List Meta) (hm : P.follows .mixedOrders = true) (hB : flowB l ms = true) (hSm : ∀ w w', S w → Ext w w' → S w') (hS : S w)
    (h : Flow P l.toArray S (fun a' w' => R .normal a' w') (pick l ms) a w []) : (Code.region id l.toArray true).wp P R a w :=
  wp_region_any hm (AnyI.any (fun _ _ h => h) _ _ _ _ (region_flow S ms hB hSm hS h))
end

/-! ### the steps, as a walk takes them -/
attribute [go_sem] valTo upTo

section
variable {P : Program} {ops : Array Oper} {S : World → Prop} {Q : Act → World → Prop} {o : Oper} {m : Meta} {rest : List (Oper × Meta)} {a : Act} {b : World} {h : List (Nat × World × World)}

theorem Flow.nil (hq : ∀ w, Ext b w → S w → (∀ p ∈ h, Ext p.2.2 w) → InTurn h → Q a w) : Flow P ops S Q [] a b h := hq

/-- kind 0: the same value in every world that meets S. -/
theorem Flow.free (hk : m.kind = 0) (hg : o.guard = none) (v : Value) (h1 : ∀ w, S w → valTo (fun v' w' => v' = v ∧ w' = w) ((execOp a.eval o).run P w)) (h2 : Flow P ops S Q rest (a.put o.dst v) b h) : Flow P ops S Q ((o, m) :: rest) a b h := by
  simp only [Flow, hk]
  exact ⟨v, fun w hw => by unfold ValTo; rw [if_pos (by simp [Region.wanted, hg])]; exact h1 w hw, h2⟩
theorem Flow.free_want (hk : m.kind = 0) (hg : Region.wanted o (yielded ops a.tmps) = true) (v : Value) (h1 : ∀ w, S w → valTo (fun v' w' => v' = v ∧ w' = w) ((execOp a.eval o).run P w)) (h2 : Flow P ops S Q rest (a.put o.dst v) b h) : Flow P ops S Q ((o, m) :: rest) a b h := by
  simp only [Flow, hk]
  exact ⟨v, fun w hw => by unfold ValTo; rw [if_pos hg]; exact h1 w hw, h2⟩
theorem Flow.free_skip (hk : m.kind = 0) (hg : Region.wanted o (yielded ops a.tmps) = false) (h2 : Flow P ops S Q rest (a.put o.dst undef) b h) : Flow P ops S Q ((o, m) :: rest) a b h := by
  simp only [Flow, hk]
  exact ⟨undef, fun w hw => by unfold ValTo; rw [if_neg (by rw [hg]; simp)]; exact ⟨rfl, rfl⟩, h2⟩
/-- kind 1: a value that hangs on the world at the region's head (or behind those that it waits for). -/
theorem Flow.read (hk : m.kind = 1) (hg : o.guard = none) (v : Value) (h1 : ∀ w, Ext b w → S w → (∀ p ∈ h, p.1 ∈ m.deps → Ext p.2.2 w) → valTo (fun v' w' => v' = v ∧ w' = w) ((execOp a.eval o).run P w)) (h2 : Flow P ops S Q rest (a.put o.dst v) b h) : Flow P ops S Q ((o, m) :: rest) a b h := by
  simp only [Flow, hk]
  intro w hw hS hd
  unfold ValTo
  rw [if_pos (by simp [Region.wanted, hg])]
  have h3 := h1 w hw hS hd
  obtain ⟨v1, w1, hK, hone⟩ := valTo_some h3
  obtain ⟨e1, e2⟩ := hK
  exact (hone _).2 ⟨by rw [e2]; exact Ext.rfl_ _, by rw [e1]; exact h2⟩
theorem Flow.read_want (hk : m.kind = 1) (hg : Region.wanted o (yielded ops a.tmps) = true) (v : Value) (h1 : ∀ w, Ext b w → S w → (∀ p ∈ h, p.1 ∈ m.deps → Ext p.2.2 w) → valTo (fun v' w' => v' = v ∧ w' = w) ((execOp a.eval o).run P w)) (h2 : Flow P ops S Q rest (a.put o.dst v) b h) : Flow P ops S Q ((o, m) :: rest) a b h := by
  simp only [Flow, hk]
  intro w hw hS hd
  unfold ValTo
  rw [if_pos hg]
  have h3 := h1 w hw hS hd
  obtain ⟨v1, w1, hK, hone⟩ := valTo_some h3
  obtain ⟨e1, e2⟩ := hK
  exact (hone _).2 ⟨by rw [e2]; exact Ext.rfl_ _, by rw [e1]; exact h2⟩
theorem Flow.read_skip (hk : m.kind = 1) (hg : Region.wanted o (yielded ops a.tmps) = false) (h2 : Flow P ops S Q rest (a.put o.dst undef) b h) : Flow P ops S Q ((o, m) :: rest) a b h := by
  simp only [Flow, hk]
  intro w hw hS hd
  unfold ValTo
  rw [if_neg (by rw [hg]; simp)]
  exact ⟨Ext.rfl_ _, h2⟩
/-- kind 2: an operation that makes memory; what it made is there for those that wait for it. -/
theorem Flow.make (hk : m.kind = 2) (hg : o.guard = none) (h1 : ∀ w, Ext b w → S w → (∀ p ∈ h, p.1 ∈ m.deps → Ext p.2.2 w) → ∀ K : Value → World → Prop, (∀ v w', Ext w w' → Flow P ops S Q rest (a.put o.dst v) b ((m.i, w, w') :: h) → K v w') → valTo K ((execOp a.eval o).run P w)) : Flow P ops S Q ((o, m) :: rest) a b h := by
  simp only [Flow, hk]
  intro w hw hS hd
  unfold ValTo
  rw [if_pos (by simp [Region.wanted, hg])]
  exact h1 w hw hS hd _ fun v w' he hf => ⟨he, hf⟩
/-- kind 3: a call that gives one and the same value and only adds to the world. -/
theorem Flow.call (hk : m.kind = 3) (hg : o.guard = none) (f : FuncId) (args : Array Value) (he : ∀ w, (execOp a.eval o).run P w = .ok (.enter f args) w) (v : Value)
    (h1 : ∀ w, Ext b w → S w → (∀ p ∈ h, p.1 ∈ m.deps → Ext p.2.2 w) → Calls P f args w fun e w' => e = .returned v ∧ Ext w w') (h2 : Flow P ops S Q rest (a.put o.dst v) b h) : Flow P ops S Q ((o, m) :: rest) a b h := by
  simp only [Flow, hk]
  intro w hw hS hd
  unfold OpTo
  rw [if_pos (by simp [Region.wanted, hg]), he w]
  exact (h1 w hw hS hd).mono fun e w' ⟨h3, h4⟩ => ⟨v, h3, h4, h2⟩
theorem Flow.call_want (hk : m.kind = 3) (hg : Region.wanted o (yielded ops a.tmps) = true) (f : FuncId) (args : Array Value) (he : ∀ w, (execOp a.eval o).run P w = .ok (.enter f args) w) (v : Value)
    (h1 : ∀ w, Ext b w → S w → (∀ p ∈ h, p.1 ∈ m.deps → Ext p.2.2 w) → Calls P f args w fun e w' => e = .returned v ∧ Ext w w') (h2 : Flow P ops S Q rest (a.put o.dst v) b h) : Flow P ops S Q ((o, m) :: rest) a b h := by
  simp only [Flow, hk]
  intro w hw hS hd
  unfold OpTo
  rw [if_pos hg, he w]
  exact (h1 w hw hS hd).mono fun e w' ⟨h3, h4⟩ => ⟨v, h3, h4, h2⟩
theorem Flow.call_skip (hk : m.kind = 3) (hg : Region.wanted o (yielded ops a.tmps) = false) (h2 : Flow P ops S Q rest (a.put o.dst undef) b h) : Flow P ops S Q ((o, m) :: rest) a b h := by
  simp only [Flow, hk]
  intro w hw hS hd
  unfold OpTo
  rw [if_neg (by rw [hg]; simp)]
  exact ⟨Ext.rfl_ _, h2⟩
/-- kind 4: a call whose result lies in what it made. -/
theorem Flow.callMake (hk : m.kind = 4) (hg : o.guard = none) (f : FuncId) (args : Array Value) (he : ∀ w, (execOp a.eval o).run P w = .ok (.enter f args) w)
    (h1 : ∀ w, Ext b w → S w → (∀ p ∈ h, p.1 ∈ m.deps → Ext p.2.2 w) → Calls P f args w fun e w' => ∃ v, e = .returned v ∧ Ext w w' ∧ Flow P ops S Q rest (a.put o.dst v) b ((m.i, w, w') :: h)) : Flow P ops S Q ((o, m) :: rest) a b h := by
  simp only [Flow, hk]
  intro w hw hS hd
  unfold OpTo
  rw [if_pos (by simp [Region.wanted, hg]), he w]
  exact h1 w hw hS hd
/-- kind 5: a turn of the world: all ahead of it has been carried out, all behind it waits. -/
theorem Flow.turn (hk : m.kind = 5) (hg : o.guard = none) (h1 : ∀ w, Ext b w → S w → (∀ p ∈ h, Ext p.2.2 w) → InTurn h → ∀ K : Value → World → Prop, (∀ v w', S w' → Flow P ops S Q rest (a.put o.dst v) w' [] → K v w') → valTo K ((execOp a.eval o).run P w)) : Flow P ops S Q ((o, m) :: rest) a b h := by
  simp only [Flow, hk]
  intro w hw hS hd ht
  unfold OpTo
  rw [if_pos (by simp [Region.wanted, hg])]
  have h3 := h1 w hw hS hd ht (fun v w' => S w' ∧ Flow P ops S Q rest (a.put o.dst v) w' []) fun v w' he hf => ⟨he, hf⟩
  unfold valTo at h3
  unfold upTo
  split at h3
  · rename_i e; rw [e]; exact h3
  · rename_i e; rw [e]; exact h3
  · exact h3.elim
theorem Flow.turnCall (hk : m.kind = 5) (hg : o.guard = none) (f : FuncId) (args : Array Value) (he : ∀ w, (execOp a.eval o).run P w = .ok (.enter f args) w)
    (h1 : ∀ w, Ext b w → S w → (∀ p ∈ h, Ext p.2.2 w) → InTurn h → Calls P f args w fun e w' => ∃ v, e = .returned v ∧ S w' ∧ Flow P ops S Q rest (a.put o.dst v) w' []) : Flow P ops S Q ((o, m) :: rest) a b h := by
  simp only [Flow, hk]
  intro w hw hS hd ht
  unfold OpTo
  rw [if_pos (by simp [Region.wanted, hg]), he w]
  exact h1 w hw hS hd ht
end

section
variable {P : Program} {ops : Array Oper} {S : World → Prop} {Q : Act → World → Prop} {o : Oper} {m : Meta} {rest : List (Oper × Meta)} {a : Act} {b : World} {h : List (Nat × World × World)}
/-- kind 1: a whole struct or array read. -/
theorem Flow.readRange (hk : m.kind = 1) (hg : o.guard = none) {ty : TypeId} {x : Operand} {g off : Nat} {cs : List Value} {d : TypeDesc} (ho : o.op = .load ty x) (hx : a.eval x = .pointer (some ⟨g, off, none⟩))
    (hc : ∀ W, Ext b W → S W → (∀ p ∈ h, p.1 ∈ m.deps → Ext p.2.2 W) → W.rangeAt g off cs) (hu : P.underlying ty = some d) (hd : d.isRow = true) (hi : (P.info? ty).map (·.size) = some cs.length)
    (h2 : Flow P ops S Q rest (a.put o.dst (.agg cs.toArray)) b h) : Flow P ops S Q ((o, m) :: rest) a b h := by
  refine Flow.read hk hg (.agg cs.toArray) (fun W h3 h4 h5 => ?_) h2
  unfold execOp
  simp only [ho, hx, Sem.run_bind, run_loadAt_mid W g off ty cs d (hc W h3 h4 h5) hu hd hi, Result.andThen_ok, Sem.run_pure]
  exact ⟨rfl, rfl⟩
/-- kind 5: a whole struct or array stored. -/
theorem Flow.storeRange (hk : m.kind = 5) (hg : o.guard = none) {ty : TypeId} {x y : Operand} {g off : Nat} {cells : Array Value} (ho : o.op = .store ty x y) (hx : a.eval x = .pointer (some ⟨g, off, none⟩)) (hy : a.eval y = .agg cells)
    (hi : (P.info? ty).map (·.size) = some cells.size) (h1 : cells.all (·.oneCell') = true)
    (hc : ∀ W, Ext b W → S W → (∀ p ∈ h, Ext p.2.2 W) → InTurn h → W.there g off cells.size ∧ S (W.setCells g off cells.toList) ∧ Flow P ops S Q rest (a.put o.dst undef) (W.setCells g off cells.toList) []) : Flow P ops S Q ((o, m) :: rest) a b h := by
  refine Flow.turn hk hg fun W h3 h4 h5 h6 K hK => ?_
  obtain ⟨h7, h8, h9⟩ := hc W h3 h4 h5 h6
  unfold execOp
  simp only [ho, hx, hy, Sem.run_bind, run_storeAt_mid W g off ty cells h7 hi h1, Result.andThen_ok, Sem.run_pure]
  exact hK _ _ h8 h9
end
theorem Ext.range {w W : World} (hb : Ext w W) {g off : Nat} {cs : List Value} (h : w.rangeAt g off cs) : W.rangeAt g off cs := fun j v hv => (hb.cell (World.block_lt_of_cell? _ _ (h j v hv))).trans (h j v hv)
theorem Ext.there_ {w W : World} (hb : Ext w W) {g off n : Nat} (h : w.there g off n) : W.there g off n := fun j hj => by
  obtain ⟨h1, h2⟩ := h j hj
  cases hc : w.cell? ⟨g, off + j, none⟩ with
  | none => rw [hc] at h1; cases h1
  | some v =>
    have hl := World.block_lt_of_cell? _ _ hc
    exact ⟨by rw [hb.cell hl, hc]; rfl, by rw [hb.frozen hl]; exact h2⟩

theorem wp_named {P : Program} {c : Code} {R : Exit → Act → World → Prop} {a : Act} {W : World} (h : ∀ w1, w1 = W → c.wp P R a w1) : c.wp P R a W := h W rfl
theorem Ext.rules {W w1 : World} (hb : Ext W w1) : (∀ b o, b < W.heap.size → w1.cell? ⟨b, o, none⟩ = W.cell? ⟨b, o, none⟩) ∧ (∀ b o, b < W.heap.size → w1.frozen? ⟨b, o, none⟩ = W.frozen? ⟨b, o, none⟩) :=
  ⟨fun b o h => hb.cell (p := ⟨b, o, none⟩) h, fun b o h => hb.frozen (p := ⟨b, o, none⟩) h⟩
/-- A cell that was there is there. -/
theorem Ext.at_ {W w1 : World} (hb : Ext W w1) {p : Addr} {v : Value} (h : W.cell? p = some v) : w1.cell? p = some v := (hb.cell (World.block_lt_of_cell? _ _ h)).trans h
/-- 'Below' and then more memory. -/
theorem below_ext {B : Nat} {a b c : World} (h : Below B a b) (k : Ext b c) (hB : B ≤ a.heap.size) : Below B a c :=
  h.trans (k.toBelow.mono (Nat.le_trans hB h.size))
theorem Ext.new (w : World) (o : Obj) : Ext w (w.alloc o) := ⟨(Below.refl _ _).alloc (Nat.le_refl _) o, Nat.le_refl _⟩
theorem Ext.drew_ (w : World) : Ext w w.drew := ⟨(Below.refl _ _).drew, Nat.le_succ _⟩
end Go.Flow
