/- Maps of one's own: lists of pairs, in the order in which the keys came. Own text. -/
import Derived.Test.YtoehnbacbobhiaaDoorSepy
namespace Go.Sep
open Go.RowKit Go.Flow Go.Mem

section plain
variable {κ β : Type} [DecidableEq κ]
def aget : List (κ × β) → κ → Option β
  | [], _ => none
  | (k, v) :: r, x => if x = k then some v else aget r x
def aset : List (κ × β) → κ → β → List (κ × β)
  | [], x, v => [(x, v)]
  | (k, u) :: r, x, v => if x = k then (x, v) :: r else (k, u) :: aset r x v
theorem aget_aset (m : List (κ × β)) (x y : κ) (v : β) : aget (aset m x v) y = if y = x then some v else aget m y := by
  induction m with
  | nil => simp [aset, aget]
  | cons p r ih =>
    obtain ⟨k, u⟩ := p
    by_cases h : x = k
    · subst h
      by_cases h2 : y = x
      · simp [aset, aget, h2]
      · simp [aset, aget, h2]
    · by_cases h2 : y = k
      · subst h2
        have : ¬ y = x := fun e => h e.symm
        simp [aset, aget, h, this]
      · simp [aset, aget, h, h2, ih]
/-- The place of a key. -/
def aidx : List (κ × β) → κ → Option (Nat × β)
  | [], _ => none
  | (k, v) :: r, x => if x = k then some (0, v) else (aidx r x).map fun p => (p.1 + 1, p.2)
theorem aidx_get (m : List (κ × β)) (x : κ) : (aidx m x).map (·.2) = aget m x := by
  induction m with
  | nil => rfl
  | cons p r ih =>
    obtain ⟨k, u⟩ := p
    by_cases h : x = k
    · simp [aidx, aget, h]
    · simp [aidx, aget, h, ← ih, Function.comp_def]
end plain

/-- How keys are laid: what the program's own equality says of them. -/
structure KeyTy (P : Program) (K : TypeId) {κ : Type} [DecidableEq κ] (ek : κ → Value) : Prop where
  same : ∀ a b w, (Op.equal K (ek a) (ek b)).run P w = .ok (decide (a = b)) w
  now : ∀ d, P.underlying K = some d → (∀ a b, Instr.sameNow d (ek a) (ek b) = none) ∨ ∀ a b, Instr.sameNow d (ek a) (ek b) = some (decide (a = b))
  und : ∃ d, P.underlying K = some d
  check : ∀ e a w, (Instr.checkKey e 10000 K (ek a)).run P w = .ok () w
  bits : ∀ a, Instr.sameBits 10000 (ek a) (ek a) = true
def pairs {κ β : Type} (ek : κ → Value) (evl : β → Value) (m : List (κ × β)) : List (Value × Value) := m.map fun p => (ek p.1, evl p.2)
def entries (es : List MapEntry) : List (Value × Value) := es.map fun e => (e.key, e.val)
theorem findNow_none {κ β : Type} {ek : κ → Value} {evl : β → Value} {d : TypeDesc} (x : κ) (hn : ∀ a b, Instr.sameNow d (ek a) (ek b) = none) : ∀ (es : List MapEntry) (m : List (κ × β)) (i : Nat), entries es = pairs ek evl m → es ≠ [] → Instr.findNow d (ek x) es i = none
  | [], _, _, _, h => (h rfl).elim
  | e :: es, [], i, h, _ => by simp [entries, pairs] at h
  | e :: es, (k, v) :: m, i, h, _ => by
    simp only [entries, pairs, List.map_cons, List.cons.injEq, Prod.mk.injEq] at h
    unfold Instr.findNow
    rw [h.1.1, hn x k]
/-- A map of one's own. -/
def mapc {κ β : Type} (ek : κ → Value) (evl : β → Value) (b : Nat) (m : List (κ × β)) : Chunk where
  owns := [b]
  reads := []
  holds w := ∃ es clock, w.heap[b]? = some (.map es clock) ∧ entries es.toList = pairs ek evl m
  loc w w' h hw := by rw [h b (.inl (by simp))]; exact hw
  lt w hw g hg := by
    obtain ⟨es, clock, h, _⟩ := hw
    simp only [List.mem_singleton, List.not_mem_nil, or_false] at hg
    subst hg
    exact lt_of_block h
section
variable {P : Program} {K : TypeId} {κ β : Type} [DecidableEq κ] {ek : κ → Value} {evl : β → Value}
theorem run_findAsking (hK : KeyTy P K ek) (x : κ) (w : World) : ∀ (es : List MapEntry) (m : List (κ × β)) (i : Nat), entries es = pairs ek evl m → (Instr.findAsking K (ek x) es i).run P w = .ok ((aidx m x).map fun p => (p.1 + i, evl p.2)) w
  | [], [], i, _ => by simp [Instr.findAsking, aidx]
  | [], _ :: _, i, h => by simp [entries, pairs] at h
  | _ :: _, [], i, h => by simp [entries, pairs] at h
  | e :: es, (k, v) :: m, i, h => by
    simp only [entries, pairs, List.map_cons, List.cons.injEq, Prod.mk.injEq] at h
    obtain ⟨⟨h1, h2⟩, h3⟩ := h
    have ih := run_findAsking hK x w es m (i + 1) h3
    unfold Instr.findAsking
    rw [Sem.run_bind, h1, hK.same x k w]
    by_cases hx : x = k
    · simp [aidx, hx, h2]
    · simp only [Result.andThen_ok, decide_eq_false hx, Bool.false_eq_true, if_false, ih, aidx, if_neg hx, Option.map_map]
      congr 2
      funext p
      simp only [Function.comp_def]
      congr 1; omega
theorem findNow_some {d : TypeDesc} (x : κ) (hn : ∀ a b, Instr.sameNow d (ek a) (ek b) = some (decide (a = b))) : ∀ (es : List MapEntry) (m : List (κ × β)) (i : Nat), entries es = pairs ek evl m → Instr.findNow d (ek x) es i = some ((aidx m x).map fun p => (p.1 + i, evl p.2))
  | [], [], _, _ => by simp [Instr.findNow, aidx]
  | [], _ :: _, _, h => by simp [entries, pairs] at h
  | _ :: _, [], _, h => by simp [entries, pairs] at h
  | e :: es, (k, v) :: m, i, h => by
    simp only [entries, pairs, List.map_cons, List.cons.injEq, Prod.mk.injEq] at h
    obtain ⟨⟨h1, h2⟩, h3⟩ := h
    have ih := findNow_some x hn es m (i + 1) h3
    unfold Instr.findNow
    rw [h1, hn x k]
    by_cases hx : x = k
    · simp [aidx, hx, h2]
    · simp only [decide_eq_false hx, ih, aidx, if_neg hx, Option.map_map]
      congr 2
      funext p
      simp only [Function.comp_def]
      congr 1; omega
theorem run_findKey (hK : KeyTy P K ek) (x : κ) (w : World) (es : List MapEntry) (m : List (κ × β)) (h : entries es = pairs ek evl m) : (Instr.findKey K (ek x) es).run P w = .ok ((aidx m x).map fun p => (p.1, evl p.2)) w := by
  obtain ⟨d, hd⟩ := hK.und
  unfold Instr.findKey
  rw [Sem.run_bind, run_underlying hd]
  simp only [Result.andThen_ok]
  rcases hK.now d hd with hn | hn
  · cases es with
    | nil =>
      cases m with
      | nil => simp [Instr.findNow, aidx]
      | cons p m => simp [entries, pairs] at h
    | cons e es =>
      rw [findNow_none x hn (e :: es) m 0 h (by simp)]
      have := run_findAsking hK x w (e :: es) m 0 h
      simpa using this
  · rw [findNow_some x hn es m 0 h]
    simp
variable {o : Oper} {ρ : Slots} {Γ : List Chunk} {x y z : Operand} {t E : TypeId} {b i : Nat} {m : List (κ × β)} {k : κ}
theorem Mk.makeMapOwn {κ β : Type} (ek : κ → Value) (evl : β → Value) (ho : o.op = .makeMap t none) : Mk P o ρ Γ (fun v N => ∃ r, v = .map (some r) ∧ N = [mapc ek evl r []]) := fun a w _ _ => by
  refine ⟨_, _, w.alloc (.map #[] 0), ?_, ⟨w.heap.size, rfl, rfl⟩, Post.new ⟨#[], 0, heap_alloc_new _ _, rfl⟩ rfl rfl⟩
  unfold execOp
  simp [ho, Instr.makeMap]
theorem run_lookup_map (hK : KeyTy P K ek) (ht : P.underlying t = some (.map K E)) (zv : β) (hz : ∀ w, (zeroValue E).run P w = .ok (evl zv) w) (ok : Bool) {w : World} (hm : (mapc ek evl b m).holds w) : (Instr.lookup t (.map (some b)) (ek k) ok).run P w = .ok (if ok then .tuple #[evl ((aget m k).getD zv), .bool (aget m k).isSome] else evl ((aget m k).getD zv)) w := by
  obtain ⟨es, clock, h1, h2⟩ := hm
  have hf := run_findKey (evl := evl) hK k w es.toList m h2
  rw [← aidx_get]
  cases hi : aidx m k with
  | none => cases ok <;> simp [Instr.lookup, run_underlying ht, getObj, Sem.run, h1, hK.check, hf, hi, hz]
  | some p => cases ok <;> simp [Instr.lookup, run_underlying ht, getObj, Sem.run, h1, hK.check, hf, hi]
theorem Rd.lookup (hK : KeyTy P K ek) (zv : β) (ho : o.op = .lookup t x y false) (ht : P.underlying t = some (.map K E)) (hz : ∀ w, (zeroValue E).run P w = .ok (evl zv) w) (hx : ev ρ x = some (.map (some b))) (hy : ev ρ y = some (ek k)) (hi : Γ[i]? = some (mapc ek evl b m)) : Rd P o ρ Γ (evl ((aget m k).getD zv)) := fun a w ha hs => by
  have := run_lookup_map (k := k) hK ht zv hz false (hs _ (List.mem_of_getElem? hi))
  unfold execOp
  simp [ho, ha.eval hx, ha.eval hy, this]
theorem Rd.lookupOk (hK : KeyTy P K ek) (zv : β) (ho : o.op = .lookup t x y true) (ht : P.underlying t = some (.map K E)) (hz : ∀ w, (zeroValue E).run P w = .ok (evl zv) w) (hx : ev ρ x = some (.map (some b))) (hy : ev ρ y = some (ek k)) (hi : Γ[i]? = some (mapc ek evl b m)) : Rd P o ρ Γ (.tuple #[evl ((aget m k).getD zv), .bool (aget m k).isSome]) := fun a w ha hs => by
  have := run_lookup_map (k := k) hK ht zv hz true (hs _ (List.mem_of_getElem? hi))
  unfold execOp
  simp [ho, ha.eval hx, ha.eval hy, this]
theorem aset_entries (x : κ) (v : β) : ∀ (es : List MapEntry) (m : List (κ × β)), entries es = pairs ek evl m → (∀ c, aidx m x = none → entries (es ++ [{ key := ek x, val := evl v, born := c }]) = pairs ek evl (aset m x v)) ∧ ∀ j u, aidx m x = some (j, u) → entries (es.modify j fun e => { e with key := ek x, val := evl v }) = pairs ek evl (aset m x v)
  | [], [], _ => ⟨fun _ _ => rfl, fun _ _ h => by simp [aidx] at h⟩
  | [], _ :: _, h => by simp [entries, pairs] at h
  | _ :: _, [], h => by simp [entries, pairs] at h
  | e :: es, (k, u) :: m, h => by
    simp only [entries, pairs, List.map_cons, List.cons.injEq, Prod.mk.injEq] at h
    obtain ⟨⟨h1, h2⟩, h3⟩ := h
    obtain ⟨ih1, ih2⟩ := aset_entries x v es m h3
    by_cases hx : x = k
    · refine ⟨fun c hn => by simp [aidx, hx] at hn, fun j u' hj => ?_⟩
      simp only [aidx, if_pos hx, Option.some.injEq, Prod.mk.injEq] at hj
      obtain ⟨rfl, _⟩ := hj
      simp only [aset, if_pos hx, List.modify_zero_cons, entries, pairs, List.map_cons]
      exact congrArg _ h3
    · refine ⟨fun c hn => ?_, fun j u' hj => ?_⟩
      · simp only [aidx, if_neg hx, Option.map_eq_none_iff] at hn
        have := ih1 c hn
        simp only [entries, pairs, aset, if_neg hx, List.cons_append, List.map_cons, h1, h2] at this ⊢
        rw [this]
      · simp only [aidx, if_neg hx] at hj
        obtain ⟨⟨j', u''⟩, hj', he⟩ := Option.map_eq_some_iff.1 hj
        simp only [Prod.mk.injEq] at he
        obtain ⟨rfl, rfl⟩ := he
        have := ih2 j' u'' hj'
        simp only [entries, pairs, aset, if_neg hx, List.modify_succ_cons, List.map_cons, h1, h2] at this ⊢
        rw [this]
theorem aidx_key (x : κ) : ∀ (es : List MapEntry) (m : List (κ × β)) (j : Nat) (u : β), entries es = pairs ek evl m → aidx m x = some (j, u) → (es[j]?).map (·.key) = some (ek x)
  | [], [], _, _, _, h => by simp [aidx] at h
  | [], _ :: _, _, _, h, _ => by simp [entries, pairs] at h
  | _ :: _, [], _, _, h, _ => by simp [entries, pairs] at h
  | e :: es, (k, v) :: m, j, u, h, hj => by
    simp only [entries, pairs, List.map_cons, List.cons.injEq, Prod.mk.injEq] at h
    obtain ⟨⟨h1, h2⟩, h3⟩ := h
    by_cases hx : x = k
    · simp only [aidx, if_pos hx, Option.some.injEq, Prod.mk.injEq] at hj
      obtain ⟨rfl, _⟩ := hj
      simp [h1, hx]
    · simp only [aidx, if_neg hx] at hj
      obtain ⟨⟨j', u''⟩, hj', he⟩ := Option.map_eq_some_iff.1 hj
      simp only [Prod.mk.injEq] at he
      obtain ⟨rfl, rfl⟩ := he
      simpa using aidx_key x es m j' u'' h3 hj'
theorem Up.mapUpdate (hK : KeyTy P K ek) {v : β} (ho : o.op = .mapUpdate t x y z) (ht : P.underlying t = some (.map K E)) (hx : ev ρ x = some (.map (some b))) (hy : ev ρ y = some (ek k)) (hz : ev ρ z = some (evl v)) (hi : Γ[i]? = some (mapc ek evl b m)) : Up P o ρ Γ (Γ.set i (mapc ek evl b (aset m k v))) := fun a w ha hs => by
  obtain ⟨es, clock, h1, h2⟩ := hs.each _ (List.mem_of_getElem? hi)
  have hf := run_findKey (evl := evl) hK k w es.toList m h2
  obtain ⟨g1, g2⟩ := aset_entries (ek := ek) (evl := evl) k v es.toList m h2
  have hlt := lt_of_block h1
  have key : ∃ es' clock', (Instr.mapUpdate t (.map (some b)) (ek k) (evl v)).run P w = .ok () { w with heap := w.heap.setIfInBounds b (.map es' clock') } ∧ entries es'.toList = pairs ek evl (aset m k v) := by
    cases hj : aidx m k with
    | none =>
      refine ⟨es.push { key := ek k, val := evl v, born := clock }, clock + 1, ?_, by rw [Array.toList_push]; exact g1 clock hj⟩
      simp [Instr.mapUpdate, run_underlying ht, getObj, setObj, Sem.run, h1, hK.check, hf, hj]
    | some p =>
      obtain ⟨j, u⟩ := p
      have hk := aidx_key (ek := ek) (evl := evl) k es.toList m j u h2 hj
      have hk' : ((es[j]?).map (·.key)).getD (ek k) = ek k := by
        rw [Array.getElem?_toList] at hk; rw [hk]; rfl
      refine ⟨es.modify j fun e => { e with key := ek k, val := evl v }, clock, ?_, by rw [Array.toList_modify]; exact g2 j u hj⟩
      simp [Instr.mapUpdate, run_underlying ht, getObj, setObj, Sem.run, h1, hK.check, hf, hj, hk', Instr.keyThatStays, hK.bits]
  obtain ⟨es', clock', hrun, h3⟩ := key
  have hpost : Post [mapc ek evl b m] [mapc ek evl b (aset m k v)] w { w with heap := w.heap.setIfInBounds b (.map es' clock') } := by
    refine ⟨⟨fun c hc => ?_, by simp [owns, mapc], by simp [reads, mapc]⟩, ?_, ?_, by simp [reads, mapc]⟩
    · rw [List.mem_singleton.1 hc]
      exact ⟨es', clock', by simp [hlt], h3⟩
    · refine ⟨rfl, rfl, rfl, by simp, fun g _ hg => ?_, Nat.le_refl _⟩
      have : b ≠ g := fun e => hg (by simp [owns, mapc, e])
      simp [this]
    · intro g hg _
      simpa [owns, mapc] using hg
  refine ⟨_, ?_, Post.set hi hs hpost⟩
  unfold execOp
  simp only [ho, ha.eval hx, ha.eval hy, ha.eval hz, Sem.run_bind, hrun, Result.andThen_ok, Sem.run_pure]
end
end Go.Sep
