/- Merged out of Seps, Sepm, Sepk by merge.py. Own text. -/
import Derived.Test.YtneimfacccgaeaaL2
import Derived.Deep.Slices
import Derived.WalkKit
import Derived.ProofKit
import Derived.OpenShut
import Derived.ChangeOld
import Derived.Below
import Derived.Laws.StructEq
namespace Go.Sep
open Go.ChangeShapes Go.WideShapes Go.ChangeAt Go.RowKit Go.Flow Go.Mem Go.Deep
section
variable {H : Type} {ench : TypeId × Value → H} {P : Program} {w : World} {base : Nat} {spare : Nat → Bool} {held : Bool}
theorem flat_at {α : Type} {enc : α → List Value} {size : Nat} (hs : ∀ x, (enc x).length = size) : ∀ (l : List α) (k : Nat) (v : Value), (l.flatMap enc)[k]? = some v → ∃ i j a, k = i * size + j ∧ l[i]? = some a ∧ (enc a)[j]? = some v
  | [], k, v, h => by simp at h
  | x :: l, k, v, h => by
    rw [List.flatMap_cons] at h
    rcases Nat.lt_or_ge k size with hk | hk
    · rw [List.getElem?_append_left (by rw [hs]; exact hk)] at h
      exact ⟨0, k, x, by omega, rfl, h⟩
    · rw [List.getElem?_append_right (by rw [hs]; exact hk), hs] at h
      obtain ⟨i, j, a, h1, h2, h3⟩ := flat_at hs l (k - size) v h
      exact ⟨i + 1, j, a, by rw [Nat.add_mul]; omega, h2, h3⟩
theorem open_list {α : Type} {enc : α → List Value} {size : Nat} (hs : ∀ x, (enc x).length = size) (hpos : 0 < size) (Q : α → Prop) {t e : TypeId} {fuel : Nat} {cs : List Value} {x : DataW H × List MemPlace} (ht : P.underlying t = some (.slice e)) (hC : P.cellsOf e = size)
    (hel : ∀ n cs' x', DataW.trod ench P w base spare held n e cs' = some x' → cs'.length = size → ∃ a : α, cs' = enc a ∧ Q a) (h : DataW.trod ench P w base spare held fuel t cs = some x) :
    ∃ (A : Option Addr) (l : List α) (cap : Nat), cs = [.slice A l.length cap] ∧ Src w A (l.flatMap enc) ∧ (∀ a ∈ l, Q a) ∧ l.length ≤ cap ∧ cap ≤ maxLen := by
  rcases open_slice ht h with ⟨h0, _⟩ | ⟨a, len, cap, m, n, D, Pl, hcs, _, hl, hm, hmm, _, hi⟩
  · exact ⟨none, [], 0, h0, .inl rfl, by simp, Nat.le_refl _, Nat.zero_le _⟩
  · have hlm : len ≤ m := by rw [hmm]; split <;> omega
    have key : ∀ i, i < len → ∃ b : α, (∀ j v, (enc b)[j]? = some v → w.cell? (a.add (i * size + j)) = some v) ∧ Q b := fun i hil => by
      obtain ⟨cs', hc, ht'⟩ := hi i (by omega)
      rw [hC] at hc
      obtain ⟨_, hcl, hat⟩ := World.cells?_some hc
      obtain ⟨b, hb, hq⟩ := hel _ _ _ ht' hcl
      refine ⟨b, fun j v hv => ?_, hq⟩
      have hj : j < size := by rw [← hs b]; exact (List.getElem?_eq_some_iff.1 hv).1
      rw [← Go.Deep.add_add, hat j hj, hb, hv]
    rcases Nat.eq_zero_or_pos len with h0 | h0
    · subst h0
      exact ⟨some a, [], cap, hcs, .inl rfl, by simp, Nat.zero_le _, hm⟩
    · have key2 : ∀ i, ∃ b : α, i < len → (∀ j v, (enc b)[j]? = some v → w.cell? (a.add (i * size + j)) = some v) ∧ Q b := fun i => by
        by_cases hil : i < len
        · obtain ⟨b, hb⟩ := key i hil; exact ⟨b, fun _ => hb⟩
        · obtain ⟨b, _⟩ := key 0 h0; exact ⟨b, fun h => (hil h).elim⟩
      let f : Nat → α := fun i => Classical.choose (key2 i)
      have hf : ∀ i, i < len → (∀ j v, (enc (f i))[j]? = some v → w.cell? (a.add (i * size + j)) = some v) ∧ Q (f i) := fun i => Classical.choose_spec (key2 i)
      obtain ⟨v0, hv0⟩ : ∃ v, (enc (f 0))[0]? = some v := ⟨_, List.getElem?_eq_getElem (by rw [hs]; exact hpos)⟩
      have hc0 := (hf 0 h0).1 0 v0 hv0
      obtain ⟨b, off, spot⟩ := a
      have hspot : spot = none := by simpa [Addr.add] using World.cell?_spot hc0
      subst hspot
      refine ⟨some ⟨b, off, none⟩, (List.range len).map f, cap, by simpa using hcs, .inr ⟨b, off, rfl, fun k v hv => ?_⟩, fun x hx => ?_, by simpa using hl, hm⟩
      · obtain ⟨i, j, y, h1, h2, h3⟩ := flat_at hs _ k v hv
        rw [List.getElem?_map] at h2
        obtain ⟨i', h4, h5⟩ := Option.map_eq_some_iff.1 h2
        have h6 : i' = i ∧ i < len := by
          have := List.getElem?_eq_some_iff.1 h4
          simp at this
          exact ⟨this.2.symm, this.1⟩
        obtain ⟨rfl, h7⟩ := h6
        rw [← h5] at h3
        have := (hf i' h7).1 j v h3
        rw [Addr.add_mid] at this
        rw [h1]; exact this
      · obtain ⟨i, hi', rfl⟩ := List.mem_map.1 hx
        exact (hf i (List.mem_range.1 hi')).2
theorem open_fields {e : TypeId} {fs : Array Field} {fuel : Nat} {cs : List Value} {x : DataW H × List MemPlace} (he : P.underlying e = some (.struct fs)) (h : DataW.trod ench P w base spare held fuel e cs = some x) (i : Nat) (f : Field) (hf : fs[i]? = some f) (h1 : P.cellsOf f.type = 1) {c : Value} (hc : cs[f.offset]? = some c) :
    ∃ n y, DataW.trod ench P w base spare held n f.type [c] = some y := by
  obtain ⟨xs, n, _, _, _, hxl, hx⟩ := DataW.trod_struct he h
  have := hx i f hf
  rw [h1] at this
  have e1 : (cs.drop f.offset).take 1 = [c] := sub1 hc
  rw [e1] at this
  have hi : i < xs.length := by rw [hxl]; exact (Array.getElem?_eq_some_iff.1 hf).1
  exact ⟨n, xs[i], by rw [this, List.getElem?_eq_getElem hi]⟩
theorem below_trodAll (hl : laidOutB P = true) {W W' : World} (hb : Below W.heap.size W W') : ∀ {ts : List TypeId} {vs : List Value} {ds : List (DataW H)} {p : List MemPlace}, (∀ t ∈ ts, P.readableRec t = true ∧ t < P.types.size) → DataW.TrodAll ench P W 0 (fun _ => true) true ts vs ds p → 
    DataW.TrodAll ench P W' 0 (fun b => decide (b < W.heap.size)) true ts vs ds p
  | [], vs, ds, p, _, h => by
    cases vs with
    | nil => obtain ⟨rfl, rfl⟩ : ds = [] ∧ p = [] := by simpa using trodAll_nil h
             exact trodAll_mk0
    | cons v vs => exact absurd (trodAll_nil h).1 (by simp)
  | t :: ts, vs, ds, p, hr, h => by
    obtain ⟨v0, vs0, d0, ds0, p0, q0, rfl, rfl, rfl, h0, r0⟩ := trodAll_cons h
    obtain ⟨h1, h2⟩ := hr t (by simp)
    have lt0 : ∀ x ∈ p0, x.block < W.heap.size := by
      obtain ⟨m, hm⟩ := h0; exact DataW.trod_lt m _ _ _ hm
    exact trodAll_cons_mk (Below.trod hl h1 h2 h0 hb lt0) (below_trodAll hl hb (fun t ht => hr t (by simp [ht])) r0)
end
end Go.Sep
namespace Go.Sep
open Go.RowKit Go.Flow Go.Mem
theorem Does.law {P : Program} {f : FuncId} {args : List Value} {Γ : List Chunk} {w : World} (h : Does P f args Γ (fun v _ => v = .bool true)) (hq : owns Γ = []) (hs : oks Γ w) : Calls P f args.toArray w fun e w' => e = .returned (.bool true) ∧ Ext w w' :=
  (h w (sat_of_oks hq hs)).mono fun _ _ ⟨_, _, h1, h2, h3⟩ => ⟨by rw [h1, h2], h3.keeps.ext fun _ _ hg => by rw [hq] at hg; simp at hg⟩
theorem oks_two {c d : Chunk} {w : World} (h1 : c.holds w) (h2 : d.holds w) : oks [c, d] w := fun x hx => by
  simp only [List.mem_cons, List.not_mem_nil, or_false] at hx
  rcases hx with rfl | rfl
  · exact h1
  · exact h2
theorem oks_one {c : Chunk} {w : World} (h1 : c.holds w) : oks [c] w := fun x hx => by rw [List.mem_singleton.1 hx]; exact h1
theorem oks_more {c : Chunk} {Γ : List Chunk} {w : World} (h1 : c.holds w) (h2 : oks Γ w) : oks (c :: Γ) w := fun x hx => by
  rcases List.mem_cons.1 hx with rfl | h
  · exact h1
  · exact h2 x h
end Go.Sep
namespace Go.Sep
open Go.ChangeShapes Go.WideShapes Go.ChangeAt Go.RowKit Go.Flow Go.Mem Go.Deep
theorem open_int_array {H : Type} {ench : TypeId × Value → H} {P : Program} {w : World} {base : Nat} {spare : Nat → Bool} {held : Bool} {r : Reach} {b0 : Nat} {t e : TypeId} {n : Nat} {k : IntKind} {v : Value} {d : DataW H} {ps : List MemPlace} (ht : P.underlying t = some (.array n e)) (he : P.underlying e = some (.int k)) (h1 : P.cellsOf e = 1) (h2 : P.cellsOf t = n)
    (hval : Value.okWide P w r b0 t v) (hd : DataW.Trod ench P w base spare held t v d ps) : ∃ zs : List Int, zs.length = n ∧ v = .agg (zs.map (Value.int k)).toArray ∧ ∀ z ∈ zs, (Lit.int k z).wf = true := by
  simp only [Value.okWide, ht] at hval
  obtain ⟨cs, rfl, hsz, _⟩ := hval
  obtain ⟨fuel, hf⟩ := hd
  obtain ⟨xs, m, _, _, hl, hxl, hx⟩ := DataW.trod_array ht hf
  have key : ∀ i, i < n → ∃ z, cs.toList[i]? = some (.int k z) ∧ (Lit.int k z).wf = true := fun i hi => by
    have := hx i hi
    rw [h1, Nat.mul_one] at this
    have hlt : i < cs.toList.length := by rw [Array.length_toList, hsz, h2]; exact hi
    have e1 : (cs.toList.drop i).take 1 = [cs.toList[i]] := sub1 (List.getElem?_eq_getElem hlt)
    have e2 : ((Value.agg cs).cells.toList.drop i).take 1 = [cs.toList[i]] := e1
    rw [e2] at this
    have hxi : i < xs.length := by omega
    rw [List.getElem?_eq_getElem hxi] at this
    obtain ⟨z, hz, _, hw⟩ := DataW.trod_int he this
    simp only [List.cons.injEq, and_true] at hz
    exact ⟨z, by rw [List.getElem?_eq_getElem hlt, hz], hw⟩
  have all : ∀ l : List Value, (∀ i, i < l.length → ∃ z, l[i]? = some (.int k z) ∧ (Lit.int k z).wf = true) → ∃ zs : List Int, l = zs.map (Value.int k) ∧ ∀ z ∈ zs, (Lit.int k z).wf = true := by
    intro l
    induction l with
    | nil => exact fun _ => ⟨[], rfl, by simp⟩
    | cons u l ih =>
      intro h
      obtain ⟨zs, h3, h4⟩ := ih fun i hi => by
        have := h (i + 1) (by simpa using hi)
        simpa using this
      obtain ⟨z, h5, h6⟩ := h 0 (by simp)
      simp at h5
      exact ⟨z :: zs, by simp [h5, h3], fun y hy => (List.mem_cons.1 hy).elim (fun h' => by rw [h']; exact h6) (h4 y)⟩
  obtain ⟨zs, h3, h4⟩ := all cs.toList fun i hi => key i (by rw [Array.length_toList, hsz, h2] at hi; exact hi)
  refine ⟨zs, ?_, ?_, h4⟩
  · have := congrArg List.length h3
    simp only [Array.length_toList, List.length_map] at this
    omega
  · rw [← h3]
end Go.Sep
namespace Go.Sep
open Go.RowKit Go.Flow Go.Mem

section plain
variable {κ β : Type} [DecidableEq κ]
def aget : List (κ × β) → κ → Option β
  | [], _ => none
  | (k, v) :: r, x => if x = k then some v else aget r x
def aset : List (κ × β) → κ → β → List (κ × β)
  | [], x, v => [(x, v)]
  | (k, u) :: r, x, v => if x = k then (x, v) :: r else (k, u) :: aset r x v
theorem aget_aset (m : List (κ × β)) (x y : κ) (v : β) : aget (aset m x v) y = if y = x then some v else aget m y := by
  induction m with
  | nil => simp [aset, aget]
  | cons p r ih =>
    obtain ⟨k, u⟩ := p
    by_cases h : x = k
    · subst h
      by_cases h2 : y = x
      · simp [aset, aget, h2]
      · simp [aset, aget, h2]
    · by_cases h2 : y = k
      · subst h2
        have : ¬ y = x := fun e => h e.symm
        simp [aset, aget, h, this]
      · simp [aset, aget, h, h2, ih]
/-- The place of a key. -/
def aidx : List (κ × β) → κ → Option (Nat × β)
  | [], _ => none
  | (k, v) :: r, x => if x = k then some (0, v) else (aidx r x).map fun p => (p.1 + 1, p.2)
theorem aidx_get (m : List (κ × β)) (x : κ) : (aidx m x).map (·.2) = aget m x := by
  induction m with
  | nil => rfl
  | cons p r ih =>
    obtain ⟨k, u⟩ := p
    by_cases h : x = k
    · simp [aidx, aget, h]
    · simp [aidx, aget, h, ← ih, Function.comp_def]
end plain

/-- How keys are laid: what the program's own equality says of them. -/
structure KeyTy (P : Program) (K : TypeId) {κ : Type} [DecidableEq κ] (ek : κ → Value) : Prop where
  same : ∀ a b w, (Op.equal K (ek a) (ek b)).run P w = .ok (decide (a = b)) w
  now : ∀ d, P.underlying K = some d → (∀ a b, Instr.sameNow d (ek a) (ek b) = none) ∨ ∀ a b, Instr.sameNow d (ek a) (ek b) = some (decide (a = b))
  und : ∃ d, P.underlying K = some d
  check : ∀ e a w, (Instr.checkKey e 10000 K (ek a)).run P w = .ok () w
  bits : ∀ a, Instr.sameBits 10000 (ek a) (ek a) = true
def pairs {κ β : Type} (ek : κ → Value) (evl : β → Value) (m : List (κ × β)) : List (Value × Value) := m.map fun p => (ek p.1, evl p.2)
def entries (es : List MapEntry) : List (Value × Value) := es.map fun e => (e.key, e.val)
theorem findNow_none {κ β : Type} {ek : κ → Value} {evl : β → Value} {d : TypeDesc} (x : κ) (hn : ∀ a b, Instr.sameNow d (ek a) (ek b) = none) : ∀ (es : List MapEntry) (m : List (κ × β)) (i : Nat), entries es = pairs ek evl m → es ≠ [] → Instr.findNow d (ek x) es i = none
  | [], _, _, _, h => (h rfl).elim
  | e :: es, [], i, h, _ => by simp [entries, pairs] at h
  | e :: es, (k, v) :: m, i, h, _ => by
    simp only [entries, pairs, List.map_cons, List.cons.injEq, Prod.mk.injEq] at h
    unfold Instr.findNow
    rw [h.1.1, hn x k]
/-- A map of one's own. -/
def mapc {κ β : Type} (ek : κ → Value) (evl : β → Value) (b : Nat) (m : List (κ × β)) : Chunk where
  owns := [b]
  reads := []
  holds w := ∃ es clock, w.heap[b]? = some (.map es clock) ∧ entries es.toList = pairs ek evl m
  loc w w' h hw := by rw [h b (.inl (by simp))]; exact hw
  lt w hw g hg := by
    obtain ⟨es, clock, h, _⟩ := hw
    simp only [List.mem_singleton, List.not_mem_nil, or_false] at hg
    subst hg
    exact lt_of_block h
section
variable {P : Program} {K : TypeId} {κ β : Type} [DecidableEq κ] {ek : κ → Value} {evl : β → Value}
theorem run_findAsking (hK : KeyTy P K ek) (x : κ) (w : World) : ∀ (es : List MapEntry) (m : List (κ × β)) (i : Nat), entries es = pairs ek evl m → (Instr.findAsking K (ek x) es i).run P w = .ok ((aidx m x).map fun p => (p.1 + i, evl p.2)) w
  | [], [], i, _ => by simp [Instr.findAsking, aidx]
  | [], _ :: _, i, h => by simp [entries, pairs] at h
  | _ :: _, [], i, h => by simp [entries, pairs] at h
  | e :: es, (k, v) :: m, i, h => by
    simp only [entries, pairs, List.map_cons, List.cons.injEq, Prod.mk.injEq] at h
    obtain ⟨⟨h1, h2⟩, h3⟩ := h
    have ih := run_findAsking hK x w es m (i + 1) h3
    unfold Instr.findAsking
    rw [Sem.run_bind, h1, hK.same x k w]
    by_cases hx : x = k
    · simp [aidx, hx, h2]
    · simp only [Result.andThen_ok, decide_eq_false hx, Bool.false_eq_true, if_false, ih, aidx, if_neg hx, Option.map_map]
      congr 2
      funext p
      simp only [Function.comp_def]
      congr 1; omega
theorem findNow_some {d : TypeDesc} (x : κ) (hn : ∀ a b, Instr.sameNow d (ek a) (ek b) = some (decide (a = b))) : ∀ (es : List MapEntry) (m : List (κ × β)) (i : Nat), entries es = pairs ek evl m → Instr.findNow d (ek x) es i = some ((aidx m x).map fun p => (p.1 + i, evl p.2))
  | [], [], _, _ => by simp [Instr.findNow, aidx]
  | [], _ :: _, _, h => by simp [entries, pairs] at h
  | _ :: _, [], _, h => by simp [entries, pairs] at h
  | e :: es, (k, v) :: m, i, h => by
    simp only [entries, pairs, List.map_cons, List.cons.injEq, Prod.mk.injEq] at h
    obtain ⟨⟨h1, h2⟩, h3⟩ := h
    have ih := findNow_some x hn es m (i + 1) h3
    unfold Instr.findNow
    rw [h1, hn x k]
    by_cases hx : x = k
    · simp [aidx, hx, h2]
    · simp only [decide_eq_false hx, ih, aidx, if_neg hx, Option.map_map]
      congr 2
      funext p
      simp only [Function.comp_def]
      congr 1; omega
theorem run_findKey (hK : KeyTy P K ek) (x : κ) (w : World) (es : List MapEntry) (m : List (κ × β)) (h : entries es = pairs ek evl m) : (Instr.findKey K (ek x) es).run P w = .ok ((aidx m x).map fun p => (p.1, evl p.2)) w := by
  obtain ⟨d, hd⟩ := hK.und
  unfold Instr.findKey
  rw [Sem.run_bind, run_underlying hd]
  simp only [Result.andThen_ok]
  rcases hK.now d hd with hn | hn
  · cases es with
    | nil =>
      cases m with
      | nil => simp [Instr.findNow, aidx]
      | cons p m => simp [entries, pairs] at h
    | cons e es =>
      rw [findNow_none x hn (e :: es) m 0 h (by simp)]
      have := run_findAsking hK x w (e :: es) m 0 h
      simpa using this
  · rw [findNow_some x hn es m 0 h]
    simp
variable {o : Oper} {ρ : Slots} {Γ : List Chunk} {x y z : Operand} {t E : TypeId} {b i : Nat} {m : List (κ × β)} {k : κ}
theorem Mk.makeMapOwn {κ β : Type} (ek : κ → Value) (evl : β → Value) (ho : o.op = .makeMap t none) : Mk P o ρ Γ (fun v N => ∃ r, v = .map (some r) ∧ N = [mapc ek evl r []]) := fun a w _ _ => by
  refine ⟨_, _, w.alloc (.map #[] 0), ?_, ⟨w.heap.size, rfl, rfl⟩, Post.new ⟨#[], 0, heap_alloc_new _ _, rfl⟩ rfl rfl⟩
  unfold execOp
  simp [ho, Instr.makeMap]
theorem run_lookup_map (hK : KeyTy P K ek) (ht : P.underlying t = some (.map K E)) (zv : β) (hz : ∀ w, (zeroValue E).run P w = .ok (evl zv) w) (ok : Bool) {w : World} (hm : (mapc ek evl b m).holds w) : (Instr.lookup t (.map (some b)) (ek k) ok).run P w = .ok (if ok then .tuple #[evl ((aget m k).getD zv), .bool (aget m k).isSome] else evl ((aget m k).getD zv)) w := by
  obtain ⟨es, clock, h1, h2⟩ := hm
  have hf := run_findKey (evl := evl) hK k w es.toList m h2
  rw [← aidx_get]
  cases hi : aidx m k with
  | none => cases ok <;> simp [Instr.lookup, run_underlying ht, getObj, Sem.run, h1, hK.check, hf, hi, hz]
  | some p => cases ok <;> simp [Instr.lookup, run_underlying ht, getObj, Sem.run, h1, hK.check, hf, hi]
theorem Rd.lookup (hK : KeyTy P K ek) (zv : β) (ho : o.op = .lookup t x y false) (ht : P.underlying t = some (.map K E)) (hz : ∀ w, (zeroValue E).run P w = .ok (evl zv) w) (hx : ev ρ x = some (.map (some b))) (hy : ev ρ y = some (ek k)) (hi : Γ[i]? = some (mapc ek evl b m)) : Rd P o ρ Γ (evl ((aget m k).getD zv)) := fun a w ha hs => by
  have := run_lookup_map (k := k) hK ht zv hz false (hs _ (List.mem_of_getElem? hi))
  unfold execOp
  simp [ho, ha.eval hx, ha.eval hy, this]
theorem Rd.lookupOk (hK : KeyTy P K ek) (zv : β) (ho : o.op = .lookup t x y true) (ht : P.underlying t = some (.map K E)) (hz : ∀ w, (zeroValue E).run P w = .ok (evl zv) w) (hx : ev ρ x = some (.map (some b))) (hy : ev ρ y = some (ek k)) (hi : Γ[i]? = some (mapc ek evl b m)) : Rd P o ρ Γ (.tuple #[evl ((aget m k).getD zv), .bool (aget m k).isSome]) := fun a w ha hs => by
  have := run_lookup_map (k := k) hK ht zv hz true (hs _ (List.mem_of_getElem? hi))
  unfold execOp
  simp [ho, ha.eval hx, ha.eval hy, this]
theorem aset_entries (x : κ) (v : β) : ∀ (es : List MapEntry) (m : List (κ × β)), entries es = pairs ek evl m → (∀ c, aidx m x = none → entries (es ++ [{ key := ek x, val := evl v, born := c }]) = pairs ek evl (aset m x v)) ∧ ∀ j u, aidx m x = some (j, u) → entries (es.modify j fun e => { e with key := ek x, val := evl v }) = pairs ek evl (aset m x v)
  | [], [], _ => ⟨fun _ _ => rfl, fun _ _ h => by simp [aidx] at h⟩
  | [], _ :: _, h => by simp [entries, pairs] at h
  | _ :: _, [], h => by simp [entries, pairs] at h
  | e :: es, (k, u) :: m, h => by
    simp only [entries, pairs, List.map_cons, List.cons.injEq, Prod.mk.injEq] at h
    obtain ⟨⟨h1, h2⟩, h3⟩ := h
    obtain ⟨ih1, ih2⟩ := aset_entries x v es m h3
    by_cases hx : x = k
    · refine ⟨fun c hn => by simp [aidx, hx] at hn, fun j u' hj => ?_⟩
      simp only [aidx, if_pos hx, Option.some.injEq, Prod.mk.injEq] at hj
      obtain ⟨rfl, _⟩ := hj
      simp only [aset, if_pos hx, List.modify_zero_cons, entries, pairs, List.map_cons]
      exact congrArg _ h3
    · refine ⟨fun c hn => ?_, fun j u' hj => ?_⟩
      · simp only [aidx, if_neg hx, Option.map_eq_none_iff] at hn
        have := ih1 c hn
        simp only [entries, pairs, aset, if_neg hx, List.cons_append, List.map_cons, h1, h2] at this ⊢
        rw [this]
      · simp only [aidx, if_neg hx] at hj
        obtain ⟨⟨j', u''⟩, hj', he⟩ := Option.map_eq_some_iff.1 hj
        simp only [Prod.mk.injEq] at he
        obtain ⟨rfl, rfl⟩ := he
        have := ih2 j' u'' hj'
        simp only [entries, pairs, aset, if_neg hx, List.modify_succ_cons, List.map_cons, h1, h2] at this ⊢
        rw [this]
theorem aidx_key (x : κ) : ∀ (es : List MapEntry) (m : List (κ × β)) (j : Nat) (u : β), entries es = pairs ek evl m → aidx m x = some (j, u) → (es[j]?).map (·.key) = some (ek x)
  | [], [], _, _, _, h => by simp [aidx] at h
  | [], _ :: _, _, _, h, _ => by simp [entries, pairs] at h
  | _ :: _, [], _, _, h, _ => by simp [entries, pairs] at h
  | e :: es, (k, v) :: m, j, u, h, hj => by
    simp only [entries, pairs, List.map_cons, List.cons.injEq, Prod.mk.injEq] at h
    obtain ⟨⟨h1, h2⟩, h3⟩ := h
    by_cases hx : x = k
    · simp only [aidx, if_pos hx, Option.some.injEq, Prod.mk.injEq] at hj
      obtain ⟨rfl, _⟩ := hj
      simp [h1, hx]
    · simp only [aidx, if_neg hx] at hj
      obtain ⟨⟨j', u''⟩, hj', he⟩ := Option.map_eq_some_iff.1 hj
      simp only [Prod.mk.injEq] at he
      obtain ⟨rfl, rfl⟩ := he
      simpa using aidx_key x es m j' u'' h3 hj'
theorem Up.mapUpdate (hK : KeyTy P K ek) {v : β} (ho : o.op = .mapUpdate t x y z) (ht : P.underlying t = some (.map K E)) (hx : ev ρ x = some (.map (some b))) (hy : ev ρ y = some (ek k)) (hz : ev ρ z = some (evl v)) (hi : Γ[i]? = some (mapc ek evl b m)) : Up P o ρ Γ (Γ.set i (mapc ek evl b (aset m k v))) := fun a w ha hs => by
  obtain ⟨es, clock, h1, h2⟩ := hs.each _ (List.mem_of_getElem? hi)
  have hf := run_findKey (evl := evl) hK k w es.toList m h2
  obtain ⟨g1, g2⟩ := aset_entries (ek := ek) (evl := evl) k v es.toList m h2
  have hlt := lt_of_block h1
  have key : ∃ es' clock', (Instr.mapUpdate t (.map (some b)) (ek k) (evl v)).run P w = .ok () { w with heap := w.heap.setIfInBounds b (.map es' clock') } ∧ entries es'.toList = pairs ek evl (aset m k v) := by
    cases hj : aidx m k with
    | none =>
      refine ⟨es.push { key := ek k, val := evl v, born := clock }, clock + 1, ?_, by rw [Array.toList_push]; exact g1 clock hj⟩
      simp [Instr.mapUpdate, run_underlying ht, getObj, setObj, Sem.run, h1, hK.check, hf, hj]
    | some p =>
      obtain ⟨j, u⟩ := p
      have hk := aidx_key (ek := ek) (evl := evl) k es.toList m j u h2 hj
      have hk' : ((es[j]?).map (·.key)).getD (ek k) = ek k := by
        rw [Array.getElem?_toList] at hk; rw [hk]; rfl
      refine ⟨es.modify j fun e => { e with key := ek k, val := evl v }, clock, ?_, by rw [Array.toList_modify]; exact g2 j u hj⟩
      simp [Instr.mapUpdate, run_underlying ht, getObj, setObj, Sem.run, h1, hK.check, hf, hj, hk', Instr.keyThatStays, hK.bits]
  obtain ⟨es', clock', hrun, h3⟩ := key
  have hpost : Post [mapc ek evl b m] [mapc ek evl b (aset m k v)] w { w with heap := w.heap.setIfInBounds b (.map es' clock') } := by
    refine ⟨⟨fun c hc => ?_, by simp [owns, mapc], by simp [reads, mapc]⟩, ?_, ?_, by simp [reads, mapc]⟩
    · rw [List.mem_singleton.1 hc]
      exact ⟨es', clock', by simp [hlt], h3⟩
    · refine ⟨rfl, rfl, rfl, by simp, fun g _ hg => ?_, Nat.le_refl _⟩
      have : b ≠ g := fun e => hg (by simp [owns, mapc, e])
      simp [this]
    · intro g hg _
      simpa [owns, mapc] using hg
  refine ⟨_, ?_, Post.set hi hs hpost⟩
  unfold execOp
  simp only [ho, ha.eval hx, ha.eval hy, ha.eval hz, Sem.run_bind, hrun, Result.andThen_ok, Sem.run_pure]
end
end Go.Sep
namespace Go.Sep
open Go.RowKit Go.Flow Go.Mem
variable {P : Program} {o : Oper} {ρ : Slots} {Γ : List Chunk} {x y : Operand}

theorem KeyTy.int {K : TypeId} {k : IntKind} (h : P.underlying K = some (.int k)) : KeyTy P K (fun n : Int => .int k n) where
  same a b w := by
    show (Op.equalIn (9999 + 1) K (.int k a) (.int k b)).run P w = _
    rw [run_equalIn_int w 9999 K k k a b h]; rfl
  now d hd := by
    rw [h] at hd
    obtain rfl := Option.some.inj hd
    exact .inr fun a b => by simp only [Instr.sameNow, if_true]; rfl
  und := ⟨_, h⟩
  check e a w := by
    show (Instr.checkKey e (9999 + 1) K (.int k a)).run P w = _
    unfold Instr.checkKey
    simp [run_underlying h]
  bits a := by show Instr.sameBits 10000 (.int k a) (.int k a) = true; simp [Instr.sameBits]
/-- A struct of three whole numbers. -/
def mk3 (m : Int × Int × Int) : Value := .agg #[.int .i64 m.1, .int .i64 m.2.1, .int .i64 m.2.2]
theorem run_part3 {e : TypeId} (he : P.underlying e = some (.int .i64)) {xs : Array Value} {off : Nat} {v : Value} (hx : xs[off]? = some v) (w : World) : (part e xs off).run P w = .ok v w := by
  simp [part, isAgg, run_underlying he, hx]
structure Three (P : Program) (K : TypeId) : Prop where
  fields : ∃ e f g h, P.underlying K = some (.struct #[f, g, h]) ∧ P.underlying e = some (.int .i64) ∧ (f.name ≠ "_" ∧ f.type = e ∧ f.offset = 0) ∧ (g.name ≠ "_" ∧ g.type = e ∧ g.offset = 1) ∧ (h.name ≠ "_" ∧ h.type = e ∧ h.offset = 2)
  held : P.stoodInHeld K = false
  guard : P.eqGuardType P.depth K = false
theorem Three.eq {K : TypeId} (T : Three P K) (d : Nat) (a b : Int × Int × Int) (w : World) : (Op.equalIn (d + 2) K (mk3 a) (mk3 b)).run P w = .ok (decide (a = b)) w := by
  obtain ⟨e, f, g, h, hu, he, ⟨f1, f2, f3⟩, ⟨g1, g2, g3⟩, ⟨h1, h2, h3⟩⟩ := T.fields
  obtain ⟨a1, a2, a3⟩ := a
  obtain ⟨b1, b2, b3⟩ := b
  have hf : P.fieldsOf K = #[f, g, h] := by simp [Program.fieldsOf, hu]
  unfold mk3
  rw [run_equalIn_struct w (d + 1) K _ _ (by rw [hf]; exact hu) T.held, hf]
  simp only [Op.eqFields, f1, g1, h1, f2, g2, h2, f3, g3, h3, ne_eq, not_false_eq_true, if_true, Sem.run_bind]
  simp only [run_part3 he (xs := #[Value.int .i64 a1, .int .i64 a2, .int .i64 a3]) (off := 0) (v := .int .i64 a1) rfl, run_part3 he (xs := #[Value.int .i64 a1, .int .i64 a2, .int .i64 a3]) (off := 1) (v := .int .i64 a2) rfl, run_part3 he (xs := #[Value.int .i64 a1, .int .i64 a2, .int .i64 a3]) (off := 2) (v := .int .i64 a3) rfl,
    run_part3 he (xs := #[Value.int .i64 b1, .int .i64 b2, .int .i64 b3]) (off := 0) (v := .int .i64 b1) rfl, run_part3 he (xs := #[Value.int .i64 b1, .int .i64 b2, .int .i64 b3]) (off := 1) (v := .int .i64 b2) rfl, run_part3 he (xs := #[Value.int .i64 b1, .int .i64 b2, .int .i64 b3]) (off := 2) (v := .int .i64 b3) rfl,
    Result.andThen_ok, run_equalIn_int _ d e .i64 .i64 _ _ he, Sem.run_ite, Sem.run_bind, Sem.run_pure]
  by_cases e1 : a1 = b1 <;> by_cases e2 : a2 = b2 <;> by_cases e3 : a3 = b3 <;> simp [e1, e2, e3]
theorem KeyTy.three {K : TypeId} (T : Three P K) : KeyTy P K mk3 where
  same a b w := T.eq 9998 a b w
  now d hd := by
    obtain ⟨e, f, g, h, hu, _⟩ := T.fields
    rw [hu] at hd
    obtain rfl := Option.some.inj hd
    exact .inl fun a b => rfl
  und := by
    obtain ⟨e, f, g, h, hu, _⟩ := T.fields
    exact ⟨_, hu⟩
  check em a w := by
    obtain ⟨e, f, g, h, hu, he, ⟨f1, f2, f3⟩, ⟨g1, g2, g3⟩, ⟨h1, h2, h3⟩⟩ := T.fields
    have key : ∀ n : Int, (Instr.checkKey em (9998 + 1) e (.int .i64 n)).run P w = .ok () w := fun n => by
      unfold Instr.checkKey
      simp [run_underlying he]
    show (Instr.checkKey em (9999 + 1) K (mk3 a)).run P w = _
    unfold mk3 Instr.checkKey
    simp only [Sem.run_bind, run_underlying hu, Result.andThen_ok]
    rw [← Array.forIn_toList]
    simp [f1, g1, h1, f2, g2, h2, f3, g3, h3, run_part3 he (xs := #[Value.int .i64 a.1, .int .i64 a.2.1, .int .i64 a.2.2]) (off := 0) (v := .int .i64 a.1) rfl, run_part3 he (xs := #[Value.int .i64 a.1, .int .i64 a.2.1, .int .i64 a.2.2]) (off := 1) (v := .int .i64 a.2.1) rfl, run_part3 he (xs := #[Value.int .i64 a.1, .int .i64 a.2.1, .int .i64 a.2.2]) (off := 2) (v := .int .i64 a.2.2) rfl, key]
  bits a := by unfold mk3; simp [Instr.sameBits]
theorem Rd.neq3 {K t' : TypeId} {a b : Int × Int × Int} (T : Three P K) (ho : o.op = .binOp .neq K x y t') (hx : ev ρ x = some (mk3 a)) (hy : ev ρ y = some (mk3 b)) : Rd P o ρ Γ (.bool (decide (a ≠ b))) := Rd.bin ho hx hy fun w => by
  have h1 : (eqGuard .neq K x y (mk3 a) (mk3 b)).run P w = .ok () w := run_eqGuard_agg w .neq K x y _ _ T.guard
  have h2 : (binOp .neq K (mk3 a) (mk3 b)).run P w = .ok (.bool (decide (a ≠ b))) w := by
    have := run_neq_struct (P := P) w K #[.int .i64 a.1, .int .i64 a.2.1, .int .i64 a.2.2] #[.int .i64 b.1, .int .i64 b.2.1, .int .i64 b.2.2]
    show (binOp .neq K (.agg #[.int .i64 a.1, .int .i64 a.2.1, .int .i64 a.2.2]) (.agg #[.int .i64 b.1, .int .i64 b.2.1, .int .i64 b.2.2])).run P w = _
    rw [this]
    have h3 := T.eq 9998 a b w
    unfold mk3 at h3
    rw [h3]
    simp [Result.andThen]
  simp [h1, h2]
abbrev ekI : Int → Value := fun n => .int .i64 n
abbrev ekB : Bool → Value := fun b => .bool b
theorem zero_run {E : TypeId} {v : Value} (h : (P.info? E).bind (fun i => i.zero) = some v) : ∀ w, (zeroValue E).run P w = .ok v w := fun w => by
  cases hi : P.info? E with
  | none => rw [hi] at h; cases h
  | some i =>
    rw [hi] at h
    have hz : i.zero = some v := h
    simp [zeroValue, typeInfo, hi, hz]
theorem Rd.as {v v' : Value} (e : v = v') (h : Rd P o ρ Γ v) : Rd P o ρ Γ v' := e ▸ h
end Go.Sep
