/- Arguments opened into what they read, and given back. Own text. -/
import Derived.Test.YtoehnbacbobhiaaDoorSepx
import Derived.Deep.Slices
import Derived.WalkKit
import Derived.ProofKit
import Derived.OpenShut
import Derived.ChangeOld
import Derived.Below
namespace Go.Sep
open Go.ChangeShapes Go.WideShapes Go.ChangeAt Go.RowKit Go.Flow Go.Mem Go.Deep
section
variable {H : Type} {ench : TypeId × Value → H} {P : Program} {w : World} {base : Nat} {spare : Nat → Bool} {held : Bool}
theorem flat_at {α : Type} {enc : α → List Value} {size : Nat} (hs : ∀ x, (enc x).length = size) : ∀ (l : List α) (k : Nat) (v : Value), (l.flatMap enc)[k]? = some v → ∃ i j a, k = i * size + j ∧ l[i]? = some a ∧ (enc a)[j]? = some v
  | [], k, v, h => by simp at h
  | x :: l, k, v, h => by
    rw [List.flatMap_cons] at h
    rcases Nat.lt_or_ge k size with hk | hk
    · rw [List.getElem?_append_left (by rw [hs]; exact hk)] at h
      exact ⟨0, k, x, by omega, rfl, h⟩
    · rw [List.getElem?_append_right (by rw [hs]; exact hk), hs] at h
      obtain ⟨i, j, a, h1, h2, h3⟩ := flat_at hs l (k - size) v h
      exact ⟨i + 1, j, a, by rw [Nat.add_mul]; omega, h2, h3⟩
theorem open_list {α : Type} {enc : α → List Value} {size : Nat} (hs : ∀ x, (enc x).length = size) (hpos : 0 < size) (Q : α → Prop) {t e : TypeId} {fuel : Nat} {cs : List Value} {x : DataW H × List MemPlace} (ht : P.underlying t = some (.slice e)) (hC : P.cellsOf e = size)
    (hel : ∀ n cs' x', DataW.trod ench P w base spare held n e cs' = some x' → cs'.length = size → ∃ a : α, cs' = enc a ∧ Q a) (h : DataW.trod ench P w base spare held fuel t cs = some x) :
    ∃ (A : Option Addr) (l : List α) (cap : Nat), cs = [.slice A l.length cap] ∧ Src w A (l.flatMap enc) ∧ (∀ a ∈ l, Q a) ∧ l.length ≤ cap ∧ cap ≤ maxLen := by
  rcases open_slice ht h with ⟨h0, _⟩ | ⟨a, len, cap, m, n, D, Pl, hcs, _, hl, hm, hmm, _, hi⟩
  · exact ⟨none, [], 0, h0, .inl rfl, by simp, Nat.le_refl _, Nat.zero_le _⟩
  · have hlm : len ≤ m := by rw [hmm]; split <;> omega
    have key : ∀ i, i < len → ∃ b : α, (∀ j v, (enc b)[j]? = some v → w.cell? (a.add (i * size + j)) = some v) ∧ Q b := fun i hil => by
      obtain ⟨cs', hc, ht'⟩ := hi i (by omega)
      rw [hC] at hc
      obtain ⟨_, hcl, hat⟩ := World.cells?_some hc
      obtain ⟨b, hb, hq⟩ := hel _ _ _ ht' hcl
      refine ⟨b, fun j v hv => ?_, hq⟩
      have hj : j < size := by rw [← hs b]; exact (List.getElem?_eq_some_iff.1 hv).1
      rw [← Go.Deep.add_add, hat j hj, hb, hv]
    rcases Nat.eq_zero_or_pos len with h0 | h0
    · subst h0
      exact ⟨some a, [], cap, hcs, .inl rfl, by simp, Nat.zero_le _, hm⟩
    · have key2 : ∀ i, ∃ b : α, i < len → (∀ j v, (enc b)[j]? = some v → w.cell? (a.add (i * size + j)) = some v) ∧ Q b := fun i => by
        by_cases hil : i < len
        · obtain ⟨b, hb⟩ := key i hil; exact ⟨b, fun _ => hb⟩
        · obtain ⟨b, _⟩ := key 0 h0; exact ⟨b, fun h => (hil h).elim⟩
      let f : Nat → α := fun i => Classical.choose (key2 i)
      have hf : ∀ i, i < len → (∀ j v, (enc (f i))[j]? = some v → w.cell? (a.add (i * size + j)) = some v) ∧ Q (f i) := fun i => Classical.choose_spec (key2 i)
      obtain ⟨v0, hv0⟩ : ∃ v, (enc (f 0))[0]? = some v := ⟨_, List.getElem?_eq_getElem (by rw [hs]; exact hpos)⟩
      have hc0 := (hf 0 h0).1 0 v0 hv0
      obtain ⟨b, off, spot⟩ := a
      have hspot : spot = none := by simpa [Addr.add] using World.cell?_spot hc0
      subst hspot
      refine ⟨some ⟨b, off, none⟩, (List.range len).map f, cap, by simpa using hcs, .inr ⟨b, off, rfl, fun k v hv => ?_⟩, fun x hx => ?_, by simpa using hl, hm⟩
      · obtain ⟨i, j, y, h1, h2, h3⟩ := flat_at hs _ k v hv
        rw [List.getElem?_map] at h2
        obtain ⟨i', h4, h5⟩ := Option.map_eq_some_iff.1 h2
        have h6 : i' = i ∧ i < len := by
          have := List.getElem?_eq_some_iff.1 h4
          simp at this
          exact ⟨this.2.symm, this.1⟩
        obtain ⟨rfl, h7⟩ := h6
        rw [← h5] at h3
        have := (hf i' h7).1 j v h3
        rw [Addr.add_mid] at this
        rw [h1]; exact this
      · obtain ⟨i, hi', rfl⟩ := List.mem_map.1 hx
        exact (hf i (List.mem_range.1 hi')).2
theorem open_fields {e : TypeId} {fs : Array Field} {fuel : Nat} {cs : List Value} {x : DataW H × List MemPlace} (he : P.underlying e = some (.struct fs)) (h : DataW.trod ench P w base spare held fuel e cs = some x) (i : Nat) (f : Field) (hf : fs[i]? = some f) (h1 : P.cellsOf f.type = 1) {c : Value} (hc : cs[f.offset]? = some c) :
    ∃ n y, DataW.trod ench P w base spare held n f.type [c] = some y := by
  obtain ⟨xs, n, _, _, _, hxl, hx⟩ := DataW.trod_struct he h
  have := hx i f hf
  rw [h1] at this
  have e1 : (cs.drop f.offset).take 1 = [c] := sub1 hc
  rw [e1] at this
  have hi : i < xs.length := by rw [hxl]; exact (Array.getElem?_eq_some_iff.1 hf).1
  exact ⟨n, xs[i], by rw [this, List.getElem?_eq_getElem hi]⟩
theorem below_trodAll (hl : laidOutB P = true) {W W' : World} (hb : Below W.heap.size W W') : ∀ {ts : List TypeId} {vs : List Value} {ds : List (DataW H)} {p : List MemPlace}, (∀ t ∈ ts, P.readableRec t = true ∧ t < P.types.size) → DataW.TrodAll ench P W 0 (fun _ => true) true ts vs ds p → 
    DataW.TrodAll ench P W' 0 (fun b => decide (b < W.heap.size)) true ts vs ds p
  | [], vs, ds, p, _, h => by
    cases vs with
    | nil => obtain ⟨rfl, rfl⟩ : ds = [] ∧ p = [] := by simpa using trodAll_nil h
             exact trodAll_mk0
    | cons v vs => exact absurd (trodAll_nil h).1 (by simp)
  | t :: ts, vs, ds, p, hr, h => by
    obtain ⟨v0, vs0, d0, ds0, p0, q0, rfl, rfl, rfl, h0, r0⟩ := trodAll_cons h
    obtain ⟨h1, h2⟩ := hr t (by simp)
    have lt0 : ∀ x ∈ p0, x.block < W.heap.size := by
      obtain ⟨m, hm⟩ := h0; exact DataW.trod_lt m _ _ _ hm
    exact trodAll_cons_mk (Below.trod hl h1 h2 h0 hb lt0) (below_trodAll hl hb (fun t ht => hr t (by simp [ht])) r0)
end
end Go.Sep
namespace Go.Sep
open Go.RowKit Go.Flow Go.Mem
theorem Does.law {P : Program} {f : FuncId} {args : List Value} {Γ : List Chunk} {w : World} (h : Does P f args Γ (fun v _ => v = .bool true)) (hq : owns Γ = []) (hs : oks Γ w) : Calls P f args.toArray w fun e w' => e = .returned (.bool true) ∧ Ext w w' :=
  (h w (sat_of_oks hq hs)).mono fun _ _ ⟨_, _, h1, h2, h3⟩ => ⟨by rw [h1, h2], h3.keeps.ext fun _ _ hg => by rw [hq] at hg; simp at hg⟩
theorem oks_two {c d : Chunk} {w : World} (h1 : c.holds w) (h2 : d.holds w) : oks [c, d] w := fun x hx => by
  simp only [List.mem_cons, List.not_mem_nil, or_false] at hx
  rcases hx with rfl | rfl
  · exact h1
  · exact h2
theorem oks_one {c : Chunk} {w : World} (h1 : c.holds w) : oks [c] w := fun x hx => by rw [List.mem_singleton.1 hx]; exact h1
theorem oks_more {c : Chunk} {Γ : List Chunk} {w : World} (h1 : c.holds w) (h2 : oks Γ w) : oks (c :: Γ) w := fun x hx => by
  rcases List.mem_cons.1 hx with rfl | h
  · exact h1
  · exact h2 x h
end Go.Sep
namespace Go.Sep
open Go.ChangeShapes Go.WideShapes Go.ChangeAt Go.RowKit Go.Flow Go.Mem Go.Deep
theorem open_int_array {H : Type} {ench : TypeId × Value → H} {P : Program} {w : World} {base : Nat} {spare : Nat → Bool} {held : Bool} {r : Reach} {b0 : Nat} {t e : TypeId} {n : Nat} {k : IntKind} {v : Value} {d : DataW H} {ps : List MemPlace} (ht : P.underlying t = some (.array n e)) (he : P.underlying e = some (.int k)) (h1 : P.cellsOf e = 1) (h2 : P.cellsOf t = n)
    (hval : Value.okWide P w r b0 t v) (hd : DataW.Trod ench P w base spare held t v d ps) : ∃ zs : List Int, zs.length = n ∧ v = .agg (zs.map (Value.int k)).toArray ∧ ∀ z ∈ zs, (Lit.int k z).wf = true := by
  simp only [Value.okWide, ht] at hval
  obtain ⟨cs, rfl, hsz, _⟩ := hval
  obtain ⟨fuel, hf⟩ := hd
  obtain ⟨xs, m, _, _, hl, hxl, hx⟩ := DataW.trod_array ht hf
  have key : ∀ i, i < n → ∃ z, cs.toList[i]? = some (.int k z) ∧ (Lit.int k z).wf = true := fun i hi => by
    have := hx i hi
    rw [h1, Nat.mul_one] at this
    have hlt : i < cs.toList.length := by rw [Array.length_toList, hsz, h2]; exact hi
    have e1 : (cs.toList.drop i).take 1 = [cs.toList[i]] := sub1 (List.getElem?_eq_getElem hlt)
    have e2 : ((Value.agg cs).cells.toList.drop i).take 1 = [cs.toList[i]] := e1
    rw [e2] at this
    have hxi : i < xs.length := by omega
    rw [List.getElem?_eq_getElem hxi] at this
    obtain ⟨z, hz, _, hw⟩ := DataW.trod_int he this
    simp only [List.cons.injEq, and_true] at hz
    exact ⟨z, by rw [List.getElem?_eq_getElem hlt, hz], hw⟩
  have all : ∀ l : List Value, (∀ i, i < l.length → ∃ z, l[i]? = some (.int k z) ∧ (Lit.int k z).wf = true) → ∃ zs : List Int, l = zs.map (Value.int k) ∧ ∀ z ∈ zs, (Lit.int k z).wf = true := by
    intro l
    induction l with
    | nil => exact fun _ => ⟨[], rfl, by simp⟩
    | cons u l ih =>
      intro h
      obtain ⟨zs, h3, h4⟩ := ih fun i hi => by
        have := h (i + 1) (by simpa using hi)
        simpa using this
      obtain ⟨z, h5, h6⟩ := h 0 (by simp)
      simp at h5
      exact ⟨z :: zs, by simp [h5, h3], fun y hy => (List.mem_cons.1 hy).elim (fun h' => by rw [h']; exact h6) (h4 y)⟩
  obtain ⟨zs, h3, h4⟩ := all cs.toList fun i hi => key i (by rw [Array.length_toList, hsz, h2] at hi; exact hi)
  refine ⟨zs, ?_, ?_, h4⟩
  · have := congrArg List.length h3
    simp only [Array.length_toList, List.length_map] at this
    omega
  · rw [← h3]
end Go.Sep
