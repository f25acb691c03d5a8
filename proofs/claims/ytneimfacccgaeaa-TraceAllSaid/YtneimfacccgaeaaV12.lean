/- slices.SortFunc at events, in the words of the logic. Own text. -/
import Derived.Test.YtneimfacccgaeaaV11
import Derived.Test.YtneimfacccgaeaaSo0
import Derived.Test.YtneimfacccgaeaaL4
namespace Go.Proofs.Ytneimfacccgaeaa
open Go.RowKit Go.Flow Go.Mem Go.Sep Go.Sort

/-- An event whose arguments are held. -/
abbrev HE (M : List (Option Addr × List Int)) : Type := { e : Ev // e.ar ∈ M ∧ e.args.length ≤ 1000000000000 }
theorem swo_cmp (M : List (Option Addr × List Int)) : SWO (ltOf fun x y : HE M => x.1.cmp y.1) where
  irrefl x := by
    unfold ltOf
    simp [cmp_val, cmpL_self]
  trans x y z h1 h2 := by
    unfold ltOf at *
    simp only [decide_eq_true_eq, cmp_val] at *
    exact cmpL_trans _ _ _ h1 h2
  ntrans x y z h1 h2 := by
    unfold ltOf at *
    simp only [decide_eq_false_iff_not, cmp_val] at *
    have := leV_trans (a := z.1.val) (b := y.1.val) (c := x.1.val) h2 h1
    exact this
theorem flat_enc {α : Type} [Inhabited α] (enc : α → List Value) (k : Nat) (hk : ∀ x, (enc x).length = k) (d : Array α) : (flatK enc k d).toList = d.toList.flatMap enc := by
  have key : ∀ (l : List α) (t : Nat), t < l.length * k → (l.flatMap enc)[t]? = some (enc (l[t / k]!))[t % k]! := by
    intro l
    induction l with
    | nil => intro t h; simp at h
    | cons x l ih =>
      intro t h
      have k0 : 0 < k := by
        rcases Nat.eq_zero_or_pos k with h0 | h0
        · subst h0; simp at h
        · exact h0
      rw [List.flatMap_cons]
      by_cases h1 : t < k
      · rw [List.getElem?_append_left (by rw [hk]; exact h1), Nat.div_eq_of_lt h1, Nat.mod_eq_of_lt h1]
        have : t < (enc x).length := by rw [hk]; exact h1
        simp [this]
      · obtain ⟨u, rfl⟩ : ∃ u, t = u + k := ⟨t - k, by omega⟩
        rw [List.getElem?_append_right (by rw [hk]; omega), hk, Nat.add_sub_cancel, ih u (by simp [Nat.add_mul] at h; omega), Nat.add_div_right _ k0, Nat.add_mod_right]
        simp
  apply List.ext_getElem?
  intro t
  by_cases h : t < d.size * k
  · rw [key d.toList t (by simpa using h)]
    have h1 := get_flatK enc k d t h
    have h2 : t < (flatK enc k d).size := by simpa using h
    rw [Array.getElem?_toList, Array.getElem?_eq_getElem h2]
    rw [getElem!_pos _ t h2] at h1
    rw [h1]
    simp only [Array.getElem!_eq_getD, Array.getD_eq_getD_getElem?, List.getElem!_eq_getElem?_getD, Array.getElem?_toList]
  · rw [List.getElem?_eq_none (by simp; omega), List.getElem?_eq_none]
    have : ∀ l : List α, (l.flatMap enc).length = l.length * k := by
      intro l
      induction l with
      | nil => simp
      | cons x l ih => rw [List.flatMap_cons, List.length_append, hk, ih, List.length_cons, Nat.add_mul]; omega
    rw [this]; simp; omega
theorem keeps_sort {α : Type} [Inhabited α] (enc : α → List Value) (k : Nat) (w : World) (g m : Nat) (dk : Array α) (os : Array Obj) : Keeps (fun i => i = g) w (sortWorldK enc k w g 0 m dk os) := by
  refine ⟨rfl, rfl, rfl, ?_, fun i hi hn => ?_, ?_⟩
  · unfold sortWorldK; rw [size_grow, size_putRowK]; exact Nat.le_add_right _ _
  · unfold sortWorldK grow putRowK putRow mapBlock Sort.ahead
    rw [Array.getElem?_append_left (by simpa using hi), Array.getElem?_modify, if_neg (fun e => hn e.symm)]
  · exact Nat.le_add_right _ _
theorem over_all (xs cs : List Value) (h : cs.length = xs.length) : over xs 0 cs = cs := by
  unfold over; simp [h]
/-- What the row holds behind the sort. -/
theorem own_sort {α : Type} [Inhabited α] (enc : α → List Value) (k : Nat) (hk : ∀ x, (enc x).length = k) (w : World) (g cap m : Nat) (e : TypeId) (d d' : Array α) (os : Array Obj) (h : w.ownsRow 0 e k (.slice (some ⟨g, 0, none⟩) d.size cap) d.size (d.toList.flatMap enc)) (hs : d'.size = d.size) :
    HoldsK enc k w g 0 d ∧ (sortWorldK enc k w g 0 m d' os).ownsRow 0 e k (.slice (some ⟨g, 0, none⟩) d.size cap) d.size (d'.toList.flatMap enc) := by
  have hl : (d.toList.flatMap enc).length = d.size * k := h.1
  have hH : HoldsK enc k w g 0 d := fun j hj => by
    have hj' : j < d.size * k := by simpa using hj
    refine ⟨?_, h.frozenAt _⟩
    have h1 := own_range h j ((flatK enc k d)[j]!) (by rw [← flat_enc enc k hk d, Array.getElem?_toList, Array.getElem?_eq_getElem hj, getElem!_pos _ j hj])
    simpa using h1
  refine ⟨hH, ?_⟩
  have hH2 : Holds id (Sort.ahead w m) g 0 (flatK enc k d) := hH
  have e1 : putRowK enc k (Sort.ahead w m) g 0 d' = (Sort.ahead w m).setCells g 0 (d'.toList.flatMap enc) := by
    unfold putRowK
    conv => rhs; rw [← putRow_self id (Sort.ahead w m) g 0 (flatK enc k d) hH2]
    have h2 := setCells_putRow (Sort.ahead w m) g 0 (d'.toList.flatMap enc) 0 (flatK enc k d) (by rw [← flat_enc enc k hk d']; simp [hs])
    rw [Nat.add_zero] at h2
    rw [h2]
    congr 1
    refine ext_get! (by simp [hs]) fun t ht => ?_
    have ht' : t < (flatK enc k d').size := ht
    rw [get_setMany _ _ _ t (by simpa [hs] using ht), if_pos ⟨Nat.zero_le _, by rw [← flat_enc enc k hk d', Nat.zero_add, Array.length_toList]; exact ht'⟩, Nat.sub_zero, ← flat_enc enc k hk d']
    simp only [Array.getElem!_eq_getD, Array.getD_eq_getD_getElem?, List.getElem!_eq_getElem?_getD, Array.getElem?_toList]
  have h3 : (Sort.ahead w m).ownsRow 0 e k (.slice (some ⟨g, 0, none⟩) d.size cap) d.size (d.toList.flatMap enc) := h
  have hfl : (d'.toList.flatMap enc).length = d.size * k := by rw [← flat_enc enc k hk d']; simp [hs]
  have h4 := own_setCells (d'.toList.flatMap enc) 0 (Sort.ahead w m) _ h3 (by rw [hfl]; omega)
  rw [over_all _ _ (by rw [hfl, hl])] at h4
  unfold sortWorldK
  rw [e1]
  exact own_ext h4 ⟨⟨rfl, rfl, rfl, by rw [size_grow]; exact Nat.le_add_right _ _, fun i hi => by unfold grow; rw [Array.getElem?_append_left hi]⟩, Nat.le_refl _⟩
theorem isAgg37 : ∀ w, (isAgg 37).run Try.prog w = .ok true w := Try.isAgg37
theorem sizeOf37 : ∀ w, (Go.sizeOf 37).run Try.prog w = .ok 9 w := Try.sizeOf37
theorem pw_get {α : Type} [Inhabited α] {R : α → α → Prop} : ∀ {l : List α}, (∀ i j, i < j → j < l.length → R l[i]! l[j]!) → l.Pairwise R
  | [], _ => List.Pairwise.nil
  | x :: l, h => by
    refine List.pairwise_cons.2 ⟨fun y hy => ?_, pw_get fun i j h1 h2 => ?_⟩
    · obtain ⟨j, hj, rfl⟩ := List.getElem_of_mem hy
      have := h 0 (j + 1) (by omega) (by simpa using hj)
      simpa [hj] using this
    · have := h (i + 1) (j + 1) (by omega) (by simpa using h2)
      simpa using this
theorem sort_fn : SortFn := fun A cap l M hM hA hl w hs => by
  cases l with
  | nil =>
    refine (AnyF.slices_SortFunc_none sortL A cap (.func (.func 36) #[] #[]) w).mono fun e w' h => ?_
    obtain ⟨rfl, rfl⟩ := h
    exact ⟨_, _, rfl, ⟨[], rfl, rfl, List.Perm.refl _, List.Pairwise.nil⟩, Post.refl hs⟩
  | cons x0 l0 =>
    have hrow : w.ownsRow 0 37 9 (.slice A (x0 :: l0).length cap) (x0 :: l0).length ((x0 :: l0).flatMap Ev.cells) := hs.each _ (List.mem_cons_self ..)
    obtain ⟨g, rfl⟩ : ∃ g, A = some ⟨g, 0, none⟩ := by
      rcases hrow.2 with h0 | ⟨g, cap', cur, hv, _⟩
      · exact absurd h0.2 (by simp)
      · simp only [Value.slice.injEq] at hv; exact ⟨g, hv.1⟩
    have hin : ∀ e ∈ x0 :: l0, e.ar ∈ M ∧ e.args.length ≤ 1000000000000 := fun e he => ⟨hM e he, hA e he⟩
    generalize hL : x0 :: l0 = L at *
    haveI : Inhabited (HE M) := ⟨⟨x0, hin x0 (by rw [← hL]; exact List.mem_cons_self ..)⟩⟩
    let d : Array (HE M) := (L.attach.map fun e => (⟨e.1, hin e.1 e.2⟩ : HE M)).toArray
    let enc : HE M → List Value := fun e => e.1.cells
    have hdl : d.toList.map (·.1) = L := by simp [d]
    have hds : d.size = L.length := by rw [← hdl]; simp
    have hfl : ∀ d : Array (HE M), d.toList.flatMap enc = (d.toList.map (·.1)).flatMap Ev.cells := fun d => by rw [List.flatMap_map]
    have hrow2 : w.ownsRow 0 37 9 (.slice (some ⟨g, 0, none⟩) d.size cap) d.size (d.toList.flatMap enc) := by rw [hds, hfl, hdl]; exact hrow
    have hH : HoldsK enc 9 w g 0 d := (own_sort enc 9 (fun _ => rfl) w g cap 0 37 d d #[] hrow2 rfl).1
    have hargs : (argsS M).holds w := hs.each _ (List.mem_cons_of_mem _ (List.mem_cons_self ..))
    have hgo : g ∈ owns [rows Ev.cells 37 9 (some ⟨g, 0, none⟩) cap L, argsS M] := by simp [owns, rows, row, blks]
    have hlt := own_lt hrow
    have hkeep : ∀ w' : World, Keeps (fun i => i = g) w w' → (argsS M).holds w' := fun w' hk =>
      (argsS M).loc w w' (fun b hb => by
        rcases hb with hb | hb
        · exact absurd hb (List.not_mem_nil)
        · refine hk.block b ((argsS M).lt w hargs b (.inr hb)) fun e => ?_
          subst e
          exact hs.apart b (mem_reads.2 ⟨_, List.mem_cons_of_mem _ (List.mem_cons_self ..), hb⟩) hgo) hargs
    have hcmp : CmpLays Try.prog 36 #[] enc 9 (fun x y => x.1.cmp y.1) g 0 d.size w := fun m os dk _ x y => by
      have hh := hkeep _ (keeps_sort enc 9 w g m dk os)
      have hc := Does.grown (w := sortWorldK enc 9 w g 0 m dk os) (compare_fn x.1 y.1 x.2.2) rfl (oks_two (hh _ x.2.1) (hh _ y.2.1))
      refine hc.mono fun e w' ⟨v, Γ', h1, h2, q, os', h3⟩ => ?_
      subst h2
      exact ⟨h1, q, os', h3⟩
    have hcall := AnyQ.slices_SortFunc sortL 9 isAgg37 sizeOf37 enc (fun _ => rfl) (fun x => encE.one x.1) (fun x y => x.1.cmp y.1) (swo_cmp M) 36 #[] g 0 cap d w (fun args w => run_callFunc ca36 args w) hcmp hH hlt (by omega)
    rw [hds] at hcall
    refine hcall.mono fun e w' h => ?_
    obtain ⟨rfl, d', n, os, hp, hso, rfl⟩ := h
    have hsz : d'.size = d.size := by rw [hp.1]
    have hperm : (d'.toList.map (·.1)).Perm L := by
      have h1 := hp.2.2
      have h2 : d'.extract 0 L.length = d' := by rw [← hds, ← hsz]; simp
      have h3 : d.extract 0 L.length = d := by rw [← hds]; simp
      rw [h2, h3] at h1
      rw [← hdl]
      exact h1.map _
    have hlen : (d'.toList.map (·.1)).length = L.length := hperm.length_eq
    refine ⟨_, _, rfl, ⟨d'.toList.map (·.1), rfl, rfl, hperm, ?_⟩, ?_⟩
    · refine List.pairwise_map.2 (pw_get fun i j h1 h2 => ?_)
      have h3 := hso i j (Nat.zero_le _) h1 (by rw [← hds, ← hsz]; simpa using h2)
      unfold ltOf at h3
      have h4 := of_decide_eq_false h3
      simpa only [Array.getElem!_eq_getD, Array.getD_eq_getD_getElem?, List.getElem!_eq_getElem?_getD, Array.getElem?_toList] using h4
    · have hown := (own_sort enc 9 (fun _ => rfl) w g cap n 37 d d' os hrow2 hsz).2
      have hkp := keeps_sort enc 9 w g n d' os
      refine ⟨⟨fun c hc => ?_, hs.nodup, hs.apart⟩, hkp.mono fun i _ e => by rw [e]; exact hgo, fun b hb _ => hb, fun b hb _ => .inr hb⟩
      rcases List.mem_cons.1 hc with rfl | hc
      · show World.ownsRow _ 0 37 9 (.slice _ (d'.toList.map (·.1)).length cap) (d'.toList.map (·.1)).length ((d'.toList.map (·.1)).flatMap Ev.cells)
        rw [hlen, ← hfl, ← hds]
        exact hown
      · rw [List.mem_singleton.1 hc]; exact hkeep _ hkp
end Go.Proofs.Ytneimfacccgaeaa
