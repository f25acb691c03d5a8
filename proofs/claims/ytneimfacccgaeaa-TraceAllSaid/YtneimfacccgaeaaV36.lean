/- What newSearch has laid up when it has seen the first places. Own text. -/
import Derived.Test.YtneimfacccgaeaaV35
namespace Go.Proofs.Ytneimfacccgaeaa
open Go.RowKit Go.Flow Go.Mem Go.Sep

def toO (z : Int) : Option Int := if z < 0 then none else some z
structure SI (l : List Ev) (i : Nat) (ch : List Nat) (lk : List (List Nat)) (af : List Int) (Cm : List (Int × Int)) (S R : List ((Int × Int × Int) × Int)) : Prop where
  chl : ch.length = l.length
  afl : af.length = l.length
  le : lk.length ≤ i
  lt : ∀ j c : Nat, j < i → ch[j]? = some c → c < lk.length
  ks : ∀ (c : Nat) (L : List Nat), lk[c]? = some L → L = (List.range i).filter (fun j => decide (ch[j]? = some c))
  eq : ∀ (j k : Nat) (x y : Ev), j < i → k < i → l[j]? = some x → l[k]? = some y → (ch[j]? = ch[k]? ↔ x.c = y.c)
  cm : ∀ c : Int, (∃ k : Nat, aget Cm c = some (k : Int) ∧ k < lk.length ∧ (∃ (j : Nat) (x : Ev), j < i ∧ l[j]? = some x ∧ x.c = c) ∧ ∀ (j : Nat) (x : Ev), j < i → l[j]? = some x → (x.c = c ↔ ch[j]? = some k)) ∨
    (aget Cm c = none ∧ ∀ (j : Nat) (x : Ev), j < i → l[j]? = some x → x.c ≠ c)
  se : ∀ m, aget S m = toO (lastI (ofR l 1 m) i)
  re : ∀ m, aget R m = toO (lastI (ofR l 2 m) i)
  af : ∀ j : Nat, j < i → af[j]? = some (afI l j)
theorem SI.zero (l : List Ev) : SI l 0 (List.replicate l.length 0) [] (List.replicate l.length 0) [] [] [] :=
  ⟨by simp, by simp, Nat.le_refl _, fun j c h => by omega, fun c L h => by simp at h, fun j k x y h => by omega, fun c => .inr ⟨rfl, fun j x h => by omega⟩, fun m => rfl, fun m => rfl, fun j h => by omega⟩
section
variable {l : List Ev} {i : Nat} {ch : List Nat} {lk : List (List Nat)} {af : List Int} {Cm : List (Int × Int)} {S R : List ((Int × Int × Int) × Int)} {y : Ev}
/-- What the maps say of the place behind. -/
theorem SI.after1 (I : SI l i ch lk af Cm S R) (hy : l[i]? = some y) (h : y.rl = 1) : (aget R y.key).isSome = true ∧ afI l i = (aget R y.key).getD 0 ∨ (aget R y.key).isSome = false ∧ afI l i = -1 := by
  have e : afI l i = lastI (ofR l 2 y.key) i := by unfold afI; rw [hy]; simp [h]
  rw [I.re, e]
  rcases lastI_cases (ofR l 2 y.key) i with ⟨h1, _⟩ | ⟨k, h1, _⟩
  · rw [h1]; exact .inr ⟨rfl, rfl⟩
  · rw [h1]; exact .inl (by unfold toO; rw [if_neg (by omega)]; exact ⟨rfl, rfl⟩)
theorem SI.after2 (I : SI l i ch lk af Cm S R) (hy : l[i]? = some y) (h : y.rl = 2) : (aget S y.key).isSome = true ∧ afI l i = (aget S y.key).getD 0 ∨ (aget S y.key).isSome = false ∧ afI l i = -1 := by
  have e : afI l i = lastI (ofR l 1 y.key) i := by unfold afI; rw [hy]; simp [h]
  rw [I.se, e]
  rcases lastI_cases (ofR l 1 y.key) i with ⟨h1, _⟩ | ⟨k, h1, _⟩
  · rw [h1]; exact .inr ⟨rfl, rfl⟩
  · rw [h1]; exact .inl (by unfold toO; rw [if_neg (by omega)]; exact ⟨rfl, rfl⟩)
theorem after0 (hy : l[i]? = some y) (h : y.rl = 0) : afI l i = -1 := by unfold afI; rw [hy]; simp [h]
theorem toO_step {r : Int} {m : Int × Int × Int} (hy : l[i]? = some y) : toO (lastI (ofR l r m) (i + 1)) = if y.rl = r ∧ y.key = m then some (i : Int) else toO (lastI (ofR l r m) i) := by
  show toO (if ofR l r m i then (i : Int) else lastI (ofR l r m) i) = _
  have e : ofR l r m i = decide (y.rl = r ∧ y.key = m) := by simp [ofR, hy]
  rw [e]
  by_cases h : y.rl = r ∧ y.key = m
  · rw [if_pos h]
    simp only [h, and_self, decide_true, if_true]
    unfold toO; rw [if_neg (by omega)]
  · rw [if_neg h]
    simp [h]
theorem se_step {r : Int} {X : List ((Int × Int × Int) × Int)} (hX : ∀ m, aget X m = toO (lastI (ofR l r m) i)) (hy : l[i]? = some y) : (y.rl = r → ∀ m, aget (aset X y.key (i : Int)) m = toO (lastI (ofR l r m) (i + 1))) ∧ (y.rl ≠ r → ∀ m, aget X m = toO (lastI (ofR l r m) (i + 1))) := by
  refine ⟨fun h m => ?_, fun h m => ?_⟩
  · rw [aget_aset, toO_step hy, hX m]
    by_cases e : m = y.key
    · rw [if_pos e, if_pos ⟨h, e.symm⟩]
    · rw [if_neg e, if_neg (fun hh => e hh.2.symm)]
  · rw [toO_step hy, if_neg (fun hh => h hh.1), hX m]
theorem set_at_ne {α : Type} {l : List α} {i j : Nat} {x : α} (h : j ≠ i) : (l.set i x)[j]? = l[j]? := by rw [List.getElem?_set, if_neg (fun e => h e.symm)]
theorem set_at_eq {α : Type} {l : List α} {i : Nat} {x : α} (h : i < l.length) : (l.set i x)[i]? = some x := by rw [List.getElem?_set, if_pos rfl, if_pos h]
theorem filter_range_succ (p : Nat → Bool) (n : Nat) : (List.range (n + 1)).filter p = (List.range n).filter p ++ if p n then [n] else [] := by
  rw [List.range_succ, List.filter_append]
  congr 1
  cases h : p n <;> simp [h]
/-- One place more. -/
theorem SI.step (I : SI l i ch lk af Cm S R) (hy : l[i]? = some y) {k : Nat} {lk' : List (List Nat)} {Cm' : List (Int × Int)} {S' R' : List ((Int × Int × Int) × Int)} {z : Int}
    (hk : (aget Cm y.c = some (k : Int) ∧ (∃ L, lk[k]? = some L ∧ lk' = lk.set k (L ++ [i])) ∧ Cm' = Cm) ∨ (aget Cm y.c = none ∧ k = lk.length ∧ lk' = lk ++ [[i]] ∧ Cm' = aset Cm y.c (k : Int)))
    (hS : ∀ m, aget S' m = toO (lastI (ofR l 1 m) (i + 1))) (hR : ∀ m, aget R' m = toO (lastI (ofR l 2 m) (i + 1))) (hz : z = afI l i) :
    SI l (i + 1) (ch.set i k) lk' (af.set i z) Cm' S' R' := by
  have hil : i < l.length := (List.getElem?_eq_some_iff.1 hy).1
  have hic : i < ch.length := by rw [I.chl]; exact hil
  have e0 : ∀ j, j < i → (ch.set i k)[j]? = ch[j]? := fun j hj => set_at_ne (by omega)
  have e1 : (ch.set i k)[i]? = some k := set_at_eq hic
  have hcj : ∀ j, j < i → ∃ c, ch[j]? = some c ∧ c < lk.length := fun j hj => ⟨ch[j]'(by omega), List.getElem?_eq_getElem _, I.lt j _ hj (List.getElem?_eq_getElem _)⟩
  -- the chain of the new place
  have T0 : ∀ (j : Nat) (x : Ev), j < i → l[j]? = some x → (x.c = y.c ↔ ch[j]? = some k) := by
    intro j x hj hx
    rcases hk with ⟨h1, _, _⟩ | ⟨h1, h2, _⟩
    · rcases I.cm y.c with ⟨k', h3, _, _, h4⟩ | ⟨h3, _⟩
      · rw [h1] at h3
        obtain rfl : k = k' := by have := Option.some.inj h3; omega
        exact h4 j x hj hx
      · rw [h1] at h3; cases h3
    · rcases I.cm y.c with ⟨k', h3, _⟩ | ⟨_, h4⟩
      · rw [h1] at h3; cases h3
      · obtain ⟨c, hc, hcl⟩ := hcj j hj
        refine ⟨fun h => (h4 j x hj hx h).elim, fun h => ?_⟩
        rw [hc] at h
        have := Option.some.inj h
        omega
  have hkl : k < lk'.length := by
    rcases hk with ⟨_, ⟨L, h1, rfl⟩, _⟩ | ⟨_, h2, rfl, _⟩
    · rw [List.length_set]; exact (List.getElem?_eq_some_iff.1 h1).1
    · rw [List.length_append, List.length_singleton]; omega
  have hlk : lk.length ≤ lk'.length := by
    rcases hk with ⟨_, ⟨L, h1, rfl⟩, _⟩ | ⟨_, h2, rfl, _⟩
    · rw [List.length_set]; exact Nat.le_refl _
    · rw [List.length_append]; omega
  have hlk1 : lk'.length ≤ i + 1 := by
    have := I.le
    rcases hk with ⟨_, ⟨L, h1, rfl⟩, _⟩ | ⟨_, h2, rfl, _⟩
    · rw [List.length_set]; omega
    · rw [List.length_append, List.length_singleton]; omega
  refine ⟨by rw [List.length_set]; exact I.chl, by rw [List.length_set]; exact I.afl, hlk1, ?_, ?_, ?_, ?_, hS, hR, ?_⟩
  · intro j c hj hc
    rcases Nat.lt_or_ge j i with h | h
    · rw [e0 j h] at hc
      exact Nat.lt_of_lt_of_le (I.lt j c h hc) hlk
    · obtain rfl : j = i := by omega
      rw [e1] at hc
      rw [← Option.some.inj hc]; exact hkl
  · intro c L hL
    have ef : (List.range i).filter (fun j => decide ((ch.set i k)[j]? = some c)) = (List.range i).filter (fun j => decide (ch[j]? = some c)) := List.filter_congr fun j hj => by rw [e0 j (List.mem_range.1 hj)]
    rw [filter_range_succ, ef, e1]
    have hone : decide (some k = some c) = decide (k = c) := by simp
    rw [hone]
    rcases hk with ⟨_, ⟨M, h1, rfl⟩, _⟩ | ⟨_, h2, rfl, _⟩
    · rw [List.getElem?_set] at hL
      by_cases e : k = c
      · subst e
        rw [if_pos rfl, if_pos (List.getElem?_eq_some_iff.1 h1).1] at hL
        rw [← Option.some.inj hL, ← I.ks k M h1]
        simp
      · rw [if_neg e] at hL
        rw [← I.ks c L hL]
        simp [e]
    · rw [List.getElem?_append] at hL
      split at hL
      · rename_i hlt
        rw [← I.ks c L hL]
        have : ¬ k = c := by omega
        simp [this]
      · rename_i hlt
        have hc0 : c - lk.length = 0 := by
          rcases Nat.eq_zero_or_pos (c - lk.length) with h | h
          · exact h
          · rw [List.getElem?_eq_none (by simp; omega)] at hL; cases hL
        rw [hc0] at hL
        obtain rfl : k = c := by omega
        have hn : (List.range i).filter (fun j => decide (ch[j]? = some k)) = [] := List.filter_eq_nil_iff.2 fun j hj hd => by
          obtain ⟨c', hc', hl'⟩ := hcj j (List.mem_range.1 hj)
          rw [decide_eq_true_eq, hc'] at hd
          have := Option.some.inj hd
          omega
        rw [hn]
        simp only [List.getElem?_cons_zero, Option.some.injEq] at hL
        rw [← hL]; simp
  · intro j m x z' hj hm hx hz'
    rcases Nat.lt_or_ge j i with h | h
    · rcases Nat.lt_or_ge m i with h' | h'
      · rw [e0 j h, e0 m h']; exact I.eq j m x z' h h' hx hz'
      · obtain rfl : m = i := by omega
        obtain rfl : z' = y := Option.some.inj (hz'.symm.trans hy)
        rw [e0 j h, e1]; exact (T0 j x h hx).symm
    · obtain rfl : j = i := by omega
      obtain rfl : x = y := Option.some.inj (hx.symm.trans hy)
      rcases Nat.lt_or_ge m j with h' | h'
      · rw [e0 m h', e1]
        have := T0 m z' h' hz'
        exact ⟨fun h => (this.2 h.symm).symm, fun h => (this.1 h.symm).symm⟩
      · obtain rfl : m = j := by omega
        obtain rfl : z' = x := Option.some.inj (hz'.symm.trans hy)
        exact ⟨fun _ => rfl, fun _ => rfl⟩
  · intro c
    by_cases e : c = y.c
    · subst e
      refine .inl ⟨k, ?_, hkl, ⟨i, y, by omega, hy, rfl⟩, fun j x hj hx => ?_⟩
      · rcases hk with ⟨h1, _, rfl⟩ | ⟨h1, h2, _, rfl⟩
        · exact h1
        · rw [aget_aset, if_pos rfl]
      · rcases Nat.lt_or_ge j i with h | h
        · rw [e0 j h]; exact T0 j x h hx
        · obtain rfl : j = i := by omega
          obtain rfl : x = y := Option.some.inj (hx.symm.trans hy)
          rw [e1]; exact ⟨fun _ => rfl, fun _ => rfl⟩
    · have hC : aget Cm' c = aget Cm c := by
        rcases hk with ⟨h1, _, rfl⟩ | ⟨h1, h2, _, rfl⟩
        · rfl
        · rw [aget_aset, if_neg e]
      rw [hC]
      rcases I.cm c with ⟨k', h3, h4, ⟨j0, x0, hj0, hx0, hc0⟩, h5⟩ | ⟨h3, h4⟩
      · refine .inl ⟨k', h3, Nat.lt_of_lt_of_le h4 hlk, ⟨j0, x0, by omega, hx0, hc0⟩, fun j x hj hx => ?_⟩
        rcases Nat.lt_or_ge j i with h | h
        · rw [e0 j h]; exact h5 j x h hx
        · obtain rfl : j = i := by omega
          obtain rfl : x = y := Option.some.inj (hx.symm.trans hy)
          rw [e1]
          refine ⟨fun h => (e h.symm).elim, fun h => ?_⟩
          have hkk : k = k' := Option.some.inj h
          have h6 := (h5 j0 x0 hj0 hx0).1 hc0
          have h7 := (T0 j0 x0 hj0 hx0).2 (by rw [hkk]; exact h6)
          exact (e (hc0.symm.trans h7)).elim
      · refine .inr ⟨h3, fun j x hj hx => ?_⟩
        rcases Nat.lt_or_ge j i with h | h
        · exact h4 j x h hx
        · obtain rfl : j = i := by omega
          obtain rfl : x = y := Option.some.inj (hx.symm.trans hy)
          exact fun h => e h.symm
  · intro j hj
    rcases Nat.lt_or_ge j i with h | h
    · rw [set_at_ne (by omega)]; exact I.af j h
    · obtain rfl : j = i := by omega
      rw [set_at_eq (by rw [I.afl]; exact hil), hz]
theorem SI.sd (I : SI l l.length ch lk af Cm S R) : SD l ch lk af :=
  ⟨I.chl, I.afl, I.le, fun j c hc => I.lt j c (by have := (List.getElem?_eq_some_iff.1 hc).1; rw [I.chl] at this; exact this) hc, I.ks,
    fun j k x y hx hy => I.eq j k x y (List.getElem?_eq_some_iff.1 hx).1 (List.getElem?_eq_some_iff.1 hy).1 hx hy, I.af⟩
end
theorem used_nil (lk : List (List Nat)) : usedU lk [] = List.replicate lk.length 0 := by
  unfold usedU
  refine List.ext_getElem? fun i => ?_
  rw [List.getElem?_map, List.getElem?_replicate]
  rcases Nat.lt_or_ge i lk.length with h | h
  · rw [List.getElem?_eq_getElem h, if_pos h]; simp
  · rw [List.getElem?_eq_none h, if_neg (by omega)]; rfl
theorem there_nil (n : Nat) : thereU n [] = List.replicate n false := by
  unfold thereU
  refine List.ext_getElem? fun i => ?_
  rw [List.getElem?_map, List.getElem?_replicate]
  rcases Nat.lt_or_ge i n with h | h
  · rw [List.getElem?_range h, if_pos h]; simp
  · rw [List.getElem?_eq_none (by simpa using h), if_neg (by omega)]; rfl
/-! ### the memory of the links -/
def Sn.chO (s : Sn) : Chunk := rows encM 3 1 s.A s.cap s.l
def Sn.nil : Sn := ⟨none, 0, []⟩
theorem sn_at {T : List Sn} {k : Nat} {s : Sn} (h : T[k]? = some s) : (T.map Sn.chO)[k]? = some (rows encM 3 1 s.A s.cap s.l) := by simp [h, Sn.chO]
theorem sn_set (T : List Sn) (k : Nat) (A : Option Addr) (q : Nat) (x : List Nat) : (T.map Sn.chO).set k (rows encM 3 1 A q x) = (T.set k ⟨A, q, x⟩).map Sn.chO := by rw [List.map_set]; rfl
theorem sn_push (T : List Sn) : T.map Sn.chO ++ [rows encM 3 1 none 0 []] = (T ++ [Sn.nil]).map Sn.chO := by rw [List.map_append]; rfl
theorem sn_last (T : List Sn) (s : Sn) : (T ++ [s])[T.length]? = some s := by simp
theorem To.layNats {C : Cx} {ρ : Slots} {Γ : List Chunk} {K : Act → World → Prop} {T : List Sn} (k : To C ρ (natsS (T.map Sn.ar) :: Γ) K) : To C ρ (all (T.map Sn.chO) :: Γ) K :=
  To.lay (Γ := [all (T.map Sn.chO)]) (Γ' := [natsS (T.map Sn.ar)]) (fun w hs c hc => by
    rw [List.mem_singleton.1 hc]
    intro p hp
    obtain ⟨s, hs', rfl⟩ := List.mem_map.1 hp
    have h1 : sat (T.map Sn.chO) w := hs.each _ (List.mem_cons_self ..)
    exact oks_row (Γ := [rows encM 3 1 s.A s.cap s.l]) 0 rfl w (fun c hc => by rw [List.mem_singleton.1 hc]; exact h1.each _ (List.mem_map.2 ⟨s, hs', rfl⟩))) rfl (fun g hg => by
    refine .inl ?_
    have h0 : g ∈ (natsS (T.map Sn.ar)).reads := by simpa [reads] using hg
    obtain ⟨p, hp, hg⟩ := List.mem_flatMap.1 h0
    obtain ⟨s, hs', rfl⟩ := List.mem_map.1 hp
    have h1 : g ∈ rblks s.A (s.l.flatMap encM) := by simpa [ros, ro, Sn.ar] using hg
    have h2 : g ∈ blks s.A := by
      cases h : s.l.flatMap encM with
      | nil => rw [h] at h1; simp [rblks] at h1
      | cons x xs => rw [h] at h1; exact h1
    have h3 : g ∈ owns (T.map Sn.chO) := mem_owns.2 ⟨_, List.mem_map.2 ⟨s, hs', rfl⟩, by simpa [Sn.chO, rows, row] using h2⟩
    simpa [owns, all] using h3) k
end Go.Proofs.Ytneimfacccgaeaa
