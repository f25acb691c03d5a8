/- The chains of a list, and what stands ready. Own text. -/
import Derived.Test.YtneimfacccgaeaaV31
namespace Go.Proofs.Ytneimfacccgaeaa
open Go.RowKit Go.Flow Go.Mem Go.Sep

/-- The last of the first places of which p holds, or -1. -/
def lastI (p : Nat → Bool) : Nat → Int
  | 0 => -1
  | k + 1 => if p k then (k : Int) else lastI p k
theorem lastI_cases (p : Nat → Bool) : ∀ n, (lastI p n = -1 ∧ ∀ i, i < n → p i = false) ∨ (∃ k : Nat, lastI p n = k ∧ k < n ∧ p k = true ∧ ∀ i, k < i → i < n → p i = false)
  | 0 => .inl ⟨rfl, fun i hi => by omega⟩
  | n + 1 => by
    unfold lastI
    cases hp : p n
    · simp only [Bool.false_eq_true, if_false]
      rcases lastI_cases p n with ⟨h1, h2⟩ | ⟨k, h1, h2, h3, h4⟩
      · refine .inl ⟨h1, fun i hi => ?_⟩
        rcases Nat.lt_or_ge i n with h | h
        · exact h2 i h
        · rw [show i = n by omega]; exact hp
      · refine .inr ⟨k, h1, by omega, h3, fun i hi hin => ?_⟩
        rcases Nat.lt_or_ge i n with h | h
        · exact h4 i hi h
        · rw [show i = n by omega]; exact hp
    · simp only [if_true]
      exact .inr ⟨n, rfl, by omega, hp, fun i hi hin => by omega⟩
def afI (l : List Ev) (i : Nat) : Int := match l[i]? with
  | some y => if y.rl = 0 then -1 else lastI (ofR l (3 - y.rl) y.key) i
  | none => -1
structure SD (l : List Ev) (ch : List Nat) (lk : List (List Nat)) (af : List Int) : Prop where
  chl : ch.length = l.length
  afl : af.length = l.length
  le : lk.length ≤ l.length
  lt : ∀ i c : Nat, ch[i]? = some c → c < lk.length
  ks : ∀ (c : Nat) (L : List Nat), lk[c]? = some L → L = (List.range l.length).filter (fun i => decide (ch[i]? = some c))
  eq : ∀ (i j : Nat) (x y : Ev), l[i]? = some x → l[j]? = some y → (ch[i]? = ch[j]? ↔ x.c = y.c)
  af : ∀ i : Nat, i < l.length → af[i]? = some (afI l i)
def usedU (lk : List (List Nat)) (u : List Nat) : List Nat := lk.map fun L => (L.filter fun i => u.contains i).length
def thereU (n : Nat) (u : List Nat) : List Bool := (List.range n).map fun i => u.contains i
theorem key_comp {x y : Ev} (h0 : x.rl ≠ 0) (h1 : x.rl = y.rl) (h2 : x.key = y.key) : x.c = y.c := by
  unfold Ev.rl at h0 h1
  unfold Ev.key at h2
  by_cases hx : x.k = 8
  · by_cases hy : y.k = 8
    · simp only [hx, hy, if_true, Prod.mk.injEq] at h2; exact h2.1
    · simp only [hx, hy, if_true, if_false] at h1
      split at h1 <;> omega
  · by_cases hx2 : x.k = 5 ∨ (x.k = 7 ∧ x.d = 5)
    · by_cases hy : y.k = 8
      · simp only [hx, hx2, hy, if_true, if_false] at h1; omega
      · by_cases hy2 : y.k = 5 ∨ (y.k = 7 ∧ y.d = 5)
        · simp only [hx, hx2, hy, hy2, if_true, if_false, Prod.mk.injEq] at h2; exact h2.2.1
        · simp only [hx, hx2, hy, hy2, if_true, if_false] at h1; omega
    · simp only [hx, hx2, if_false] at h0; exact (h0 rfl).elim
/-- What has to stand before a place: those of its component, and those with which it shares a message. -/
theorem depAt_iff {l : List Ev} {i j : Nat} {x y : Ev} (hx : l[i]? = some x) (hy : l[j]? = some y) : depAt l i j = true ↔ x.c = y.c ∨ (y.rl ≠ 0 ∧ ofR l (3 - y.rl) y.key i = true) := by
  rw [depAt_of hx hy, dep_iff]
  have e : ofR l (3 - y.rl) y.key i = true ↔ x.rl = 3 - y.rl ∧ x.key = y.key := by simp [ofR, hx]
  rw [e]
  have hr := rl_cases y
  constructor
  · rintro (h | ⟨h1, h2, h3⟩ | ⟨h1, h2, h3⟩)
    · exact .inl h
    · exact .inr ⟨by omega, by omega, h3⟩
    · exact .inr ⟨by omega, by omega, h3.symm⟩
  · rintro (h | ⟨h1, h2, h3⟩)
    · exact .inl h
    · rcases hr with h | h | h
      · exact (h1 h).elim
      · exact .inr (.inl ⟨h, by omega, h3⟩)
      · exact .inr (.inr ⟨by omega, h, h3.symm⟩)
theorem ex_at {l : List Ev} {i : Nat} (h : i < l.length) : ∃ x, l[i]? = some x := ⟨l[i], List.getElem?_eq_getElem h⟩
/-- Two that share the message with a third, in one role, lie in one component. -/
theorem ofR_comp {l : List Ev} {r : Int} {m : Int × Int × Int} {i k : Nat} {x z : Ev} (hr : r ≠ 0) (hx : l[i]? = some x) (hz : l[k]? = some z) (h1 : ofR l r m i = true) (h2 : ofR l r m k = true) : x.c = z.c := by
  simp only [ofR, hx, hz, decide_eq_true_eq] at h1 h2
  exact key_comp (by rw [h1.1]; exact hr) (h1.1.trans h2.1.symm) (h1.2.trans h2.2.symm)
/-- A set that goes down in an ascending list is one of its beginnings. -/
theorem filter_take {S : Nat → Bool} : ∀ {A : List Nat}, A.Pairwise (· < ·) → (∀ x ∈ A, ∀ y ∈ A, x < y → S y = true → S x = true) → A.filter S = A.take (A.filter S).length
  | [], _, _ => rfl
  | a :: A, hp, hd => by
    rw [List.pairwise_cons] at hp
    have ih := filter_take (S := S) hp.2 (fun x hx y hy => hd x (List.mem_cons_of_mem _ hx) y (List.mem_cons_of_mem _ hy))
    cases ha : S a
    · have : A.filter S = [] := List.filter_eq_nil_iff.2 fun y hy hs => by
        have := hd a (List.mem_cons_self ..) y (List.mem_cons_of_mem _ hy) (hp.1 y hy) hs
        rw [ha] at this; cases this
      rw [List.filter_cons_of_neg (by simp [ha]), this]; rfl
    · rw [List.filter_cons_of_pos ha, List.length_cons, List.take_succ_cons, ← ih]
theorem SD.sorted {l : List Ev} {ch : List Nat} {lk : List (List Nat)} {af : List Int} (D : SD l ch lk af) {c : Nat} {L : List Nat} (hL : lk[c]? = some L) : L.Pairwise (· < ·) := by
  rw [D.ks c L hL]; exact List.pairwise_lt_range.filter _
theorem SD.mem {l : List Ev} {ch : List Nat} {lk : List (List Nat)} {af : List Int} (D : SD l ch lk af) {c : Nat} {L : List Nat} (hL : lk[c]? = some L) {i : Nat} : i ∈ L ↔ i < l.length ∧ ch[i]? = some c := by
  rw [D.ks c L hL, List.mem_filter, List.mem_range, decide_eq_true_eq]
theorem SD.same {l : List Ev} {ch : List Nat} {lk : List (List Nat)} {af : List Int} (D : SD l ch lk af) {c : Nat} {L : List Nat} (hL : lk[c]? = some L) {i j : Nat} (hi : i ∈ L) (hj : j ∈ L) : depAt l i j = true := by
  obtain ⟨h1, h2⟩ := (D.mem hL).1 hi
  obtain ⟨h3, h4⟩ := (D.mem hL).1 hj
  obtain ⟨x, hx⟩ := ex_at h1
  obtain ⟨y, hy⟩ := ex_at h3
  rw [depAt_iff hx hy]
  exact .inl ((D.eq i j x y hx hy).1 (h2.trans h4.symm))
section
variable {l : List Ev} {ch : List Nat} {lk : List (List Nat)} {af : List Int} {u : List Nat} {c : Nat} {L : List Nat}
theorem SD.took (D : SD l ch lk af) (hu : Rch l u) (hL : lk[c]? = some L) : L.filter (fun i => u.contains i) = L.take (L.filter fun i => u.contains i).length :=
  filter_take (D.sorted hL) fun x hx y hy hlt hs => by
    simp only [List.contains_eq_mem, decide_eq_true_eq] at hs ⊢
    exact hu.down y hs x hlt (D.same hL hx hy)
/-- A chain that is used up. -/
theorem SD.none_ (D : SD l ch lk af) (hL : lk[c]? = some L) (he : (L.filter fun i => u.contains i).length = L.length) {j : Nat} (hj : j ∈ nxt l u) : ch[j]? ≠ some c := fun h => by
  have h1 : j ∈ L := (D.mem hL).2 ⟨(mem_nxt.1 hj).1, h⟩
  have h2 := List.length_filter_eq_length_iff.1 he j h1
  simp only [List.contains_eq_mem, decide_eq_true_eq] at h2
  exact (mem_nxt.1 hj).2.1 h2
theorem SD.head_not (D : SD l ch lk af) (hu : Rch l u) (hL : lk[c]? = some L) {p : Nat} (hp : L[(L.filter fun i => u.contains i).length]? = some p) : p ∉ u := fun h => by
  have h1 : p ∈ L := List.mem_of_getElem? hp
  have h2 : p ∈ L.filter fun i => u.contains i := List.mem_filter.2 ⟨h1, by simpa using h⟩
  rw [D.took hu hL] at h2
  obtain ⟨k, hk⟩ := List.mem_iff_getElem?.1 h2
  rw [List.getElem?_take] at hk
  split at hk
  · rename_i hlt
    have hs := D.sorted hL
    obtain ⟨ha, hb⟩ := List.getElem?_eq_some_iff.1 hp
    obtain ⟨hc, hd⟩ := List.getElem?_eq_some_iff.1 hk
    have := (List.pairwise_iff_getElem.1 hs) k _ hc ha hlt
    omega
  · cases hk
theorem SD.before (D : SD l ch lk af) (hu : Rch l u) (hL : lk[c]? = some L) {p : Nat} (hp : L[(L.filter fun i => u.contains i).length]? = some p) {i : Nat} (hi : i ∈ L) (hlt : i < p) : i ∈ u := by
  have hs := D.sorted hL
  obtain ⟨k, hk⟩ := List.mem_iff_getElem?.1 hi
  obtain ⟨ha, hb⟩ := List.getElem?_eq_some_iff.1 hp
  obtain ⟨hc, hd⟩ := List.getElem?_eq_some_iff.1 hk
  have hkm : k < (L.filter fun i => u.contains i).length := by
    rcases Nat.lt_trichotomy k (L.filter fun i => u.contains i).length with h | h | h
    · exact h
    · have e : L[k] = L[(L.filter fun i => u.contains i).length] := by congr
      omega
    · have := (List.pairwise_iff_getElem.1 hs) _ k ha hc h
      omega
  have h2 : i ∈ L.take (L.filter fun i => u.contains i).length := List.mem_of_getElem? (i := k) (by rw [List.getElem?_take, if_pos hkm]; exact hk)
  rw [← D.took hu hL] at h2
  simpa using (List.mem_filter.1 h2).2
theorem SD.head_only (D : SD l ch lk af) (hu : Rch l u) (hL : lk[c]? = some L) {p : Nat} (hp : L[(L.filter fun i => u.contains i).length]? = some p) {j : Nat} (hj : j ∈ nxt l u) (hc : ch[j]? = some c) : j = p := by
  obtain ⟨h1, h2, h3⟩ := mem_nxt.1 hj
  have hjL : j ∈ L := (D.mem hL).2 ⟨h1, hc⟩
  have hpL : p ∈ L := List.mem_of_getElem? hp
  rcases Nat.lt_trichotomy j p with h | h | h
  · exact (h2 (D.before hu hL hp hjL h)).elim
  · exact h
  · rcases h3 p h with h4 | h4
    · exact (D.head_not hu hL hp h4).elim
    · rw [D.same hL hpL hjL] at h4; cases h4
/-- Whether a place is ready. -/
def rdyU (l : List Ev) (u : List Nat) (p : Nat) : Bool := decide (afI l p < 0) || u.contains (afI l p).toNat
theorem SD.ready (D : SD l ch lk af) (hu : Rch l u) (hL : lk[c]? = some L) {p : Nat} (hp : L[(L.filter fun i => u.contains i).length]? = some p) : p ∈ nxt l u ↔ rdyU l u p = true := by
  have hpL : p ∈ L := List.mem_of_getElem? hp
  obtain ⟨h1, h2⟩ := (D.mem hL).1 hpL
  obtain ⟨y, hy⟩ := ex_at h1
  have hpu := D.head_not hu hL hp
  have ea : afI l p = if y.rl = 0 then -1 else lastI (ofR l (3 - y.rl) y.key) p := by simp [afI, hy]
  rw [mem_nxt]
  unfold rdyU
  simp only [Bool.or_eq_true, decide_eq_true_eq, List.contains_eq_mem]
  constructor
  · rintro ⟨_, _, h3⟩
    by_cases hr : y.rl = 0
    · rw [ea, if_pos hr]; exact .inl (by omega)
    · rw [ea, if_neg hr]
      rcases lastI_cases (ofR l (3 - y.rl) y.key) p with ⟨e, _⟩ | ⟨k, e, hk, hk2, _⟩
      · rw [e]; exact .inl (by omega)
      · rw [e]
        refine .inr ?_
        obtain ⟨z, hz⟩ := ex_at (l := l) (i := k) (by omega)
        have : depAt l k p = true := (depAt_iff hz hy).2 (.inr ⟨hr, hk2⟩)
        rcases h3 k hk with h4 | h4
        · simpa using h4
        · rw [this] at h4; cases h4
  · intro h
    refine ⟨h1, hpu, fun i hi => ?_⟩
    cases hd : depAt l i p
    · exact .inr rfl
    · refine .inl ?_
      obtain ⟨x, hx⟩ := ex_at (l := l) (i := i) (by omega)
      rcases (depAt_iff hx hy).1 hd with h3 | ⟨hr, h3⟩
      · refine D.before hu hL hp ((D.mem hL).2 ⟨by omega, ?_⟩) hi
        rw [(D.eq i p x y hx hy).2 h3]; exact h2
      · rw [ea, if_neg hr] at h
        rcases lastI_cases (ofR l (3 - y.rl) y.key) p with ⟨e, h4⟩ | ⟨k, e, hk, hk2, h4⟩
        · rw [h4 i hi] at h3; cases h3
        · rw [e] at h
          have hku : k ∈ u := by
            rcases h with h | h
            · omega
            · simpa using h
          rcases Nat.lt_trichotomy i k with h5 | h5 | h5
          · obtain ⟨z, hz⟩ := ex_at (l := l) (i := k) (by omega)
            have hrl := rl_cases y
            have := ofR_comp (by omega) hx hz h3 hk2
            exact hu.down k hku i h5 ((depAt_iff hx hz).2 (.inl this))
          · rw [h5]; exact hku
          · rw [h4 i h5 hi] at h3; cases h3
end
/-! ### what is used, and what is there -/
theorem used_len (lk : List (List Nat)) (u : List Nat) : (usedU lk u).length = lk.length := by simp [usedU]
theorem used_at {lk : List (List Nat)} {u : List Nat} {c : Nat} {L : List Nat} (h : lk[c]? = some L) : (usedU lk u)[c]? = some (L.filter fun i => u.contains i).length := by simp [usedU, h]
theorem there_len (n : Nat) (u : List Nat) : (thereU n u).length = n := by simp [thereU]
theorem there_at {n : Nat} {u : List Nat} {i : Nat} (h : i < n) : (thereU n u)[i]? = some (u.contains i) := by simp [thereU, h]
theorem there_push {n : Nat} {u : List Nat} {p : Nat} : (thereU n u).set p true = thereU n (u ++ [p]) := by
  refine List.ext_getElem? fun i => ?_
  rw [List.getElem?_set]
  simp only [thereU, List.length_map, List.length_range, List.getElem?_map]
  rcases Nat.lt_or_ge i n with h | h
  · by_cases e : p = i
    · subst e; simp [h]
    · rw [if_neg e]
      have e2 : ¬ i = p := fun h => e h.symm
      simp [h, e2]
  · by_cases e : p = i
    · subst e; simp [h, Nat.not_lt.2 h]
    · simp [e, h]
theorem there_pop {n : Nat} {u : List Nat} {p : Nat} (hp : p ∉ u) : (thereU n (u ++ [p])).set p false = thereU n u := by
  refine List.ext_getElem? fun i => ?_
  rw [List.getElem?_set]
  simp only [thereU, List.length_map, List.length_range, List.getElem?_map]
  rcases Nat.lt_or_ge i n with h | h
  · by_cases e : p = i
    · subst e; simp [h, hp]
    · rw [if_neg e]
      have e2 : ¬ i = p := fun h => e h.symm
      simp [h, e2]
  · by_cases e : p = i
    · subst e; simp [h, Nat.not_lt.2 h]
    · simp [e, h]
theorem filter_push {u : List Nat} {p : Nat} (hp : p ∉ u) : ∀ {L : List Nat}, L.Nodup → (L.filter fun i => (u ++ [p]).contains i).length = (L.filter fun i => u.contains i).length + if p ∈ L then 1 else 0
  | [], _ => by simp
  | a :: L, hn => by
    rw [List.nodup_cons] at hn
    have ih := filter_push (u := u) hp hn.2
    by_cases e : a = p
    · subst e
      have h1 : (u ++ [a]).contains a = true := by simp
      have h2 : ¬ u.contains a = true := by simpa using hp
      rw [List.filter_cons_of_pos h1, List.filter_cons_of_neg h2, List.length_cons, ih, if_neg hn.1, if_pos (List.mem_cons_self ..)]
    · have e2 : (u ++ [p]).contains a = u.contains a := by simp [e]
      have e3 : p ∈ a :: L ↔ p ∈ L := ⟨fun h => (List.mem_cons.1 h).resolve_left (fun h => e h.symm), List.mem_cons_of_mem _⟩
      cases hc : u.contains a
      · rw [List.filter_cons_of_neg (by rw [e2, hc]; simp), List.filter_cons_of_neg (by rw [hc]; simp), ih]
        simp only [e3]
      · rw [List.filter_cons_of_pos (by rw [e2, hc]), List.filter_cons_of_pos (by rw [hc]), List.length_cons, List.length_cons, ih]
        simp only [e3]; omega
theorem used_push {l : List Ev} {ch : List Nat} {lk : List (List Nat)} {af : List Int} {u : List Nat} {p c : Nat} {L : List Nat} (D : SD l ch lk af) (hp : p ∉ u) (hpl : p < l.length) (hc : ch[p]? = some c) (hL : lk[c]? = some L) :
    (usedU lk u).set c ((L.filter fun i => u.contains i).length + 1) = usedU lk (u ++ [p]) := by
  refine List.ext_getElem? fun i => ?_
  rw [List.getElem?_set]
  simp only [usedU, List.length_map, List.getElem?_map]
  by_cases e : c = i
  · subst e
    rw [if_pos rfl, if_pos (List.getElem?_eq_some_iff.1 hL).1, hL]
    have hn : L.Nodup := (D.sorted hL).imp fun h => Nat.ne_of_lt h
    simp only [Option.map_some, Option.some.injEq]
    rw [filter_push hp hn, if_pos ((D.mem hL).2 ⟨hpl, hc⟩)]
  · rw [if_neg e]
    cases hM : lk[i]? with
    | none => rfl
    | some M =>
      have hn : M.Nodup := (D.sorted hM).imp fun h => Nat.ne_of_lt h
      simp only [Option.map_some, Option.some.injEq]
      rw [filter_push hp hn, if_neg (fun h => e (Option.some.inj (hc.symm.trans ((D.mem hM).1 h).2)))]; rfl
theorem used_pop {l : List Ev} {ch : List Nat} {lk : List (List Nat)} {af : List Int} {u : List Nat} {p c : Nat} {L : List Nat} (D : SD l ch lk af) (hp : p ∉ u) (hpl : p < l.length) (hc : ch[p]? = some c) (hL : lk[c]? = some L) :
    (usedU lk (u ++ [p])).set c ((L.filter fun i => u.contains i).length) = usedU lk u := by
  rw [← used_push D hp hpl hc hL, List.set_set]
  refine List.ext_getElem? fun i => ?_
  rw [List.getElem?_set]
  by_cases e : c = i
  · subst e
    rw [if_pos rfl, if_pos (by rw [used_len]; exact (List.getElem?_eq_some_iff.1 hL).1), used_at hL]
  · rw [if_neg e]
theorem used_popped {l : List Ev} {ch : List Nat} {lk : List (List Nat)} {af : List Int} {u : List Nat} {p c : Nat} {L : List Nat} (D : SD l ch lk af) (hp : p ∉ u) (hpl : p < l.length) (hc : ch[p]? = some c) (hL : lk[c]? = some L) :
    (usedU lk (u ++ [p]))[c]? = some ((L.filter fun i => u.contains i).length + 1) := by
  rw [← used_push D hp hpl hc hL]
  rw [List.getElem?_set, if_pos rfl, if_pos (by rw [used_len]; exact (List.getElem?_eq_some_iff.1 hL).1)]
end Go.Proofs.Ytneimfacccgaeaa
