/- Words for memory: what a call keeps, what a slice reads, append onto a row of one's own. Own text. -/
import Derived.Test.YtoehnbacbobhiaaDoorSepd
import Derived.Maps.AppendAt
import Derived.Laws.OwnMore
import Derived.Deep.AppendLies
import Derived.RegionTactic
import Derived.OwnWalk
import Derived.OneCell
namespace Go.Mem
open Go.RowKit Go.Flow

/-- Of the blocks that were there only those of X may have turned. -/
structure Keeps (X : Nat → Prop) (w w' : World) : Prop where
  os : w'.os = w.os
  tape : w'.tape = w.tape
  output : w'.output = w.output
  size : w.heap.size ≤ w'.heap.size
  block : ∀ k, k < w.heap.size → ¬ X k → w'.heap[k]? = w.heap[k]?
  drawn : w.drawn ≤ w'.drawn
theorem Keeps.refl (X : Nat → Prop) (w : World) : Keeps X w w := ⟨rfl, rfl, rfl, Nat.le_refl _, fun _ _ _ => rfl, Nat.le_refl _⟩
theorem Keeps.trans {X Y Z : Nat → Prop} {a b c : World} (h : Keeps X a b) (k : Keeps Y b c) (hx : ∀ i, i < a.heap.size → X i → Z i) (hy : ∀ i, i < a.heap.size → Y i → Z i) : Keeps Z a c :=
  ⟨k.os.trans h.os, k.tape.trans h.tape, k.output.trans h.output, Nat.le_trans h.size k.size, fun i hi hn => (k.block i (Nat.lt_of_lt_of_le hi h.size) (fun e => hn (hy i hi e))).trans (h.block i hi (fun e => hn (hx i hi e))), Nat.le_trans h.drawn k.drawn⟩
theorem Keeps.mono {X Y : Nat → Prop} {a b : World} (h : Keeps X a b) (hx : ∀ i, i < a.heap.size → X i → Y i) : Keeps Y a b := ⟨h.os, h.tape, h.output, h.size, fun i hi hn => h.block i hi (fun e => hn (hx i hi e)), h.drawn⟩
theorem Keeps.of_ext {X : Nat → Prop} {a b : World} (h : Ext a b) : Keeps X a b := ⟨h.os, h.tape, h.output, h.size, fun i hi _ => h.block i hi, h.drawn⟩
theorem Keeps.ext {X : Nat → Prop} {a b : World} (h : Keeps X a b) (hx : ∀ i, i < a.heap.size → ¬ X i) : Ext a b := ⟨⟨h.os, h.tape, h.output, h.size, fun i hi => h.block i hi (hx i hi)⟩, h.drawn⟩
theorem Keeps.then_ext {X : Nat → Prop} {a b c : World} (h : Keeps X a b) (k : Ext b c) : Keeps X a c := h.trans (Keeps.of_ext (X := X) k) (fun _ _ h => h) (fun _ _ h => h)
theorem Keeps.seq {X : Nat → Prop} {a b c : World} (h : Keeps X a b) (k : Keeps X b c) : Keeps X a c := h.trans k (fun _ _ h => h) (fun _ _ h => h)
theorem Keeps.of_grown {a b : World} {row : Option Nat} (h : a.grownBy b row) (hd : a.drawn ≤ b.drawn) : Keeps (fun i => some i = row) a b := ⟨h.os, h.tape, h.output, h.size, fun i hi hn => h.block i hi hn, hd⟩
theorem Keeps.below {X : Nat → Prop} {B : Nat} {a b : World} (h : Keeps X a b) (hB : B ≤ a.heap.size) (hx : ∀ i, i < B → ¬ X i) : Below B a b := ⟨h.os, h.tape, h.output, h.size, fun i hi => h.block i (by omega) (hx i hi)⟩
theorem Keeps.of_below {B : Nat} {a b : World} (h : Below B a b) (hd : a.drawn ≤ b.drawn) : Keeps (fun i => B ≤ i) a b := ⟨h.os, h.tape, h.output, h.size, fun i _ hn => h.block i (by omega), hd⟩
theorem Keeps.setCell (w : World) (p : Addr) (u : Value) : Keeps (fun i => i = p.block) w (w.setCell p u) := ⟨rfl, rfl, rfl, by simp [World.setCell], fun i _ hn => Below.heap_setCell _ _ _ _ hn, Nat.le_refl _⟩
theorem Keeps.cell {X : Nat → Prop} {a b : World} (h : Keeps X a b) {p : Addr} (hp : p.block < a.heap.size) (hn : ¬ X p.block) : b.cell? p = a.cell? p := World.cell?_of_block (h.block _ hp hn)
theorem Keeps.frozen {X : Nat → Prop} {a b : World} (h : Keeps X a b) {p : Addr} (hp : p.block < a.heap.size) (hn : ¬ X p.block) : b.frozen? p = a.frozen? p := World.frozen?_of_block (h.block _ hp hn)
theorem Keeps.at_ {X : Nat → Prop} {a b : World} (h : Keeps X a b) {p : Addr} {v : Value} (hc : a.cell? p = some v) (hn : ¬ X p.block) : b.cell? p = some v := (h.cell (World.block_lt_of_cell? _ _ hc) hn).trans hc
theorem Keeps.range {X : Nat → Prop} {w W : World} (hb : Keeps X w W) {g off : Nat} {cs : List Value} (h : w.rangeAt g off cs) (hn : ¬ X g) : W.rangeAt g off cs := fun j v hv => hb.at_ (h j v hv) hn

/-- The cells that a slice (or an address) shows. -/
def Src (w : World) (A : Option Addr) (xs : List Value) : Prop := xs = [] ∨ ∃ g off, A = some ⟨g, off, none⟩ ∧ w.rangeAt g off xs
theorem Src.ext {w w' : World} {A : Option Addr} {xs : List Value} (h : Src w A xs) (k : Ext w w') : Src w' A xs :=
  h.imp id fun ⟨g, off, hA, hr⟩ => ⟨g, off, hA, k.range hr⟩
theorem Src.at_ {w : World} {A : Option Addr} {xs : List Value} (h : Src w A xs) {j : Nat} {v : Value} (hj : xs[j]? = some v) : ∃ g off, A = some ⟨g, off, none⟩ ∧ w.cell? ⟨g, off + j, none⟩ = some v := by
  rcases h with rfl | ⟨g, off, hA, hr⟩
  · simp at hj
  · exact ⟨g, off, hA, hr j v hj⟩

section
variable {w w' : World} {base : Nat} {e : TypeId} {size : Nat} {v : Value} {n : Nat} {xs : List Value}
theorem own_ext (h : w.ownsRow base e size v n xs) (k : Ext w w') : w'.ownsRow base e size v n xs := by
  refine ⟨h.1, ?_⟩
  rcases h.2 with hn | ⟨g, cap, cur, hv, hb, hgg, rest⟩
  · exact .inl hn
  · exact .inr ⟨g, cap, cur, hv, hb, (k.block g (Array.getElem?_eq_some_iff.1 hgg).1).trans hgg, rest⟩
theorem own_keeps {X : Nat → Prop} (h : w.ownsRow base e size v n xs) (k : Keeps X w w') (hx : ∀ g, v.ownBlock = some g → ¬ X g) : w'.ownsRow base e size v n xs := by
  refine ⟨h.1, ?_⟩
  rcases h.2 with hn | ⟨g, cap, cur, hv, hb, hgg, rest⟩
  · exact .inl hn
  · exact .inr ⟨g, cap, cur, hv, hb, (k.block g (Array.getElem?_eq_some_iff.1 hgg).1 (hx g (by rw [hv]; rfl))).trans hgg, rest⟩
theorem own_base {base' : Nat} (h : w.ownsRow base e size v n xs) (hb : ∀ g, v.ownBlock = some g → base' ≤ g) : w.ownsRow base' e size v n xs := by
  refine ⟨h.1, ?_⟩
  rcases h.2 with hn | ⟨g, cap, cur, hv, _, hgg, rest⟩
  · exact .inl hn
  · exact .inr ⟨g, cap, cur, hv, hb g (by rw [hv]; rfl), hgg, rest⟩
/-- A row's value, written out. -/
theorem own_form (h : w.ownsRow base e size v n xs) : ∃ A cap, v = .slice A n cap ∧ Src w A xs ∧ n ≤ cap ∧ cap ≤ maxLen := by
  rcases h.2 with ⟨hv, hn⟩ | ⟨g, cap, cur, hv, hb, hgg, hnc, hcm, hcs, htake⟩
  · subst hn
    exact ⟨none, 0, hv, .inl (List.eq_nil_of_length_eq_zero (by simpa using h.1)), Nat.le_refl _, Nat.zero_le _⟩
  · refine ⟨some ⟨g, 0, none⟩, cap, hv, .inr ⟨g, 0, rfl, fun j u hu => ?_⟩, hnc, hcm⟩
    have := h.cells (g := g) (by rw [hv]; rfl) j u hu
    rwa [Addr.add_mid] at this
/-- Two rows of different element types lie apart. -/
theorem own_type_ne {base' : Nat} {e' : TypeId} {size' : Nat} {v' : Value} {n' : Nat} {xs' : List Value} (h : w.ownsRow base e size v n xs) (h' : w.ownsRow base' e' size' v' n' xs') (hne : e ≠ e') : ∀ g, v.ownBlock = some g → v'.ownBlock ≠ some g := by
  intro g hg hg'
  rcases h.2 with ⟨rfl, _⟩ | ⟨g1, cap, cur, rfl, _, hh, _⟩
  · simp [Value.ownBlock] at hg
  · rcases h'.2 with ⟨rfl, _⟩ | ⟨g2, cap', cur', rfl, _, hh', _⟩
    · simp [Value.ownBlock] at hg'
    · simp [Value.ownBlock] at hg hg'
      subst hg; subst hg'
      rw [hh] at hh'
      injection hh' with hh'
      injection hh' with _ ht
      exact hne ht
theorem own_blk_ne {e' : TypeId} {cs : Array Value} {fz : Nat × Nat} {g : Nat} (h : w.ownsRow base e size v n xs) (hb : w.heap[g]? = some (.cells cs e' fz)) (hne : e ≠ e') : v.ownBlock ≠ some g := by
  intro hg
  rcases h.2 with ⟨rfl, _⟩ | ⟨g1, cap, cur, rfl, _, hh, _⟩
  · simp [Value.ownBlock] at hg
  · simp [Value.ownBlock] at hg
    subst hg
    rw [hh] at hb
    injection hb with hb
    injection hb with _ ht
    exact hne ht
end

section
variable {P : Program} (w : World)
/-- append(v, src...) onto a row of one's own, the source nil or not. -/
theorem run_append_from (base : Nat) (t ty e : TypeId) (i : TypeInfo) (z : Value) (size bytes : Nat) (ht : P.underlying t = some (.slice e)) (hi : P.info? e = some i) (hz : i.zero = some z)
    (hsize : i.size = size) (hby : i.bytes = bytes) (hzs : z.cells.size = size) (hsz : 0 < size)
    (v : Value) (n : Nat) (xs : List Value) (hown : w.ownsRow base e size v n xs)
    (A : Option Addr) (m c : Nat) (news : List Value) (hl : news.length = m * size) (hs : Src w A news) (h1 : ∀ u ∈ news, u.oneCell' = true)
    (h63 : n + m ≤ maxLen) (hbytes : (n + m) * bytes ≤ 140737488355328) (hbase : base ≤ w.heap.size) :
    ∃ v' w', (Builtin.append_ #[t, t] ty #[v, .slice A m c]).run P w = .ok v' w' ∧ w'.ownsRow base e size v' (n + m) (xs ++ news) ∧ Keeps (fun g => v.ownBlock = some g) w w' ∧
      (v'.ownBlock = v.ownBlock ∨ v'.ownBlock = some w.heap.size) := by
  have hk : ∀ w', w.grownBy w' v.ownBlock → w.drawn ≤ w'.drawn → Keeps (fun g => v.ownBlock = some g) w w' := fun w' h hd => (Keeps.of_grown h hd).mono fun _ _ h => h.symm
  cases A with
  | none =>
    have hn : news = [] := by
      rcases hs with h | ⟨g, off, h, _⟩
      · exact h
      · cases h
    subst hn
    have hm : m = 0 := by
      rcases Nat.eq_zero_or_pos m with h | h
      · exact h
      · have : 0 < m * size := Nat.mul_pos h hsz
        simp at hl; omega
    subst hm
    refine ⟨v, w, ?_, by simpa using hown, Keeps.refl _ _, .inl rfl⟩
    rcases hown.2 with ⟨rfl, rfl⟩ | ⟨g, cap, cur, rfl, _, _, hnc, _⟩
    · simp [Builtin.append_, run_underlying ht, sizeOf, typeInfo, hi, Builtin.lenOf, Builtin.firstCells]
    · simp [Builtin.append_, run_underlying ht, sizeOf, typeInfo, hi, Builtin.lenOf, Builtin.firstCells, hnc, storeCells]
  | some ad =>
    have hc : ∀ j u, news[j]? = some u → w.cell? (ad.add j) = some u := by
      intro j u hu
      rcases hs with rfl | ⟨g, off, hA, hr⟩
      · simp at hu
      · injection hA with hA
        subst hA
        rw [Addr.add_mid]
        exact hr j u hu
    obtain ⟨v', w', hrun, h2, h3, _, h5⟩ := run_append_own_at (P := P) w base t ty e i z size bytes ht hi hz hsize hby hzs hsz v n xs hown ad m c news hl hc h1 h63 hbytes hbase
    exact ⟨v', w', hrun, h2, hk w' h3 (Go.Sep.run_drawn _ _ _ _ hrun), h5⟩

theorem valTo_append {o : Oper} {a : Act} {K : Value → World → Prop} {s x : Operand} {t : TypeId} (ho : o.op = .call { callee := .builtin .append, args := #[s, x], argTypes := #[t, t] })
    (base : Nat) (e : TypeId) (i : TypeInfo) (z : Value) (size bytes : Nat) (ht : P.underlying t = some (.slice e)) (hi : P.info? e = some i) (hz : i.zero = some z)
    (hsize : i.size = size) (hby : i.bytes = bytes) (hzs : z.cells.size = size) (hsz : 0 < size)
    (v : Value) (n : Nat) (xs : List Value) (hv : a.eval s = v) (hown : w.ownsRow base e size v n xs)
    (A : Option Addr) (m c : Nat) (news : List Value) (hx : a.eval x = .slice A m c) (hl : news.length = m * size) (hs : Src w A news) (h1 : ∀ u ∈ news, u.oneCell' = true)
    (h63 : n + m ≤ maxLen) (hbytes : (n + m) * bytes ≤ 140737488355328) (hbase : base ≤ w.heap.size)
    (h : ∀ v' w', w'.ownsRow base e size v' (n + m) (xs ++ news) → Keeps (fun g => v.ownBlock = some g) w w' → (v'.ownBlock = v.ownBlock ∨ v'.ownBlock = some w.heap.size) → K v' w') : valTo K ((execOp a.eval o).run P w) := by
  obtain ⟨v', w', hrun, h2, h3, h4⟩ := run_append_from (P := P) w base t o.type e i z size bytes ht hi hz hsize hby hzs hsz v n xs hown A m c news hl hs h1 h63 hbytes hbase
  unfold execOp
  simp only [ho, resolve, invoke, builtin, Sem.run_bind, Sem.run_pure, Result.andThen_ok, List.map_toArray, List.map_cons, List.map_nil, hv, hx, hrun]
  exact h v' w' h2 h3 h4

theorem wpList_append_from {ops : Array Oper} {rest : List Oper} {o : Oper} {a : Act} {Q : Exit → Act → World → Prop} (hgd : o.guard = none) {s x : Operand} {t : TypeId} (ho : o.op = .call { callee := .builtin .append, args := #[s, x], argTypes := #[t, t] })
    (base : Nat) (e : TypeId) (i : TypeInfo) (z : Value) (size bytes : Nat) (ht : P.underlying t = some (.slice e)) (hi : P.info? e = some i) (hz : i.zero = some z)
    (hsize : i.size = size) (hby : i.bytes = bytes) (hzs : z.cells.size = size) (hsz : 0 < size)
    (v : Value) (n : Nat) (xs : List Value) (hv : a.eval s = v) (hown : w.ownsRow base e size v n xs)
    (A : Option Addr) (m c : Nat) (news : List Value) (hx : a.eval x = .slice A m c) (hl : news.length = m * size) (hs : Src w A news) (h1 : ∀ u ∈ news, u.oneCell' = true)
    (h63 : n + m ≤ maxLen) (hbytes : (n + m) * bytes ≤ 140737488355328) (hbase : base ≤ w.heap.size)
    (h : ∀ v' w', w'.ownsRow base e size v' (n + m) (xs ++ news) → Keeps (fun g => v.ownBlock = some g) w w' → (v'.ownBlock = v.ownBlock ∨ v'.ownBlock = some w.heap.size) → wpList P ops Q rest (a.put o.dst v') w') : wpList P ops Q (o :: rest) a w := by
  refine wpList_plain hgd fun K hK => ?_
  obtain ⟨v', w', hrun, h2, h3, h4⟩ := run_append_from (P := P) w base t o.type e i z size bytes ht hi hz hsize hby hzs hsz v n xs hown A m c news hl hs h1 h63 hbytes hbase
  unfold Oper.wp execOp
  simp only [ho, resolve, invoke, builtin, Sem.run_bind, Sem.run_pure, Result.andThen_ok, List.map_toArray, List.map_cons, List.map_nil, hv, hx, hrun]
  exact hK _ _ (h v' w' h2 h3 h4)
end

/-! ### rows: longer, shorter, written over -/
section
variable {w w' : World} {base : Nat} {e : TypeId} {size : Nat} {g n cap : Nat} {xs : List Value}
theorem own_longer (h : w.ownsRow base e size (.slice (some ⟨g, 0, none⟩) n cap) n xs) (k : Nat) (hk : n ≤ k) (hc : k ≤ cap) : ∃ ys, ys.length = (k - n) * size ∧ w.ownsRow base e size (.slice (some ⟨g, 0, none⟩) k cap) k (xs ++ ys) := by
  rcases h.2 with ⟨hv, _⟩ | ⟨g', cap', cur, hv, hb, hgg, hnc, hcm, hcs, htake⟩
  · cases hv
  · simp only [Value.slice.injEq, Option.some.injEq, Addr.mk.injEq] at hv
    obtain ⟨⟨rfl, _⟩, _, rfl⟩ := hv
    have hle : k * size ≤ cur.size := by rw [hcs]; exact Nat.mul_le_mul_right _ hc
    have hle2 : n * size ≤ k * size := Nat.mul_le_mul_right _ hk
    refine ⟨(cur.toList.take (k * size)).drop (n * size), by rw [List.length_drop, List.length_take, Array.length_toList, Nat.min_eq_left hle, Nat.sub_mul], ?_, .inr ⟨g, cap, cur, rfl, hb, hgg, hc, hcm, hcs, ?_⟩⟩
    · rw [List.length_append, h.1, List.length_drop, List.length_take, Array.length_toList, Nat.min_eq_left hle]; omega
    · rw [← htake]
      conv => lhs; rw [← List.take_append_drop (n * size) (cur.toList.take (k * size))]
      rw [List.take_take, Nat.min_eq_left hle2]
theorem own_shorter (h : w.ownsRow base e size (.slice (some ⟨g, 0, none⟩) n cap) n xs) (k : Nat) (hk : k ≤ n) : w.ownsRow base e size (.slice (some ⟨g, 0, none⟩) k cap) k (xs.take (k * size)) := by
  have hle2 : k * size ≤ n * size := Nat.mul_le_mul_right _ hk
  rcases h.2 with ⟨hv, _⟩ | ⟨g', cap', cur, hv, hb, hgg, hnc, hcm, hcs, htake⟩
  · cases hv
  · simp only [Value.slice.injEq, Option.some.injEq, Addr.mk.injEq] at hv
    obtain ⟨⟨rfl, _⟩, _, rfl⟩ := hv
    refine ⟨by rw [List.length_take, h.1, Nat.min_eq_left hle2], .inr ⟨g, cap, cur, rfl, hb, hgg, by omega, hcm, hcs, ?_⟩⟩
    rw [← htake, List.take_take, Nat.min_eq_left hle2]

theorem take_over (L : List Value) (N o : Nat) (cs : List Value) (hN : N ≤ L.length) (h : o + cs.length ≤ N) : (L.take o ++ cs ++ L.drop (o + cs.length)).take N = (L.take N).take o ++ cs ++ (L.take N).drop (o + cs.length) := by
  have hA : (L.take o ++ cs).length = o + cs.length := by simp; omega
  rw [List.take_append, hA, List.take_of_length_le (by omega), List.take_take, Nat.min_eq_left (by omega), List.drop_take]

theorem own_range (h : w.ownsRow base e size (.slice (some ⟨g, 0, none⟩) n cap) n xs) : w.rangeAt g 0 xs := fun j u hu => by
  have := h.cells (g := g) rfl j u hu
  rwa [Addr.add_mid] at this
theorem own_lt (h : w.ownsRow base e size (.slice (some ⟨g, 0, none⟩) n cap) n xs) : g < w.heap.size := (h.lt g rfl).2
theorem range_drop {w : World} {g off k : Nat} {xs : List Value} (h : w.rangeAt g 0 xs) (hk : off = k := by rfl) : w.rangeAt g off (xs.drop k) := fun j u hu => by
  subst hk
  rw [List.getElem?_drop] at hu
  have := h (off + j) u hu
  rwa [Nat.zero_add] at this
theorem range_of_whole {w : World} {g : Nat} {cs : List Value} {t : TypeId} {fz : Nat × Nat} (h : w.heap[g]? = some (.cells cs.toArray t fz)) : w.rangeAt g 0 cs := fun j u hu => by
  rw [cell_of_row w g (0 + j) _ t fz h]
  simpa using hu
theorem own_block (h : w.ownsRow base e size (.slice (some ⟨g, 0, none⟩) n cap) n xs) : ∃ cur : Array Value, w.heap[g]? = some (.cells cur e (0, 0)) ∧ cur.size = cap * size := by
  rcases h.2 with ⟨hv, _⟩ | ⟨g', cap', cur, hv, hb, hgg, hnc, hcm, hcs, htake⟩
  · cases hv
  · simp only [Value.slice.injEq, Option.some.injEq, Addr.mk.injEq] at hv
    obtain ⟨⟨rfl, _⟩, _, rfl⟩ := hv
    exact ⟨cur, hgg, hcs⟩
theorem range_take {w : World} {g off k : Nat} {xs : List Value} (h : w.rangeAt g off xs) : w.rangeAt g off (xs.take k) := fun j u hu => by
  rw [List.getElem?_take] at hu
  split at hu
  · exact h j u hu
  · cases hu

/-- cs written over xs from place o on. -/
def over (xs : List Value) (o : Nat) (cs : List Value) : List Value := xs.take o ++ cs ++ xs.drop (o + cs.length)

theorem own_over (h : w.ownsRow base e size (.slice (some ⟨g, 0, none⟩) n cap) n xs) (o : Nat) (cs : List Value) (hfit : o + cs.length ≤ n * size) :
    ∃ cur : Array Value, w.heap[g]? = some (.cells cur e (0, 0)) ∧ o + cs.length ≤ cur.size ∧
      (w.setRow g (cur.toList.take o ++ cs ++ cur.toList.drop (o + cs.length)).toArray).ownsRow base e size (.slice (some ⟨g, 0, none⟩) n cap) n (over xs o cs) := by
  rcases h.2 with ⟨hv, _⟩ | ⟨g', cap', cur, hv, hb, hgg, hnc, hcm, hcs, htake⟩
  · cases hv
  · simp only [Value.slice.injEq, Option.some.injEq, Addr.mk.injEq] at hv
    obtain ⟨⟨rfl, _⟩, _, rfl⟩ := hv
    have hle : n * size ≤ cur.size := by rw [hcs]; exact Nat.mul_le_mul_right _ hnc
    refine ⟨cur, hgg, by omega, ?_, .inr ⟨g, cap, _, rfl, hb, setRow_heap w g cur _ e _ hgg, hnc, hcm, ?_, ?_⟩⟩
    · unfold over
      rw [List.length_append, List.length_append, List.length_take, List.length_drop, h.1]; omega
    · simp only [List.size_toArray, List.length_append, List.length_take, List.length_drop, Array.length_toList]; omega
    · have hl : xs.length = n * size := h.1
      rw [← htake]
      unfold over
      exact take_over cur.toList (n * size) o cs (by simpa using hle) hfit
theorem keeps_setRow (w : World) (g : Nat) (cs : Array Value) : Keeps (fun i => i = g) w (w.setRow g cs) := ⟨rfl, rfl, rfl, by simp [World.setRow], fun i _ hn => setRow_other w g i cs hn, Nat.le_refl _⟩
end

section
variable {P : Program} (w : World)
/-- copy into a row of one's own: all is read before anything is written. -/
theorem run_copy_over (base : Nat) (dT sT ty e : TypeId) (i : TypeInfo) (size : Nat) (ht : P.underlying dT = some (.slice e)) (hi : P.info? e = some i) (hsize : i.size = size)
    (g n cap : Nat) (xs : List Value) (hown : w.ownsRow base e size (.slice (some ⟨g, 0, none⟩) n cap) n xs) (off dLen dCap : Nat) (A : Option Addr) (sLen sCap : Nat) (cs : List Value)
    (hn : cs.length = Nat.min sLen dLen * size) (hs : Src w A cs) (h1 : ∀ u ∈ cs, u.oneCell' = true) (hfit : off + cs.length ≤ n * size) (hA : A = none → sLen = 0) :
    ∃ w', (Builtin.copy_ #[dT, sT] ty #[.slice (some ⟨g, off, none⟩) dLen dCap, .slice A sLen sCap]).run P w = .ok (goInt (Nat.min sLen dLen)) w' ∧
      w'.ownsRow base e size (.slice (some ⟨g, 0, none⟩) n cap) n (over xs off cs) ∧ Keeps (fun i => i = g) w w' := by
  subst hsize
  cases A with
  | none =>
    have h0 := hA rfl
    subst h0
    have hc : cs = [] := List.eq_nil_of_length_eq_zero (by simpa using hn)
    subst hc
    refine ⟨w, ?_, by simpa [over] using hown, Keeps.refl _ _⟩
    simp [Builtin.copy_, run_underlying ht, sizeOf, typeInfo, hi, Builtin.lenOf, Builtin.firstCells, storeCells]
  | some ad =>
    have hsrc : ∀ j v, cs[j]? = some v → w.cell? (ad.add j) = some v := by
      intro j u hu
      rcases hs with rfl | ⟨g, off, hA, hr⟩
      · simp at hu
      · injection hA with hA
        subst hA
        rw [Addr.add_mid]
        exact hr j u hu
    obtain ⟨cur, hg, hle, how⟩ := own_over hown off cs hfit
    have hl := run_loadCells_list (P := P) w ad cs hsrc
    have hst := run_storeCells_at P g off e cs 0 cur w hg (by simpa using hle) h1
    refine ⟨_, ?_, how, keeps_setRow _ _ _⟩
    simp only [Nat.add_zero] at hst
    simp [Builtin.copy_, run_underlying ht, Builtin.lenOf, Builtin.firstCells, sizeOf, typeInfo, hi, ← hn, hl, hst]

theorem valTo_copy {o : Oper} {a : Act} {K : Value → World → Prop} {d x : Operand} {dT sT : TypeId} (ho : o.op = .call { callee := .builtin .copy, args := #[d, x], argTypes := #[dT, sT] })
    (base : Nat) (e : TypeId) (i : TypeInfo) (size : Nat) (ht : P.underlying dT = some (.slice e)) (hi : P.info? e = some i) (hsize : i.size = size)
    (g n cap : Nat) (xs : List Value) (hown : w.ownsRow base e size (.slice (some ⟨g, 0, none⟩) n cap) n xs) (off dLen dCap : Nat) (A : Option Addr) (sLen sCap : Nat) (cs : List Value)
    (hd : a.eval d = .slice (some ⟨g, off, none⟩) dLen dCap) (hx : a.eval x = .slice A sLen sCap)
    (hn : cs.length = Nat.min sLen dLen * size) (hs : Src w A cs) (h1 : ∀ u ∈ cs, u.oneCell' = true) (hfit : off + cs.length ≤ n * size) (hA : A = none → sLen = 0)
    (h : ∀ w', w'.ownsRow base e size (.slice (some ⟨g, 0, none⟩) n cap) n (over xs off cs) → Keeps (fun i => i = g) w w' → K (goInt (Nat.min sLen dLen)) w') : valTo K ((execOp a.eval o).run P w) := by
  obtain ⟨w', hrun, h2, h3⟩ := run_copy_over (P := P) w base dT sT o.type e i size ht hi hsize g n cap xs hown off dLen dCap A sLen sCap cs hn hs h1 hfit hA
  unfold execOp
  simp only [ho, resolve, invoke, builtin, Sem.run_bind, Sem.run_pure, Result.andThen_ok, List.map_toArray, List.map_cons, List.map_nil, hd, hx, hrun]
  exact h w' h2 h3
theorem wpList_copy {ops : Array Oper} {rest : List Oper} {o : Oper} {a : Act} {Q : Exit → Act → World → Prop} (hgd : o.guard = none) {d x : Operand} {dT sT : TypeId} (ho : o.op = .call { callee := .builtin .copy, args := #[d, x], argTypes := #[dT, sT] })
    (base : Nat) (e : TypeId) (i : TypeInfo) (size : Nat) (ht : P.underlying dT = some (.slice e)) (hi : P.info? e = some i) (hsize : i.size = size)
    (g n cap : Nat) (xs : List Value) (hown : w.ownsRow base e size (.slice (some ⟨g, 0, none⟩) n cap) n xs) (off dLen dCap : Nat) (A : Option Addr) (sLen sCap : Nat) (cs : List Value)
    (hd : a.eval d = .slice (some ⟨g, off, none⟩) dLen dCap) (hx : a.eval x = .slice A sLen sCap)
    (hn : cs.length = Nat.min sLen dLen * size) (hs : Src w A cs) (h1 : ∀ u ∈ cs, u.oneCell' = true) (hfit : off + cs.length ≤ n * size) (hA : A = none → sLen = 0)
    (h : ∀ w', w'.ownsRow base e size (.slice (some ⟨g, 0, none⟩) n cap) n (over xs off cs) → Keeps (fun i => i = g) w w' → wpList P ops Q rest (a.put o.dst (goInt (Nat.min sLen dLen))) w') : wpList P ops Q (o :: rest) a w := by
  refine wpList_plain hgd fun K hK => ?_
  obtain ⟨w', hrun, h2, h3⟩ := run_copy_over (P := P) w base dT sT o.type e i size ht hi hsize g n cap xs hown off dLen dCap A sLen sCap cs hn hs h1 hfit hA
  unfold Oper.wp execOp
  simp only [ho, resolve, invoke, builtin, Sem.run_bind, Sem.run_pure, Result.andThen_ok, List.map_toArray, List.map_cons, List.map_nil, hd, hx, hrun]
  exact hK _ _ (h w' h2 h3)

/-- append(s[:k], make(S, m)...) where a new row is wanted. -/
theorem run_append_zeros (base : Nat) (t ti ty e : TypeId) (i : TypeInfo) (z : Value) (size bytes : Nat) (ht : P.underlying t = some (.slice e)) (hti : P.underlying ti = some (.int .i64)) (hi : P.info? e = some i) (hz : i.zero = some z)
    (hsize : i.size = size) (hby : i.bytes = bytes) (hzs : z.cells.size = size) (hsz : 0 < size)
    (g n cap : Nat) (xs : List Value) (hown : w.ownsRow base e size (.slice (some ⟨g, 0, none⟩) n cap) n xs) (m : Nat) (hgrow : cap < n + m)
    (h63 : n + m ≤ maxLen) (hbytes : (n + m) * bytes ≤ 140737488355328) (hbase : base ≤ w.heap.size) :
    ∃ cap' w' zs, (Builtin.append_ #[t, ti] ty #[.slice (some ⟨g, 0, none⟩) n cap, .int .i64 m]).run P w = .ok (.slice (some ⟨w.heap.size, 0, none⟩) (n + m) cap') w' ∧ zs.length = m * size ∧
      w'.ownsRow base e size (.slice (some ⟨w.heap.size, 0, none⟩) (n + m) cap') (n + m) (xs ++ zs) ∧ Ext w w' := by
  subst hsize
  subst hby
  have hm0 : 0 < m := by
    rcases hown.2 with ⟨hv, _⟩ | ⟨g', cap', cur, hv, hb, hgg, hnc, hcm, hcs, htake⟩
    · cases hv
    · simp only [Value.slice.injEq] at hv; omega
  have hn : ¬ (n + m ≤ cap) := by omega
  have h63' : ¬ (9223372036854775807 < ((n : Int) + (m : Int))) := by simp only [maxLen] at h63; omega
  have hfit := growslice_fits (need := n + m) (old := cap) (bytes := i.bytes) (by omega) hbytes
  have h48' : ¬ (281474976710656 < Builtin.nextslicecap (n + m) cap * i.bytes) := by omega
  have hmb : m * i.bytes ≤ 140737488355328 := Nat.le_trans (Nat.mul_le_mul_right _ (by omega)) hbytes
  have hmb' : ¬ ((281474976710656 : Int) < (m : Int) * (i.bytes : Int)) := by
    have : ((m * i.bytes : Nat) : Int) ≤ 140737488355328 := by omega
    rw [Int.natCast_mul] at this
    omega
  have hw : IntKind.i64.wrap (m : Int) = m := by
    have : (m : Int) ≤ 9223372036854775807 := by omega
    rw [IntKind.wrap_i64]; omega
  have hneg : ¬ ((m : Int) < 0) := by omega
  have hmax : max (m : Int) 0 = m := by omega
  have holds := hown.cells (g := g) rfl
  have hfo := run_firstCells_some (P := P) w.drew i.size n ⟨g, 0, none⟩ n cap xs hown.1 (by simpa using holds)
  have hms : ¬ (m * i.size = 0) := by
    have := Nat.mul_pos hm0 hsz; omega
  refine ⟨grownCap w (n + m) cap e, w.drew.alloc (.cells (xs.toArray ++ Builtin.zeroCells z.cells m ++ Builtin.zeroCells z.cells (grownCap w (n + m) cap e - (n + m))) e), (Builtin.zeroCells z.cells m).toList, ?_, by simp [size_zeroCells, hzs], ⟨?_, .inr ⟨w.heap.size, _, _, rfl, hbase, heap_alloc_new w.drew _, grownCap_ge _ _ _ _, grownCap_le_maxLen _ _ _ _ h63, ?_, ?_⟩⟩, ?_⟩
  · simp [Builtin.append_, run_underlying ht, run_underlying hti, sizeOf, typeInfo, zeroValue, hi, hz, asInt, asIntOf, hw, hmb', hn, h63', h48', Question.forced, hfo, newRow, grownCap, hms, hneg, hmax]
  · rw [List.length_append, hown.1, Array.length_toList, size_zeroCells, hzs, Nat.add_mul]
  · have hge := grownCap_ge w (n + m) cap e
    simp only [Array.size_append, List.size_toArray, size_zeroCells, hzs, hown.1, ← Nat.add_mul]
    congr 1
    omega
  · have hl : (xs ++ (Builtin.zeroCells z.cells m).toList).length = (n + m) * i.size := by rw [List.length_append, hown.1, Array.length_toList, size_zeroCells, hzs, Nat.add_mul]
    simp only [Array.toList_append]
    rw [← hl]
    exact List.take_left
  · exact (Ext.drew_ w).tr (Ext.new _ _)

theorem wpList_append_zeros {ops : Array Oper} {rest : List Oper} {o : Oper} {a : Act} {Q : Exit → Act → World → Prop} (hgd : o.guard = none) {x y : Operand} {t ti : TypeId} (ho : o.op = .call { callee := .builtin .append, args := #[x, y], argTypes := #[t, ti] })
    (base : Nat) (e : TypeId) (i : TypeInfo) (z : Value) (size bytes : Nat) (ht : P.underlying t = some (.slice e)) (hti : P.underlying ti = some (.int .i64)) (hi : P.info? e = some i) (hz : i.zero = some z)
    (hsize : i.size = size) (hby : i.bytes = bytes) (hzs : z.cells.size = size) (hsz : 0 < size)
    (g n cap : Nat) (xs : List Value) (hx : a.eval x = .slice (some ⟨g, 0, none⟩) n cap) (hown : w.ownsRow base e size (.slice (some ⟨g, 0, none⟩) n cap) n xs) (m : Nat) (mi : Int) (hy : a.eval y = .int .i64 mi) (hmi : mi = m) (hgrow : cap < n + m)
    (h63 : n + m ≤ maxLen) (hbytes : (n + m) * bytes ≤ 140737488355328) (hbase : base ≤ w.heap.size)
    (h : ∀ cap' w' zs, zs.length = m * size → w'.ownsRow base e size (.slice (some ⟨w.heap.size, 0, none⟩) (n + m) cap') (n + m) (xs ++ zs) → Ext w w' → wpList P ops Q rest (a.put o.dst (.slice (some ⟨w.heap.size, 0, none⟩) (n + m) cap')) w') : wpList P ops Q (o :: rest) a w := by
  subst hmi
  refine wpList_plain hgd fun K hK => ?_
  obtain ⟨cap', w', zs, hrun, h2, h3, h4⟩ := run_append_zeros (P := P) w base t ti o.type e i z size bytes ht hti hi hz hsize hby hzs hsz g n cap xs hown m hgrow h63 hbytes hbase
  unfold Oper.wp execOp
  simp only [ho, resolve, invoke, builtin, Sem.run_bind, Sem.run_pure, Result.andThen_ok, List.map_toArray, List.map_cons, List.map_nil, hx, hy, hrun]
  exact hK _ _ (h cap' w' zs h2 h3 h4)

/-- clear of a part of a row of one's own. -/
theorem run_clear_over (base : Nat) (t ty e : TypeId) (i : TypeInfo) (z : Value) (size : Nat) (ht : P.underlying t = some (.slice e)) (hi : P.info? e = some i) (hz : i.zero = some z) (hzs : z.cells.size = size) (h1 : ∀ u ∈ z.cells, u.oneCell' = true)
    (g n cap : Nat) (xs : List Value) (hown : w.ownsRow base e size (.slice (some ⟨g, 0, none⟩) n cap) n xs) (off q c : Nat) (hfit : off + q * size ≤ n * size) :
    ∃ w' zs, (Builtin.clear_ #[t] ty #[.slice (some ⟨g, off, none⟩) q c]).run P w = .ok (.tuple #[]) w' ∧ zs.length = q * size ∧
      w'.ownsRow base e size (.slice (some ⟨g, 0, none⟩) n cap) n (over xs off zs) ∧ Keeps (fun i => i = g) w w' := by
  cases q with
  | zero =>
    refine ⟨w, [], ?_, by simp, by simpa [over] using hown, Keeps.refl _ _⟩
    simp [Builtin.clear_, run_underlying ht]
  | succ q =>
    have hl : (Builtin.zeroCells z.cells (q + 1)).toList.length = (q + 1) * size := by rw [Array.length_toList, size_zeroCells, hzs]
    have hone : ∀ u ∈ (Builtin.zeroCells z.cells (q + 1)).toList, u.oneCell' = true := by
      intro u hu
      simp only [Builtin.zeroCells, Array.toList_map, List.mem_map, Array.mem_toList_iff, Array.mem_range] at hu
      obtain ⟨k, hk, rfl⟩ := hu
      have hpos : 0 < z.cells.size := by
        rcases Nat.eq_zero_or_pos z.cells.size with h | h
        · rw [h] at hk; simp at hk
        · exact h
      have hlt : k % z.cells.size < z.cells.size := Nat.mod_lt _ hpos
      rw [getElem!_pos z.cells _ hlt]
      exact h1 _ (Array.getElem_mem hlt)
    obtain ⟨cur, hg, hle, how⟩ := own_over hown off (Builtin.zeroCells z.cells (q + 1)).toList (by rw [hl]; exact hfit)
    have hst := run_storeCells_at P g off e (Builtin.zeroCells z.cells (q + 1)).toList 0 cur w hg (by simpa using hle) hone
    refine ⟨_, _, ?_, hl, how, keeps_setRow _ _ _⟩
    simp only [Nat.add_zero] at hst
    simp [Builtin.clear_, run_underlying ht, zeroValue, typeInfo, hi, hz, hst]
theorem wpList_clear {ops : Array Oper} {rest : List Oper} {o : Oper} {a : Act} {Q : Exit → Act → World → Prop} (hgd : o.guard = none) {x : Operand} {t : TypeId} (ho : o.op = .call { callee := .builtin .clear, args := #[x], argTypes := #[t] })
    (base : Nat) (e : TypeId) (i : TypeInfo) (z : Value) (size : Nat) (ht : P.underlying t = some (.slice e)) (hi : P.info? e = some i) (hz : i.zero = some z) (hzs : z.cells.size = size) (h1 : ∀ u ∈ z.cells, u.oneCell' = true)
    (g n cap : Nat) (xs : List Value) (hown : w.ownsRow base e size (.slice (some ⟨g, 0, none⟩) n cap) n xs) (off q c : Nat) (hx : a.eval x = .slice (some ⟨g, off, none⟩) q c) (hfit : off + q * size ≤ n * size)
    (h : ∀ w' zs, zs.length = q * size → w'.ownsRow base e size (.slice (some ⟨g, 0, none⟩) n cap) n (over xs off zs) → Keeps (fun i => i = g) w w' → wpList P ops Q rest (a.put o.dst (.tuple #[])) w') : wpList P ops Q (o :: rest) a w := by
  refine wpList_plain hgd fun K hK => ?_
  obtain ⟨w', zs, hrun, h2, h3, h4⟩ := run_clear_over (P := P) w base t o.type e i z size ht hi hz hzs h1 g n cap xs hown off q c hfit
  unfold Oper.wp execOp
  simp only [ho, resolve, invoke, builtin, Sem.run_bind, Sem.run_pure, Result.andThen_ok, List.map_toArray, List.map_cons, List.map_nil, hx, hrun]
  exact hK _ _ (h w' zs h2 h3 h4)

/-- append where there is room: in place. -/
theorem valTo_append_room {o : Oper} {a : Act} {K : Value → World → Prop} {s x : Operand} {t : TypeId} (ho : o.op = .call { callee := .builtin .append, args := #[s, x], argTypes := #[t, t] })
    (base : Nat) (e : TypeId) (i : TypeInfo) (size : Nat) (ht : P.underlying t = some (.slice e)) (hi : P.info? e = some i) (hsize : i.size = size)
    (g n cap : Nat) (xs : List Value) (hv : a.eval s = .slice (some ⟨g, 0, none⟩) n cap) (hown : w.ownsRow base e size (.slice (some ⟨g, 0, none⟩) n cap) n xs)
    (A : Option Addr) (m c : Nat) (news : List Value) (hx : a.eval x = .slice A m c) (hl : news.length = m * size) (hs : Src w A news) (h1 : ∀ u ∈ news, u.oneCell' = true) (hsz : 0 < size) (hroom : n + m ≤ cap)
    (h : ∀ w', w'.ownsRow base e size (.slice (some ⟨g, 0, none⟩) (n + m) cap) (n + m) (xs ++ news) → Keeps (fun b => b = g) w w' → K (.slice (some ⟨g, 0, none⟩) (n + m) cap) w') : valTo K ((execOp a.eval o).run P w) := by
  subst hsize
  obtain ⟨cur, hg, hcs⟩ := own_block hown
  have hrun : ∃ w', (Builtin.append_ #[t, t] o.type #[.slice (some ⟨g, 0, none⟩) n cap, .slice A m c]).run P w = .ok (.slice (some ⟨g, 0, none⟩) (n + m) cap) w' ∧
      w'.ownsRow base e i.size (.slice (some ⟨g, 0, none⟩) (n + m) cap) (n + m) (xs ++ news) ∧ Keeps (fun b => b = g) w w' := by
    cases A with
    | none =>
      have hn : news = [] := by
        rcases hs with h | ⟨g, off, h, _⟩
        · exact h
        · cases h
      subst hn
      have hm : m = 0 := by
        rcases Nat.eq_zero_or_pos m with h | h
        · exact h
        · have : 0 < m * i.size := Nat.mul_pos h hsz
          simp at hl; omega
      subst hm
      refine ⟨w, ?_, by simpa using hown, Keeps.refl _ _⟩
      simp only [Nat.add_zero] at hroom
      simp [Builtin.append_, run_underlying ht, sizeOf, typeInfo, hi, Builtin.lenOf, Builtin.firstCells, hroom, storeCells]
    | some ad =>
      have hc : ∀ j u, news[j]? = some u → w.cell? (ad.add j) = some u := by
        intro j u hu
        rcases hs with rfl | ⟨g, off, hA, hr⟩
        · simp at hu
        · injection hA with hA
          subst hA
          rw [Addr.add_mid]
          exact hr j u hu
      obtain ⟨ys, hyl, hlong⟩ := own_longer hown (n + m) (by omega) hroom
      have hfit : n * i.size + news.length ≤ cur.size := by rw [hl, hcs, ← Nat.add_mul]; exact Nat.mul_le_mul_right _ hroom
      have hr := run_append_room (P := P) w t o.type e i ht hi g n cap cur hg ad m c news hl hc h1 hroom hfit
      obtain ⟨cur2, hg2, _, how⟩ := own_over hlong (n * i.size) news (by rw [hl, ← Nat.add_mul]; exact Nat.le_refl _)
      rw [hg] at hg2
      injection hg2 with hg2
      injection hg2 with hg2
      subst hg2
      refine ⟨_, hr, ?_, keeps_setRow _ _ _⟩
      have e1 : over (xs ++ ys) (n * i.size) news = xs ++ news := by
        unfold over
        have hx1 : n * i.size = xs.length := hown.1.symm
        rw [hx1, List.take_left, List.drop_of_length_le (by rw [List.length_append, hyl, hl]; have : n + m - n = m := by omega
                                                            rw [this]; exact Nat.le_refl _), List.append_nil]
      rw [← e1]
      exact how
  obtain ⟨w', hr, h2, h3⟩ := hrun
  unfold execOp
  simp only [ho, resolve, invoke, builtin, Sem.run_bind, Sem.run_pure, Result.andThen_ok, List.map_toArray, List.map_cons, List.map_nil, hv, hx, hr]
  exact h w' h2 h3
end

/-! ### a struct stored into a row -/
theorem over_cons (xs : List Value) (o : Nat) (v : Value) (r : List Value) (h : o + (r.length + 1) ≤ xs.length) : over (xs.set o v) (o + 1) r = over xs o (v :: r) := by
  unfold over
  have h1 : (xs.set o v).take (o + 1) = xs.take o ++ [v] := by
    rw [List.take_succ_eq_append_getElem (by simp; omega), List.getElem_set_self, List.take_set_of_le (Nat.le_refl _)]
  have h2 : (xs.set o v).drop (o + 1 + r.length) = xs.drop (o + (v :: r).length) := by
    rw [List.drop_set_of_lt (by omega)]
    congr 1
    simp; omega
  rw [h1, h2]
  simp
theorem own_setCells {base : Nat} {e : TypeId} {size g n cap : Nat} : ∀ (cs : List Value) (o : Nat) (w : World) (xs : List Value), w.ownsRow base e size (.slice (some ⟨g, 0, none⟩) n cap) n xs → o + cs.length ≤ n * size →
    (w.setCells g o cs).ownsRow base e size (.slice (some ⟨g, 0, none⟩) n cap) n (over xs o cs)
  | [], o, w, xs, h, _ => by simpa [World.setCells, over] using h
  | v :: r, o, w, xs, h, hf => by
    have hl := h.1
    have h1 := own_setCells r (o + 1) (w.setCell ⟨g, o, none⟩ v) (xs.set o v) (h.stored o v).1 (by simp at hf; omega)
    rw [over_cons xs o v r (by simp at hf; omega)] at h1
    exact h1
theorem keeps_setCells (g : Nat) : ∀ (cs : List Value) (o : Nat) (w : World), Keeps (fun i => i = g) w (w.setCells g o cs)
  | [], _, _ => Keeps.refl _ _
  | v :: r, o, w => (Keeps.setCell w ⟨g, o, none⟩ v).seq (keeps_setCells g r (o + 1) _)
theorem own_there {w : World} {base : Nat} {e : TypeId} {size g n cap : Nat} {xs : List Value} (h : w.ownsRow base e size (.slice (some ⟨g, 0, none⟩) n cap) n xs) (o k : Nat) (hf : o + k ≤ n * size) : w.there g o k := fun j hj => by
  refine ⟨?_, h.frozenAt _⟩
  rw [h.cellAt (o + j) (by omega), List.getElem?_eq_getElem (by rw [h.1]; omega)]
  rfl
end Go.Mem
