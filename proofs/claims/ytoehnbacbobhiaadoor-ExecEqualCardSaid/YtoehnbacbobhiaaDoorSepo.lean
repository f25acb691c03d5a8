/- The operations in the logic of slots and chunks. Own text. -/
import Derived.Test.YtoehnbacbobhiaaDoorSep
import Derived.Great.BuildSlice
namespace Go.Sep
open Go.RowKit Go.Flow Go.Mem

/-! ### chunks of memory -/
theorem own_keeps' {w w' : World} {base : Nat} {e : TypeId} {size : Nat} {v : Value} {n : Nat} {xs : List Value} (h : w.ownsRow base e size v n xs) (k : ∀ g, v.ownBlock = some g → w'.heap[g]? = w.heap[g]?) : w'.ownsRow base e size v n xs := by
  refine ⟨h.1, ?_⟩
  rcases h.2 with hn | ⟨g, cap, cur, hv, hb, hgg, rest⟩
  · exact .inl hn
  · exact .inr ⟨g, cap, cur, hv, hb, (k g (by rw [hv]; rfl)).trans hgg, rest⟩
def box (b : Nat) (cs : List Value) (t : TypeId) : Chunk where
  owns := [b]
  reads := []
  holds w := w.heap[b]? = some (.cells cs.toArray t (0, 0))
  loc w w' h hw := by rw [h b (.inl (by simp))]; exact hw
  lt w hw g hg := by
    simp only [List.mem_singleton, List.not_mem_nil, or_false] at hg
    subst hg
    exact lt_of_block hw
def blks (A : Option Addr) : List Nat := (A.map Addr.block).toList
theorem mem_blks {A : Option Addr} {g : Nat} : g ∈ blks A ↔ ∃ a, A = some a ∧ a.block = g := by
  cases A <;> simp [blks, eq_comm]
/-- A row of one's own: a slice from its block's head. -/
def row (e : TypeId) (size : Nat) (A : Option Addr) (n cap : Nat) (xs : List Value) : Chunk where
  owns := blks A
  reads := []
  holds w := w.ownsRow 0 e size (.slice A n cap) n xs
  loc w w' h hw := by
    refine own_keeps' hw fun g hg => ?_
    refine h g (.inl ?_)
    cases A with
    | none => simp [Value.ownBlock] at hg
    | some a => simp [Value.ownBlock] at hg; simp [blks, hg]
  lt w hw g hg := by
    simp only [List.not_mem_nil, or_false] at hg
    obtain ⟨a, rfl, rfl⟩ := mem_blks.1 hg
    exact (hw.lt _ rfl).2
def rblks (A : Option Addr) : List Value → List Nat
  | [] => []
  | _ :: _ => blks A
/-- What only is read. -/
def ro (A : Option Addr) (xs : List Value) : Chunk where
  owns := []
  reads := rblks A xs
  holds w := Src w A xs
  loc w w' h hw := by
    rcases hw with rfl | ⟨g, off, rfl, hr⟩
    · exact .inl rfl
    · cases xs with
      | nil => exact .inl rfl
      | cons x xs =>
        refine .inr ⟨g, off, rfl, fun j v hv => ?_⟩
        have := hr j v hv
        simp only [World.cell?] at this ⊢
        rw [h g (.inr (by simp [rblks, blks]))]; exact this
  lt w hw g hg := by
    simp only [List.not_mem_nil, false_or] at hg
    rcases hw with rfl | ⟨g', off, rfl, hr⟩
    · simp [rblks] at hg
    · cases xs with
      | nil => simp [rblks] at hg
      | cons x xs =>
        simp [rblks, blks] at hg
        subst hg
        exact World.block_lt_of_cell? w ⟨g, off + 0, none⟩ (hr 0 x rfl)

/-! ### what a chunk gives, and takes -/
def Chunk.gives (c : Chunk) (b off : Nat) (us : List Value) : Prop := ∀ w, c.holds w → w.rangeAt b off us
/-- A chunk turns into another by a store. -/
def Chunk.takes (c : Chunk) (b off : Nat) (us : List Value) (c' : Chunk) : Prop := ∀ w, c.holds w → w.there b off us.length ∧ c'.holds (w.setCells b off us) ∧ (b ∈ c.owns) ∧ c'.owns = c.owns ∧ c'.reads = c.reads
def blk (A : Option Addr) : Nat := (A.getD ⟨0, 0, none⟩).block
def ofs (A : Option Addr) : Nat := (A.getD ⟨0, 0, none⟩).off
/-- n of the cells from o on. -/
def sub (xs : List Value) (o n : Nat) : List Value := (xs.drop o).take n
theorem range_sub {w : World} {g off o n : Nat} {xs us : List Value} (h : w.rangeAt g off xs) (hu : sub xs o n = us) : w.rangeAt g (off + o) us := fun j v hv => by
  rw [← hu, sub] at hv
  have h1 : (xs.drop o)[j]? = some v := by
    rw [List.getElem?_take] at hv
    split at hv
    · exact hv
    · cases hv
  rw [List.getElem?_drop] at h1
  rw [Nat.add_assoc]; exact h _ _ h1
theorem box_gives {b o n : Nat} {cs us : List Value} {t : TypeId} (hu : sub cs o n = us) : (box b cs t).gives b o us := fun w hw => by
  have := range_sub (range_of_whole hw) hu
  rwa [Nat.zero_add] at this
theorem box_gives1 {b o : Nat} {cs : List Value} {u : Value} {t : TypeId} (hu : cs[o]? = some u) : (box b cs t).gives b o [u] := box_gives (n := 1) (by
  unfold sub
  have hlt : o < cs.length := (List.getElem?_eq_some_iff.1 hu).1
  rw [List.drop_eq_getElem_cons hlt, (List.getElem?_eq_some_iff.1 hu).2]; rfl)
theorem own_some {w : World} {e : TypeId} {size : Nat} {A : Option Addr} {n cap : Nat} {xs : List Value} (h : w.ownsRow 0 e size (.slice A n cap) n xs) (hn : 0 < n) : A = some ⟨blk A, 0, none⟩ := by
  rcases h.2 with ⟨_, h2⟩ | ⟨g, cap', cur, hv, _⟩
  · omega
  · simp only [Value.slice.injEq] at hv; rw [hv.1]; rfl
theorem own_some' {w : World} {e : TypeId} {size : Nat} {A : Option Addr} {n cap : Nat} {xs : List Value} (h : w.ownsRow 0 e size (.slice A n cap) n xs) {us : List Value} {o k : Nat} (hu : sub xs o k = us) (hus : us ≠ []) : A = some ⟨blk A, 0, none⟩ := by
  refine own_some h ?_
  rcases Nat.eq_zero_or_pos n with hn | hn
  · have h0 := h.1
    rw [hn, Nat.zero_mul] at h0
    have : xs = [] := List.length_eq_zero_iff.1 h0
    rw [this] at hu
    simp [sub] at hu
    exact (hus hu).elim
  · exact hn
theorem row_gives {e : TypeId} {size : Nat} {A : Option Addr} {n cap o k : Nat} {xs us : List Value} (hu : sub xs o k = us) : (row e size A n cap xs).gives (blk A) (ofs A + o) us := fun w hw => by
  cases us with
  | nil => exact fun j v hv => by simp at hv
  | cons u us =>
    have e1 := own_some' hw hu (by simp)
    have hw' : w.ownsRow 0 e size (.slice (some ⟨blk A, 0, none⟩) n cap) n xs := by rw [← e1]; exact hw
    have : ofs A = 0 := by rw [e1]; rfl
    rw [this]
    exact range_sub (own_range hw') hu
theorem ro_gives {A : Option Addr} {o k : Nat} {xs us : List Value} (hu : sub xs o k = us) : (ro A xs).gives (blk A) (ofs A + o) us := fun w hw => by
  rcases hw with rfl | ⟨g, off, rfl, hr⟩
  · simp [sub] at hu; subst hu; exact fun j v hv => by simp at hv
  · exact range_sub hr hu
theorem sub1 {xs : List Value} {o : Nat} {u : Value} (hu : xs[o]? = some u) : sub xs o 1 = [u] := by
  unfold sub
  have hlt : o < xs.length := (List.getElem?_eq_some_iff.1 hu).1
  rw [List.drop_eq_getElem_cons hlt, (List.getElem?_eq_some_iff.1 hu).2]; rfl
/-- A list of parts of one size each. -/
theorem sub_flat {α : Type} {enc : α → List Value} {size : Nat} (hs : ∀ x, (enc x).length = size) : ∀ {l : List α} {j : Nat} {y : α}, l[j]? = some y → sub (l.flatMap enc) (j * size) size = enc y
  | [], j, y, h => by simp at h
  | x :: l, 0, y, h => by
    simp only [List.getElem?_cons_zero, Option.some.injEq] at h
    subst h
    unfold sub
    rw [Nat.zero_mul, List.drop_zero, List.flatMap_cons, ← hs x, List.take_left]
  | x :: l, j + 1, y, h => by
    rw [List.getElem?_cons_succ] at h
    have := sub_flat hs h
    unfold sub at this ⊢
    have e1 : (j + 1) * size - (enc x).length = j * size := by rw [hs x, Nat.add_mul, Nat.one_mul]; omega
    rw [List.flatMap_cons, List.drop_append, List.drop_of_length_le (by rw [hs x, Nat.add_mul, Nat.one_mul]; omega), List.nil_append, e1]
    exact this

/-! ### operations -/
def oks (Γ : List Chunk) (w : World) : Prop := ∀ c ∈ Γ, c.holds w
def Rd (P : Program) (o : Oper) (ρ : Slots) (Γ : List Chunk) (v : Value) : Prop := ∀ a w, Sees ρ a → oks Γ w → (execOp a.eval o).run P w = .ok (.value v) w
def Up (P : Program) (o : Oper) (ρ : Slots) (Γ Γ' : List Chunk) : Prop := ∀ a w, Sees ρ a → sat Γ w → ∃ w', (execOp a.eval o).run P w = .ok .skip w' ∧ Post Γ Γ' w w'
def Mk (P : Program) (o : Oper) (ρ : Slots) (Γ : List Chunk) (R : Value → List Chunk → Prop) : Prop := ∀ a w, Sees ρ a → oks Γ w → ∃ v N w', (execOp a.eval o).run P w = .ok (.value v) w' ∧ R v N ∧ Post [] N w w'
def Ge (P : Program) (o : Oper) (ρ : Slots) (Γ : List Chunk) (R : Value → List Chunk → Prop) : Prop := ∀ a w, Sees ρ a → sat Γ w → ∃ v Γ' w', (execOp a.eval o).run P w = .ok (.value v) w' ∧ R v Γ' ∧ Post Γ Γ' w w'
/-- A call: which function is entered, with what. -/
def Ent (P : Program) (o : Oper) (ρ : Slots) (f : FuncId) (vs : List Value) : Prop := ∀ a w, Sees ρ a → (execOp a.eval o).run P w = .ok (.enter f vs.toArray) w
/-- The guard of an operation, as the slots tell it. -/
def grd (ops : Array Oper) (ρ : Slots) (o : Oper) : Option Bool :=
  match o.guard with
  | none => some true
  | some (j, s) => match ((ops[j]?).bind (·.dst)).bind (look ρ) with
    | some v => match v with
      | .bool b => some (b == s)
      | _ => some false
    | none => none
def boolOf : Value → Option Bool
  | .bool b => some b
  | _ => none
theorem grd_wanted {ops : Array Oper} {ρ : Slots} {o : Oper} {t : Bool} (h : grd ops ρ o = some t) {a : Act} (ha : Sees ρ a) : Region.wanted o (yielded ops a.tmps) = t := by
  unfold grd at h
  unfold Region.wanted
  cases hg : o.guard with
  | none => rw [hg] at h; simpa using h
  | some js =>
    obtain ⟨j, s⟩ := js
    rw [hg] at h
    simp only at h ⊢
    cases hd : (ops[j]?).bind (·.dst) with
    | none => rw [hd] at h; simp at h
    | some d =>
      rw [hd] at h
      simp only [Option.bind_some] at h
      cases hl : look ρ d with
      | none => rw [hl] at h; simp at h
      | some v =>
        rw [hl] at h
        have hy : yielded ops a.tmps j = boolOf v := by
          unfold yielded
          rw [hd]
          simp only [Option.bind_some, ha d _ hl]
          cases v <;> rfl
        rw [hy]
        cases v with
        | bool b =>
          simp only [Option.some.injEq] at h
          subst h
          cases b <;> cases s <;> rfl
        | _ => simp only [Option.some.injEq] at h; subst h; rfl
section walk
variable {P : Program} {o : Oper} {ρ : Slots} {Γ Γ' : List Chunk} {C : Cx} {ops : Array Oper} {Q : Exit → Act → World → Prop} {rest : List Oper} {v : Value} {d : Nat}
theorem wp_of_run {a : Act} {w w' : World} {v : Value} (hg : Region.wanted o (yielded ops a.tmps) = true) (hr : (execOp a.eval o).run P w = .ok (.value v) w') (k : wpList P ops Q rest (a.put o.dst v) w') : wpList P ops Q (o :: rest) a w := by
  refine wpList_step fun K hK => ?_
  rw [if_pos hg]
  unfold Oper.wp
  rw [hr]
  exact hK _ _ k
theorem wp_of_skip {a : Act} {w w' : World} (hg : Region.wanted o (yielded ops a.tmps) = true) (hr : (execOp a.eval o).run P w = .ok .skip w') (k : wpList P ops Q rest (a.put o.dst undef) w') : wpList P ops Q (o :: rest) a w := by
  refine wpList_step fun K hK => ?_
  rw [if_pos hg]
  unfold Oper.wp
  rw [hr]
  exact hK _ _ k
theorem To.rd (hg : grd ops ρ o = some true) (hd : o.dst = some d) (hn : Nat.blt d C.n = true) (h : Rd P o ρ Γ v) (k : To C ((d, v) :: ρ) Γ (wpList P ops Q rest)) : To C ρ Γ (wpList P ops Q (o :: rest)) :=
  fun a w ha hp => wp_of_run (grd_wanted hg ha.sees) (h a w ha.sees hp.sat.each) (by rw [hd]; exact k _ w (ha.put hn) hp)
/-- An operation that its guard bars. -/
theorem To.sk (hg : grd ops ρ o = some false) (hd : o.dst = some d) (hn : Nat.blt d C.n = true) (k : To C ((d, undef) :: ρ) Γ (wpList P ops Q rest)) : To C ρ Γ (wpList P ops Q (o :: rest)) :=
  fun a w ha hp => by
    refine wpList_step fun K hK => ?_
    rw [if_neg (by rw [grd_wanted hg ha.sees]; simp), hd]
    exact hK _ _ (k _ w (ha.put hn) hp)
theorem To.up (hg : grd ops ρ o = some true) (hd : o.dst = none) (h : Up P o ρ Γ Γ') (k : To C ρ Γ' (wpList P ops Q rest)) : To C ρ Γ (wpList P ops Q (o :: rest)) :=
  fun a w ha hp => by
    obtain ⟨w', hr, hq⟩ := h a w ha.sees hp.sat
    refine wp_of_skip (grd_wanted hg ha.sees) hr ?_
    rw [hd]
    exact k a w' ha (hp.trans hq)
theorem Post.add {N : List Chunk} {w w' : World} (hs : Sep.sat Γ w) (h : Post [] N w w') : Post Γ (N ++ Γ) w w' := Post.frame (Γ := []) (Δ := Γ) hs h
theorem To.mk {R : Value → List Chunk → Prop} (hg : grd ops ρ o = some true) (hd : o.dst = some d) (hn : Nat.blt d C.n = true) (h : Mk P o ρ Γ R) (k : ∀ v N, R v N → To C ((d, v) :: ρ) (N ++ Γ) (wpList P ops Q rest)) : To C ρ Γ (wpList P ops Q (o :: rest)) :=
  fun a w ha hp => by
    obtain ⟨v, N, w', hr, hR, hq⟩ := h a w ha.sees hp.sat.each
    refine wp_of_run (grd_wanted hg ha.sees) hr ?_
    rw [hd]
    exact k v N hR _ w' (ha.put hn) (hp.trans (hq.add hp.sat))
theorem To.ge {R : Value → List Chunk → Prop} (hg : grd ops ρ o = some true) (hd : o.dst = some d) (hn : Nat.blt d C.n = true) (h : Ge P o ρ Γ R) (k : ∀ v Γ', R v Γ' → To C ((d, v) :: ρ) Γ' (wpList P ops Q rest)) : To C ρ Γ (wpList P ops Q (o :: rest)) :=
  fun a w ha hp => by
    obtain ⟨v, Γ', w', hr, hR, hq⟩ := h a w ha.sees hp.sat
    refine wp_of_run (grd_wanted hg ha.sees) hr ?_
    rw [hd]
    exact k v Γ' hR _ w' (ha.put hn) (hp.trans hq)
/-- Chunks taken out by their places, one after the other. -/
def pull : List Chunk → List Nat → Option (List Chunk × List Chunk)
  | Γ, [] => some ([], Γ)
  | Γ, i :: r => match Γ[i]?, pull (Γ.eraseIdx i) r with
    | some c, some (l, R) => some (c :: l, R)
    | _, _ => none
theorem perm_eraseIdx {α : Type} : ∀ {l : List α} {i : Nat} {x : α}, l[i]? = some x → l.Perm (x :: l.eraseIdx i)
  | [], i, x, h => by simp at h
  | y :: l, 0, x, h => by simp at h; subst h; exact List.Perm.refl _
  | y :: l, i + 1, x, h => by
    rw [List.getElem?_cons_succ] at h
    rw [List.eraseIdx_cons_succ]
    exact ((perm_eraseIdx h).cons y).trans (List.Perm.swap x y _)
theorem pull_perm : ∀ {is : List Nat} {Γ Γ1 R : List Chunk}, pull Γ is = some (Γ1, R) → Γ.Perm (Γ1 ++ R)
  | [], Γ, Γ1, R, h => by
    simp only [pull, Option.some.injEq, Prod.mk.injEq] at h
    obtain ⟨rfl, rfl⟩ := h
    exact List.Perm.refl _
  | i :: r, Γ, Γ1, R, h => by
    unfold pull at h
    split at h
    · rename_i c l R' h1 h2
      simp only [Option.some.injEq, Prod.mk.injEq] at h
      obtain ⟨rfl, rfl⟩ := h
      exact (perm_eraseIdx h1).trans ((pull_perm h2).cons c)
    · cases h
theorem Post.at_ {is : List Nat} {Γ1 Γ1' R : List Chunk} {w w' : World} (hp : pull Γ is = some (Γ1, R)) (hs : Sep.sat Γ w) (h : Post Γ1 Γ1' w w') : Post Γ (Γ1' ++ R) w w' :=
  Post.pre (pull_perm hp) (h.frame (hs.perm (pull_perm hp)))
theorem To.call {R : Value → List Chunk → Prop} {f : FuncId} {vs : List Value} {Γ1 Δ : List Chunk} (is : List Nat) (hg : grd ops ρ o = some true) (hd : o.dst = some d) (hn : Nat.blt d C.n = true) (he : Ent P o ρ f vs) (hp : pull Γ is = some (Γ1, Δ))
    (hc : Does P f vs Γ1 R) (k : ∀ v Γ', R v Γ' → To C ((d, v) :: ρ) (Γ' ++ Δ) (wpList P ops Q rest)) : To C ρ Γ (wpList P ops Q (o :: rest)) :=
  fun a w ha hq => by
    refine wpList_step fun K hK => ?_
    rw [if_pos (grd_wanted hg ha.sees)]
    unfold Oper.wp
    rw [he a w ha.sees]
    refine (hc w ((hq.sat.perm (pull_perm hp)).left)).mono ?_
    rintro e w' ⟨v, Γ', rfl, hR, hpost⟩
    show K _ _
    rw [hd]
    exact hK _ _ (k v Γ' hR _ w' (ha.put hn) (hq.trans (Post.at_ hp hq.sat hpost)))
/-- A call that is handed only what it may read. -/
theorem quiet_post {Γ1 Γ1' : List Chunk} {w w' : World} (hq : owns Γ1 = []) (h : Post Γ1 Γ1' w w') (hr : reads Γ1' = []) : Post [] Γ1' w w' :=
  ⟨h.sat, by have := h.keeps; rw [hq] at this; exact this, fun g hg hl => by have := h.own g hg hl; rw [hq] at this; exact this, fun g hg => by rw [hr] at hg; simp at hg⟩
theorem sat_of_oks {Γ1 : List Chunk} {w : World} (hq : owns Γ1 = []) (h : oks Γ1 w) : sat Γ1 w := ⟨h, by rw [hq]; simp, fun g _ => by rw [hq]; simp⟩
theorem To.callQ {R : Value → List Chunk → Prop} {f : FuncId} {vs : List Value} {Γ1 : List Chunk} (hg : grd ops ρ o = some true) (hd : o.dst = some d) (hn : Nat.blt d C.n = true) (he : Ent P o ρ f vs) (hc : Does P f vs Γ1 R) (hq : owns Γ1 = []) (hs : ∀ w, oks Γ w → oks Γ1 w)
    (k : ∀ v Γ', R v Γ' → reads Γ' = [] ∧ To C ((d, v) :: ρ) (Γ' ++ Γ) (wpList P ops Q rest)) : To C ρ Γ (wpList P ops Q (o :: rest)) :=
  fun a w ha hp => by
    refine wpList_step fun K hK => ?_
    rw [if_pos (grd_wanted hg ha.sees)]
    unfold Oper.wp
    rw [he a w ha.sees]
    refine (hc w (sat_of_oks hq (hs w hp.sat.each))).mono ?_
    rintro e w' ⟨v, Γ', rfl, hR, hpost⟩
    show K _ _
    rw [hd]
    obtain ⟨hr, hk⟩ := k v Γ' hR
    exact hK _ _ (hk _ w' (ha.put hn) (hp.trans ((quiet_post hq hpost hr).add hp.sat)))
theorem To.as (Δ : List Chunk) (h : Γ = Δ) {K : Act → World → Prop} (k : To C ρ Δ K) : To C ρ Γ K := by rw [h]; exact k
/-- Some of the chunks alone, in an order of one's own. -/
theorem To.only {Γ1 Δ : List Chunk} (is : List Nat) (hp : pull Γ is = some (Γ1, Δ)) {K : Act → World → Prop} (k : To C ρ Γ1 K) : To C ρ Γ K := To.perm (pull_perm hp) k.drop
/-- What is only read may be had twice. -/
theorem To.dup {c : Chunk} (i : Nat) (hi : Γ[i]? = some c) (ho : c.owns = []) {K : Act → World → Prop} (k : To C ρ (c :: Γ) K) : To C ρ Γ K := fun a w ha hq => by
  have hm : c ∈ Γ := List.mem_of_getElem? hi
  have e1 : owns (c :: Γ) = owns Γ := by simp [owns, ho]
  refine k a w ha ⟨⟨fun x hx => ?_, ?_, fun g hg => ?_⟩, hq.keeps, fun g hg => ?_, fun g hg => ?_⟩
  · rcases List.mem_cons.1 hx with rfl | h
    · exact hq.sat.each _ hm
    · exact hq.sat.each x h
  · rw [e1]; exact hq.sat.nodup
  · rw [e1]
    obtain ⟨x, hx, hgx⟩ := mem_reads.1 hg
    refine hq.sat.apart g (mem_reads.2 ⟨x, ?_, hgx⟩)
    rcases List.mem_cons.1 hx with rfl | h
    · exact hm
    · exact h
  · rw [e1] at hg; exact hq.own g hg
  · obtain ⟨x, hx, hgx⟩ := mem_reads.1 hg
    refine hq.rd g (mem_reads.2 ⟨x, ?_, hgx⟩)
    rcases List.mem_cons.1 hx with rfl | h
    · exact hm
    · exact h
end walk
end Go.Sep
