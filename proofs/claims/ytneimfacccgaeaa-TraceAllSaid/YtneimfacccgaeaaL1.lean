/- Merged out of Sep, Sepo, Sepi by merge.py. Own text. -/
import Derived.Test.YtneimfacccgaeaaMem
import Derived.Deep.LoopGhost
import Derived.Great.BuildSlice
import Derived.WalkKit
import Derived.WalkLawsBesides
import Derived.WalkSpells
import Derived.Laws.MakeOwn
namespace Go.Sep
open Go.RowKit Go.Flow Go.Mem

/-! ### slots -/
abbrev Slots := List (Nat × Value)
def look : Slots → Nat → Option Value
  | [], _ => none
  | (k, v) :: r, t => bif Nat.beq k t then some v else look r t
def ev (ρ : Slots) : Operand → Option Value
  | .tmp t => look ρ t
  | .const v => some v
  | .global g => some (.pointer (some ⟨g, 0, none⟩))
  | .func f => some (.func (.func f) #[] #[])
def evs (ρ : Slots) : List Operand → Option (List Value)
  | [] => some []
  | x :: r => match ev ρ x, evs ρ r with
    | some v, some l => some (v :: l)
    | _, _ => none
def Sees (ρ : Slots) (a : Act) : Prop := ∀ t v, look ρ t = some v → a.tmps[t]? = some v
structure Has (n : Nat) (ds : List Deferred) (ρ : Slots) (a : Act) : Prop where
  size : a.tmps.size = n
  defers : a.defers = ds
  sees : Sees ρ a
theorem Sees.eval {ρ : Slots} {a : Act} (h : Sees ρ a) {x : Operand} {v : Value} (hx : ev ρ x = some v) : a.eval x = v := by
  cases x with
  | tmp t => simp only [Act.eval]; rw [Array.getD_eq_getD_getElem?, h t v hx]; rfl
  | const u => exact Option.some.inj hx
  | global g => exact Option.some.inj hx
  | func f => exact Option.some.inj hx
theorem Sees.evals {ρ : Slots} {a : Act} (h : Sees ρ a) : ∀ {xs : List Operand} {vs : List Value}, evs ρ xs = some vs → xs.map a.eval = vs
  | [], vs, hx => by simp [evs] at hx; simp [← hx]
  | x :: r, vs, hx => by
    unfold evs at hx
    split at hx
    · rename_i v l h1 h2
      simp only [Option.some.injEq] at hx
      rw [List.map_cons, h.eval h1, h.evals h2, ← hx]
    · cases hx
theorem Sees.put {ρ : Slots} {a : Act} (h : Sees ρ a) {d : Nat} {v : Value} (hd : d < a.tmps.size) : Sees ((d, v) :: ρ) (a.put (some d) v) := by
  intro t u ht
  unfold look at ht
  simp only [Act.put]
  rw [Array.getElem?_setIfInBounds]
  cases hb : Nat.beq d t with
  | true =>
    have e := Nat.eq_of_beq_eq_true hb
    rw [hb] at ht
    simp only [cond_true, Option.some.injEq] at ht
    rw [if_pos e, if_pos hd, ht]
  | false =>
    have e : d ≠ t := fun e => by rw [e, Nat.beq_refl] at hb; cases hb
    rw [hb] at ht
    rw [if_neg e]
    exact h t u ht
theorem Has.put {n : Nat} {ds : List Deferred} {ρ : Slots} {a : Act} (h : Has n ds ρ a) {d : Nat} {v : Value} (hd : Nat.blt d n = true) : Has n ds ((d, v) :: ρ) (a.put (some d) v) :=
  ⟨by simp [Act.put, h.size], h.defers, h.sees.put (by rw [h.size]; exact Nat.le_of_ble_eq_true hd)⟩
/-- Every slot of the second list stands in the first. -/
def subs (ρ : Slots) : Slots → Prop
  | [] => True
  | (k, v) :: r => look ρ k = some v ∧ subs ρ r
theorem subs.look {ρ : Slots} : ∀ {ρ' : Slots}, subs ρ ρ' → ∀ t v, look ρ' t = some v → Sep.look ρ t = some v
  | [], _, t, v, h => by simp [Sep.look] at h
  | (k, u) :: r, hs, t, v, h => by
    unfold Sep.look at h
    cases hb : Nat.beq k t with
    | true =>
      rw [hb] at h
      simp only [cond_true, Option.some.injEq] at h
      rw [← Nat.eq_of_beq_eq_true hb, ← h]; exact hs.1
    | false => rw [hb] at h; exact hs.2.look t v h
theorem Has.sub {n : Nat} {ds : List Deferred} {ρ ρ' : Slots} {a : Act} (h : Has n ds ρ a) (hs : subs ρ ρ') : Has n ds ρ' a := ⟨h.size, h.defers, fun t v ht => h.sees t v (hs.look t v ht)⟩
def slotsOf : Nat → List Value → Slots
  | _, [] => []
  | k, v :: r => (k, v) :: slotsOf (k + 1) r
theorem slotsOf_look : ∀ (l : List Value) (k t : Nat) (v : Value), look (slotsOf k l) t = some v → k ≤ t ∧ l[t - k]? = some v
  | [], k, t, v, h => by simp [slotsOf, look] at h
  | u :: r, k, t, v, h => by
    unfold slotsOf look at h
    cases hb : Nat.beq k t with
    | true =>
      have e := Nat.eq_of_beq_eq_true hb
      rw [hb] at h
      simp only [cond_true, Option.some.injEq] at h
      subst e; subst h
      exact ⟨Nat.le_refl _, by simp⟩
    | false =>
      rw [hb] at h
      obtain ⟨h1, h2⟩ := slotsOf_look r (k + 1) t v h
      refine ⟨by omega, ?_⟩
      have : t - k = (t - (k + 1)) + 1 := by omega
      rw [this, List.getElem?_cons_succ]; exact h2
theorem Has.start (l : List Value) (n : Nat) (hn : Nat.ble l.length n = true) : Has n [] (slotsOf 0 l) { tmps := l.toArray ++ Array.replicate (n - l.toArray.size) undef, defers := [] } := by
  have hn := Nat.le_of_ble_eq_true hn
  refine ⟨by simp; omega, rfl, fun t v ht => ?_⟩
  obtain ⟨_, h2⟩ := slotsOf_look l 0 t v ht
  have hlt : t < l.length := by
    rcases Nat.lt_or_ge t l.length with h | h
    · exact h
    · rw [Nat.sub_zero, List.getElem?_eq_none h] at h2; cases h2
  rw [Array.getElem?_append_left (by simpa using hlt)]
  simpa using h2

/-! ### chunks -/
structure Chunk where
  owns : List Nat
  reads : List Nat
  holds : World → Prop
  loc : ∀ w w' : World, (∀ g, g ∈ owns ∨ g ∈ reads → w'.heap[g]? = w.heap[g]?) → holds w → holds w'
  lt : ∀ w : World, holds w → ∀ g, g ∈ owns ∨ g ∈ reads → g < w.heap.size
def owns (Γ : List Chunk) : List Nat := Γ.flatMap Chunk.owns
def reads (Γ : List Chunk) : List Nat := Γ.flatMap Chunk.reads
structure sat (Γ : List Chunk) (w : World) : Prop where
  each : ∀ c ∈ Γ, c.holds w
  nodup : (owns Γ).Nodup
  apart : ∀ g ∈ reads Γ, g ∉ owns Γ
theorem mem_owns {Γ : List Chunk} {g : Nat} : g ∈ owns Γ ↔ ∃ c ∈ Γ, g ∈ c.owns := by simp [owns]
theorem mem_reads {Γ : List Chunk} {g : Nat} : g ∈ reads Γ ↔ ∃ c ∈ Γ, g ∈ c.reads := by simp [reads]
theorem sat.lt_own {Γ : List Chunk} {w : World} (h : sat Γ w) {g : Nat} (hg : g ∈ owns Γ) : g < w.heap.size := by
  obtain ⟨c, hc, hgc⟩ := mem_owns.1 hg
  exact c.lt w (h.each c hc) g (.inl hgc)
theorem sat.lt_read {Γ : List Chunk} {w : World} (h : sat Γ w) {g : Nat} (hg : g ∈ reads Γ) : g < w.heap.size := by
  obtain ⟨c, hc, hgc⟩ := mem_reads.1 hg
  exact c.lt w (h.each c hc) g (.inr hgc)
theorem sat.nil (w : World) : sat [] w := ⟨by simp, by simp [owns], by simp [reads]⟩
theorem sat.ext {Γ : List Chunk} {w w' : World} (h : sat Γ w) (k : Ext w w') : sat Γ w' :=
  ⟨fun c hc => c.loc w w' (fun g hg => k.block g (c.lt w (h.each c hc) g hg)) (h.each c hc), h.nodup, h.apart⟩
theorem owns_append (Γ Δ : List Chunk) : owns (Γ ++ Δ) = owns Γ ++ owns Δ := by simp [owns]
theorem reads_append (Γ Δ : List Chunk) : reads (Γ ++ Δ) = reads Γ ++ reads Δ := by simp [reads]
theorem sat.perm {Γ Δ : List Chunk} {w : World} (h : sat Γ w) (p : Γ.Perm Δ) : sat Δ w :=
  ⟨fun c hc => h.each c (p.mem_iff.2 hc), (p.flatMap_right Chunk.owns).nodup_iff.1 h.nodup, fun g hg hn => by
    obtain ⟨c, hc, hgc⟩ := mem_reads.1 hg
    obtain ⟨d, hd, hgd⟩ := mem_owns.1 hn
    exact h.apart g (mem_reads.2 ⟨c, p.mem_iff.2 hc, hgc⟩) (mem_owns.2 ⟨d, p.mem_iff.2 hd, hgd⟩)⟩
theorem sat.left {Γ Δ : List Chunk} {w : World} (h : sat (Γ ++ Δ) w) : sat Γ w :=
  ⟨fun c hc => h.each c (List.mem_append_left _ hc), by have := h.nodup; rw [owns_append] at this; exact (List.nodup_append.1 this).1,
    fun g hg hn => h.apart g (by rw [reads_append]; exact List.mem_append_left _ hg) (by rw [owns_append]; exact List.mem_append_left _ hn)⟩
theorem sat.right {Γ Δ : List Chunk} {w : World} (h : sat (Γ ++ Δ) w) : sat Δ w :=
  ⟨fun c hc => h.each c (List.mem_append_right _ hc), by have := h.nodup; rw [owns_append] at this; exact (List.nodup_append.1 this).2.1,
    fun g hg hn => h.apart g (by rw [reads_append]; exact List.mem_append_right _ hg) (by rw [owns_append]; exact List.mem_append_right _ hn)⟩
/-- What a call, or an operation, leaves of chunks Γ: chunks Γ'. -/
structure Post (Γ Γ' : List Chunk) (w w' : World) : Prop where
  sat : sat Γ' w'
  keeps : Keeps (fun g => g ∈ owns Γ) w w'
  own : ∀ g ∈ owns Γ', g < w.heap.size → g ∈ owns Γ
  rd : ∀ g ∈ reads Γ', g < w.heap.size → g ∈ owns Γ ∨ g ∈ reads Γ
/-- THE FRAME. -/
theorem Post.frame {Γ Γ' Δ : List Chunk} {w w' : World} (hs : Sep.sat (Γ ++ Δ) w) (h : Post Γ Γ' w w') : Post (Γ ++ Δ) (Γ' ++ Δ) w w' := by
  have hd := hs.right
  have hnd := hs.nodup
  rw [owns_append] at hnd
  have hdis : ∀ g ∈ owns Γ, g ∉ owns Δ := fun g h1 h2 => (List.nodup_append.1 hnd).2.2 g h1 g h2 rfl
  have hrd : ∀ g ∈ reads Δ, g ∉ owns Γ := fun g h1 h2 => hs.apart g (by rw [reads_append]; exact List.mem_append_right _ h1) (by rw [owns_append]; exact List.mem_append_left _ h2)
  have hro : ∀ g ∈ reads Γ, g ∉ owns Δ := fun g h1 h2 => hs.apart g (by rw [reads_append]; exact List.mem_append_left _ h1) (by rw [owns_append]; exact List.mem_append_right _ h2)
  refine ⟨⟨?_, ?_, ?_⟩, ?_, ?_, ?_⟩
  · intro c hc
    rcases List.mem_append.1 hc with h1 | h1
    · exact h.sat.each c h1
    · refine c.loc w w' (fun g hg => h.keeps.block g (c.lt w (hd.each c h1) g hg) ?_) (hd.each c h1)
      rcases hg with hg | hg
      · exact fun h2 => hdis g h2 (mem_owns.2 ⟨c, h1, hg⟩)
      · exact hrd g (mem_reads.2 ⟨c, h1, hg⟩)
  · rw [owns_append]
    refine List.nodup_append.2 ⟨h.sat.nodup, hd.nodup, ?_⟩
    intro g h1 g' h2 e
    subst e
    exact hdis g (h.own g h1 (hd.lt_own h2)) h2
  · intro g hg hn
    rw [reads_append] at hg
    rw [owns_append] at hn
    rcases List.mem_append.1 hg with h1 | h1 <;> rcases List.mem_append.1 hn with h2 | h2
    · exact h.sat.apart g h1 h2
    · rcases h.rd g h1 (hd.lt_own h2) with h3 | h3
      · exact hdis g h3 h2
      · exact hro g h3 h2
    · exact hrd g h1 (h.own g h2 (hd.lt_read h1))
    · exact hd.apart g h1 h2
  · exact h.keeps.mono fun g _ hg => by rw [owns_append]; exact List.mem_append_left _ hg
  · intro g hg hl
    rw [owns_append] at hg ⊢
    rcases List.mem_append.1 hg with h1 | h1
    · exact List.mem_append_left _ (h.own g h1 hl)
    · exact List.mem_append_right _ h1
  · intro g hg hl
    rw [reads_append] at hg ⊢
    rw [owns_append]
    rcases List.mem_append.1 hg with h1 | h1
    · rcases h.rd g h1 hl with h2 | h2
      · exact .inl (List.mem_append_left _ h2)
      · exact .inr (List.mem_append_left _ h2)
    · exact .inr (List.mem_append_right _ h1)
theorem Post.trans {Γ Δ Θ : List Chunk} {a b c : World} (h : Post Γ Δ a b) (k : Post Δ Θ b c) : Post Γ Θ a c :=
  ⟨k.sat, h.keeps.trans k.keeps (fun _ _ h => h) (fun g hl hg => h.own g hg hl),
    fun g hg hl => h.own g (k.own g hg (Nat.lt_of_lt_of_le hl h.keeps.size)) hl,
    fun g hg hl => by
      rcases k.rd g hg (Nat.lt_of_lt_of_le hl h.keeps.size) with h1 | h1
      · exact .inl (h.own g h1 hl)
      · exact h.rd g h1 hl⟩
theorem Post.refl {Γ : List Chunk} {w : World} (h : Sep.sat Γ w) : Post Γ Γ w w := ⟨h, Keeps.refl _ _, fun _ h _ => h, fun _ h _ => .inr h⟩
theorem Post.perm {Γ Γ' Δ : List Chunk} {w w' : World} (h : Post Γ Γ' w w') (p : Γ'.Perm Δ) : Post Γ Δ w w' :=
  ⟨h.sat.perm p, h.keeps, fun g hg => h.own g ((p.flatMap_right Chunk.owns).mem_iff.2 hg), fun g hg => h.rd g ((p.flatMap_right Chunk.reads).mem_iff.2 hg)⟩
theorem Post.drop {Γ Γ' Δ : List Chunk} {w w' : World} (h : Post Γ (Γ' ++ Δ) w w') : Post Γ Γ' w w' :=
  ⟨h.sat.left, h.keeps, fun g hg => h.own g (by rw [owns_append]; exact List.mem_append_left _ hg), fun g hg => h.rd g (by rw [reads_append]; exact List.mem_append_left _ hg)⟩
theorem Post.ext {Γ Δ : List Chunk} {w w' w'' : World} (h : Post Γ Δ w w') (k : Ext w' w'') : Post Γ Δ w w'' :=
  ⟨h.sat.ext k, h.keeps.then_ext k, h.own, h.rd⟩
theorem Post.pre {Γ Γ' Δ : List Chunk} {w w' : World} (p : Γ.Perm Γ') (h : Post Γ' Δ w w') : Post Γ Δ w w' :=
  ⟨h.sat, h.keeps.mono (fun _ _ hg => (p.flatMap_right Chunk.owns).mem_iff.2 hg), fun g hg hl => (p.flatMap_right Chunk.owns).mem_iff.2 (h.own g hg hl),
    fun g hg hl => (h.rd g hg hl).imp (p.flatMap_right Chunk.owns).mem_iff.2 (p.flatMap_right Chunk.reads).mem_iff.2⟩

/-! ### the state, and what is to be shown of it -/
structure Cx where
  n : Nat
  Γ0 : List Chunk
  w0 : World
  ds : List Deferred
def To (C : Cx) (ρ : Slots) (Γ : List Chunk) (K : Act → World → Prop) : Prop := ∀ a w, Has C.n C.ds ρ a → Post C.Γ0 Γ C.w0 w → K a w
section rules
variable {P : Program} {C : Cx} {ρ ρ' : Slots} {Γ Γ' : List Chunk} {K : Act → World → Prop} {Q : Exit → Act → World → Prop}
theorem To.sub (ρ' : Slots) (hs : subs ρ ρ') (h : To C ρ' Γ K) : To C ρ Γ K := fun a w ha hp => h a w (ha.sub hs) hp
theorem To.perm (p : Γ.Perm Γ') (h : To C ρ Γ' K) : To C ρ Γ K := fun a w ha hp => h a w ha (hp.perm p)
theorem To.drop {Δ : List Chunk} (h : To C ρ Γ K) : To C ρ (Γ ++ Δ) K := fun a w ha hp => h a w ha hp.drop
theorem To.mono {K' : Act → World → Prop} (h : To C ρ Γ K') (hk : ∀ a w, K' a w → K a w) : To C ρ Γ K := fun a w ha hp => hk a w (h a w ha hp)
/-- What the chunks say of numbers and the like. -/
theorem To.know {p : Prop} (hp : ∀ w, sat Γ w → p) (h : p → To C ρ Γ K) : To C ρ Γ K := fun a w ha hq => h (hp w hq.sat) a w ha hq
/-- Chunks read anew. -/
theorem To.turn (Γ' : List Chunk) (h : ∀ w, sat Γ w → Post Γ Γ' w w) (k : To C ρ Γ' K) : To C ρ Γ K := fun a w ha hq => k a w ha (hq.trans (h w hq.sat))
theorem To.turnE {T : Type} {F : T → List Chunk} {p : T → Prop} (h : ∀ w, sat Γ w → ∃ t, p t ∧ Post Γ (F t) w w) (k : ∀ t, p t → To C ρ (F t) K) : To C ρ Γ K := fun a w ha hq => by
  obtain ⟨t, hp, ht⟩ := h w hq.sat
  exact k t hp a w ha (hq.trans ht)
theorem To.seq {x y : Code} (h : To C ρ Γ (x.wp P (Exit.then (y.wp P Q) Q))) : To C ρ Γ ((Code.seq x y).wp P Q) := fun a w ha hp => wp_seq (h a w ha hp)
theorem To.skip (h : To C ρ Γ (Q .normal)) : To C ρ Γ (Code.skip.wp P Q) := fun a w ha hp => wp_skip (h a w ha hp)
theorem To.exit {id : Nat} (h : To C ρ Γ (Q (.exit id))) : To C ρ Γ ((Code.exit id).wp P Q) := fun a w ha hp => wp_exit (h a w ha hp)
theorem To.ret (h : To C ρ Γ (Q .ret)) : To C ρ Γ (Code.ret.wp P Q) := fun a w ha hp => wp_ret (h a w ha hp)
theorem To.block {id : Nat} {c : Code} (h : To C ρ Γ (c.wp P (Exit.inBlock id Q))) : To C ρ Γ ((Code.block id c).wp P Q) := fun a w ha hp => wp_block (h a w ha hp)
theorem To.condT {c : Operand} {x y : Code} (hc : ev ρ c = some (.bool true)) (h : To C ρ Γ (x.wp P Q)) : To C ρ Γ ((Code.cond c x y).wp P Q) :=
  fun a w ha hp => wp_cond_true (ha.sees.eval hc) (h a w ha hp)
theorem To.condF {c : Operand} {x y : Code} (hc : ev ρ c = some (.bool false)) (h : To C ρ Γ (y.wp P Q)) : To C ρ Γ ((Code.cond c x y).wp P Q) :=
  fun a w ha hp => wp_cond_false (ha.sees.eval hc) (h a w ha hp)
theorem To.cond {c : Operand} {x y : Code} {t : Bool} (hc : ev ρ c = some (.bool t)) (h1 : t = true → To C ρ Γ (x.wp P Q)) (h2 : t = false → To C ρ Γ (y.wp P Q)) : To C ρ Γ ((Code.cond c x y).wp P Q) :=
  fun a w ha hp => wp_cond_split (ha.sees.eval hc) (fun e => h1 e a w ha hp) (fun e => h2 e a w ha hp)
/-- A test of a proposition. -/
theorem To.condP {c : Operand} {x y : Code} {p : Prop} [Decidable p] (hc : ev ρ c = some (.bool (decide p))) (h1 : p → To C ρ Γ (x.wp P Q)) (h2 : ¬ p → To C ρ Γ (y.wp P Q)) : To C ρ Γ ((Code.cond c x y).wp P Q) :=
  To.cond hc (fun e => h1 (of_decide_eq_true e)) (fun e => h2 (of_decide_eq_false e))
/-- What was reached may be told anew, and weaker, at any place. -/
theorem To.reg {id : Nat} {l : List Oper} (h : To C ρ Γ (wpList P l.toArray Q l)) : To C ρ Γ ((Code.region id l.toArray false).wp P Q) := fun a w ha hp => wp_region_lit (h a w ha hp)
theorem To.nil {ops : Array Oper} (h : To C ρ Γ (Q .normal)) : To C ρ Γ (wpList P ops Q []) := h
theorem To.thenN {Q' : Exit → Act → World → Prop} (h : To C ρ Γ K) : To C ρ Γ (Exit.then K Q' .normal) := h
theorem To.thenX {id : Nat} (h : To C ρ Γ (Q (.exit id))) : To C ρ Γ (Exit.then K Q (.exit id)) := h
theorem To.thenR (h : To C ρ Γ (Q .ret)) : To C ρ Γ (Exit.then K Q .ret) := h
theorem To.blockN {id : Nat} (h : To C ρ Γ (Q .normal)) : To C ρ Γ (Exit.inBlock id Q .normal) := h
theorem To.blockR {id : Nat} (h : To C ρ Γ (Q .ret)) : To C ρ Γ (Exit.inBlock id Q .ret) := h
theorem To.blockX {id : Nat} (h : To C ρ Γ (Q .normal)) : To C ρ Γ (Exit.inBlock id Q (.exit id)) := fun a w ha hp => by
  show (if id = id then _ else _)
  rw [if_pos rfl]; exact h a w ha hp
theorem To.blockY {id id' : Nat} (hne : Nat.beq id' id = false) (h : To C ρ Γ (Q (.exit id'))) : To C ρ Γ (Exit.inBlock id Q (.exit id')) := fun a w ha hp => by
  show (if id' = id then _ else _)
  rw [if_neg (fun e => by rw [e, Nat.beq_refl] at hne; cases hne)]; exact h a w ha hp
/-- What a round hands on. -/
def Again (C : Cx) (I : Nat → Slots → List Chunk → Prop) (m : Nat) (a : Act) (w : World) : Prop := ∃ k, k < m ∧ ∃ ρ Γ, I k ρ Γ ∧ Has C.n C.ds ρ a ∧ Post C.Γ0 Γ C.w0 w
theorem To.loop {c : Code} (I : Nat → Slots → List Chunk → Prop) (m0 : Nat) (h0 : I m0 ρ Γ) (round : ∀ m ρ Γ, I m ρ Γ → To C ρ Γ (c.wp P (Exit.then (Again C I m) Q))) : To C ρ Γ ((Code.loop c).wp P Q) := fun _ _ ha hp =>
  wp_loop_ghost (fun m a w => ∃ ρ Γ, I m ρ Γ ∧ Has C.n C.ds ρ a ∧ Post C.Γ0 Γ C.w0 w) m0 ⟨ρ, Γ, h0, ha, hp⟩ fun m a w ⟨ρ, Γ, hI, ha, hp⟩ => round m ρ Γ hI a w ha hp
theorem To.again {I : Nat → Slots → List Chunk → Prop} {m : Nat} (k : Nat) (hk : k < m) (h : I k ρ Γ) : To C ρ Γ (Again C I m) := fun _ _ ha hp => ⟨k, hk, ρ, Γ, h, ha, hp⟩
/-- A cut: what is reached is told once, and what follows is shown once. -/
theorem To.cut {T : Type} (F : T → Slots × List Chunk) (p : T → Prop) (x : Code) {y : Code} (hx : To C ρ Γ (x.wp P (Exit.then (fun a w => ∃ t, p t ∧ Has C.n C.ds (F t).1 a ∧ Post C.Γ0 (F t).2 C.w0 w) Q)))
    (hy : ∀ t, p t → To C (F t).1 (F t).2 (y.wp P Q)) : To C ρ Γ ((Code.seq x y).wp P Q) := fun a w ha hp =>
  wp_seq (wp_mono (hx a w ha hp) fun e a' w' hq => by
    cases e with
    | normal => obtain ⟨t, h1, h2, h3⟩ := hq; exact hy t h1 a' w' h2 h3
    | exit id => exact hq
    | goto l => exact hq
    | ret => exact hq
    | panic ch => exact hq
    | outgrown => exact hq)
theorem To.here {T : Type} {F : T → Slots × List Chunk} {p : T → Prop} (t : T) (hp : p t) (hs : subs ρ (F t).1) (hg : (F t).2 = Γ) : To C ρ Γ (fun a w => ∃ t, p t ∧ Has C.n C.ds (F t).1 a ∧ Post C.Γ0 (F t).2 C.w0 w) :=
  fun _ _ ha hq => ⟨t, hp, ha.sub hs, by rw [hg]; exact hq⟩
end rules

/-! ### calls -/
/-- A function's contract. -/
def Does (P : Program) (f : FuncId) (args : List Value) (Γ : List Chunk) (R : Value → List Chunk → Prop) : Prop :=
  ∀ w, sat Γ w → Calls P f args.toArray w fun e w' => ∃ v Γ', e = .returned v ∧ R v Γ' ∧ Post Γ Γ' w w'
/-- What a body ends in. -/
def Fin (C : Cx) (R : Value → List Chunk → Prop) (e : Ending) (w' : World) : Prop := ∃ v Γ', e = .returned v ∧ R v Γ' ∧ Post C.Γ0 Γ' C.w0 w'
theorem Does.enter {P : Program} {f : FuncId} {args : List Value} {Γ : List Chunk} {R : Value → List Chunk → Prop} {fn : Func} {c : Code} {n : Nat}
    (hf : P.funcs[f]? = some fn) (hb : fn.body = some c) (hn : fn.ntmps = n) (hl : Nat.ble args.length n = true)
    (h : ∀ w, To ⟨n, Γ, w, []⟩ (slotsOf 0 args) Γ (c.wp P (bodyPost P fn (Fin ⟨n, Γ, w, []⟩ R)))) : Does P f args Γ R := fun w hs => by
  refine calls_of_wp hf hb ?_
  rw [hn]
  exact h w _ w (Has.start args n hl) (Post.refl hs)
theorem Does.mono {P : Program} {f : FuncId} {args : List Value} {Γ : List Chunk} {R R' : Value → List Chunk → Prop} (h : Does P f args Γ R) (hr : ∀ v Γ', R v Γ' → R' v Γ') : Does P f args Γ R' :=
  fun w hs => (h w hs).mono fun _ _ ⟨v, Γ', h1, h2, h3⟩ => ⟨v, Γ', h1, hr v Γ' h2, h3⟩
section ends
variable {P : Program} {C : Cx} {ρ : Slots} {Γ : List Chunk} {R : Value → List Chunk → Prop} {fn : Func}
theorem To.ends {ex : Exit} {v : Value} (hex : ex = .ret ∨ ex = .normal) (hr : ∀ a w, Has C.n C.ds ρ a → sat Γ w → (results fn a.tmps).run P w = .ok v w) (h : R v Γ) (hds : C.ds = [] := by rfl) : To C ρ Γ (bodyPost P fn (Fin C R) ex) := fun a w ha hp => by
  rcases hex with rfl | rfl
  · exact ⟨ha.defers.trans hds, v, hr a w ha hp.sat, v, Γ, rfl, h, hp⟩
  · exact ⟨ha.defers.trans hds, v, hr a w ha hp.sat, v, Γ, rfl, h, hp⟩
theorem To.end0 {ex : Exit} (hex : ex = .ret ∨ ex = .normal) (hres : fn.results = #[]) (h : R (.tuple #[]) Γ) (hds : C.ds = [] := by rfl) : To C ρ Γ (bodyPost P fn (Fin C R) ex) :=
  To.ends hex (fun a w _ _ => results_none hres a.tmps P w) h hds
theorem To.end1 {ex : Exit} {t : Nat} {v : Value} (hex : ex = .ret ∨ ex = .normal) (hres : fn.results = #[.tmp t]) (hv : look ρ t = some v) (h : R v Γ) (hds : C.ds = [] := by rfl) : To C ρ Γ (bodyPost P fn (Fin C R) ex) :=
  To.ends hex (fun a w ha _ => by rw [results_tmp hres, Array.getD_eq_getD_getElem?, ha.sees t v hv]; rfl) h hds
theorem To.end2 {ex : Exit} {t u : Nat} {v v' : Value} (hex : ex = .ret ∨ ex = .normal) (hres : fn.results = #[.tmp t, .tmp u]) (hv : look ρ t = some v) (hv' : look ρ u = some v') (h : R (.tuple #[v, v']) Γ) (hds : C.ds = [] := by rfl) : To C ρ Γ (bodyPost P fn (Fin C R) ex) :=
  To.ends hex (fun a w ha _ => by rw [results_tmp2 hres, Array.getD_eq_getD_getElem?, ha.sees t v hv, Array.getD_eq_getD_getElem?, ha.sees u v' hv']; rfl) h hds
end ends
end Go.Sep
namespace Go.Sep
open Go.RowKit Go.Flow Go.Mem

/-! ### chunks of memory -/
theorem own_keeps' {w w' : World} {base : Nat} {e : TypeId} {size : Nat} {v : Value} {n : Nat} {xs : List Value} (h : w.ownsRow base e size v n xs) (k : ∀ g, v.ownBlock = some g → w'.heap[g]? = w.heap[g]?) : w'.ownsRow base e size v n xs := by
  refine ⟨h.1, ?_⟩
  rcases h.2 with hn | ⟨g, cap, cur, hv, hb, hgg, rest⟩
  · exact .inl hn
  · exact .inr ⟨g, cap, cur, hv, hb, (k g (by rw [hv]; rfl)).trans hgg, rest⟩
def box (b : Nat) (cs : List Value) (t : TypeId) : Chunk where
  owns := [b]
  reads := []
  holds w := w.heap[b]? = some (.cells cs.toArray t (0, 0))
  loc w w' h hw := by rw [h b (.inl (by simp))]; exact hw
  lt w hw g hg := by
    simp only [List.mem_singleton, List.not_mem_nil, or_false] at hg
    subst hg
    exact lt_of_block hw
def blks (A : Option Addr) : List Nat := (A.map Addr.block).toList
theorem mem_blks {A : Option Addr} {g : Nat} : g ∈ blks A ↔ ∃ a, A = some a ∧ a.block = g := by
  cases A <;> simp [blks, eq_comm]
/-- A row of one's own: a slice from its block's head. -/
def row (e : TypeId) (size : Nat) (A : Option Addr) (n cap : Nat) (xs : List Value) : Chunk where
  owns := blks A
  reads := []
  holds w := w.ownsRow 0 e size (.slice A n cap) n xs
  loc w w' h hw := by
    refine own_keeps' hw fun g hg => ?_
    refine h g (.inl ?_)
    cases A with
    | none => simp [Value.ownBlock] at hg
    | some a => simp [Value.ownBlock] at hg; simp [blks, hg]
  lt w hw g hg := by
    simp only [List.not_mem_nil, or_false] at hg
    obtain ⟨a, rfl, rfl⟩ := mem_blks.1 hg
    exact (hw.lt _ rfl).2
def rblks (A : Option Addr) : List Value → List Nat
  | [] => []
  | _ :: _ => blks A
/-- What only is read. -/
def ro (A : Option Addr) (xs : List Value) : Chunk where
  owns := []
  reads := rblks A xs
  holds w := Src w A xs
  loc w w' h hw := by
    rcases hw with rfl | ⟨g, off, rfl, hr⟩
    · exact .inl rfl
    · cases xs with
      | nil => exact .inl rfl
      | cons x xs =>
        refine .inr ⟨g, off, rfl, fun j v hv => ?_⟩
        have := hr j v hv
        simp only [World.cell?] at this ⊢
        rw [h g (.inr (by simp [rblks, blks]))]; exact this
  lt w hw g hg := by
    simp only [List.not_mem_nil, false_or] at hg
    rcases hw with rfl | ⟨g', off, rfl, hr⟩
    · simp [rblks] at hg
    · cases xs with
      | nil => simp [rblks] at hg
      | cons x xs =>
        simp [rblks, blks] at hg
        subst hg
        exact World.block_lt_of_cell? w ⟨g, off + 0, none⟩ (hr 0 x rfl)

/-! ### what a chunk gives, and takes -/
def Chunk.gives (c : Chunk) (b off : Nat) (us : List Value) : Prop := ∀ w, c.holds w → w.rangeAt b off us
/-- A chunk turns into another by a store. -/
def Chunk.takes (c : Chunk) (b off : Nat) (us : List Value) (c' : Chunk) : Prop := ∀ w, c.holds w → w.there b off us.length ∧ c'.holds (w.setCells b off us) ∧ (b ∈ c.owns) ∧ c'.owns = c.owns ∧ c'.reads = c.reads
def blk (A : Option Addr) : Nat := (A.getD ⟨0, 0, none⟩).block
def ofs (A : Option Addr) : Nat := (A.getD ⟨0, 0, none⟩).off
/-- n of the cells from o on. -/
def sub (xs : List Value) (o n : Nat) : List Value := (xs.drop o).take n
theorem range_sub {w : World} {g off o n : Nat} {xs us : List Value} (h : w.rangeAt g off xs) (hu : sub xs o n = us) : w.rangeAt g (off + o) us := fun j v hv => by
  rw [← hu, sub] at hv
  have h1 : (xs.drop o)[j]? = some v := by
    rw [List.getElem?_take] at hv
    split at hv
    · exact hv
    · cases hv
  rw [List.getElem?_drop] at h1
  rw [Nat.add_assoc]; exact h _ _ h1
theorem box_gives {b o n : Nat} {cs us : List Value} {t : TypeId} (hu : sub cs o n = us) : (box b cs t).gives b o us := fun w hw => by
  have := range_sub (range_of_whole hw) hu
  rwa [Nat.zero_add] at this
theorem box_gives1 {b o : Nat} {cs : List Value} {u : Value} {t : TypeId} (hu : cs[o]? = some u) : (box b cs t).gives b o [u] := box_gives (n := 1) (by
  unfold sub
  have hlt : o < cs.length := (List.getElem?_eq_some_iff.1 hu).1
  rw [List.drop_eq_getElem_cons hlt, (List.getElem?_eq_some_iff.1 hu).2]; rfl)
theorem own_some {w : World} {e : TypeId} {size : Nat} {A : Option Addr} {n cap : Nat} {xs : List Value} (h : w.ownsRow 0 e size (.slice A n cap) n xs) (hn : 0 < n) : A = some ⟨blk A, 0, none⟩ := by
  rcases h.2 with ⟨_, h2⟩ | ⟨g, cap', cur, hv, _⟩
  · omega
  · simp only [Value.slice.injEq] at hv; rw [hv.1]; rfl
theorem own_some' {w : World} {e : TypeId} {size : Nat} {A : Option Addr} {n cap : Nat} {xs : List Value} (h : w.ownsRow 0 e size (.slice A n cap) n xs) {us : List Value} {o k : Nat} (hu : sub xs o k = us) (hus : us ≠ []) : A = some ⟨blk A, 0, none⟩ := by
  refine own_some h ?_
  rcases Nat.eq_zero_or_pos n with hn | hn
  · have h0 := h.1
    rw [hn, Nat.zero_mul] at h0
    have : xs = [] := List.length_eq_zero_iff.1 h0
    rw [this] at hu
    simp [sub] at hu
    exact (hus hu).elim
  · exact hn
theorem row_gives {e : TypeId} {size : Nat} {A : Option Addr} {n cap o k : Nat} {xs us : List Value} (hu : sub xs o k = us) : (row e size A n cap xs).gives (blk A) (ofs A + o) us := fun w hw => by
  cases us with
  | nil => exact fun j v hv => by simp at hv
  | cons u us =>
    have e1 := own_some' hw hu (by simp)
    have hw' : w.ownsRow 0 e size (.slice (some ⟨blk A, 0, none⟩) n cap) n xs := by rw [← e1]; exact hw
    have : ofs A = 0 := by rw [e1]; rfl
    rw [this]
    exact range_sub (own_range hw') hu
theorem ro_gives {A : Option Addr} {o k : Nat} {xs us : List Value} (hu : sub xs o k = us) : (ro A xs).gives (blk A) (ofs A + o) us := fun w hw => by
  rcases hw with rfl | ⟨g, off, rfl, hr⟩
  · simp [sub] at hu; subst hu; exact fun j v hv => by simp at hv
  · exact range_sub hr hu
theorem sub1 {xs : List Value} {o : Nat} {u : Value} (hu : xs[o]? = some u) : sub xs o 1 = [u] := by
  unfold sub
  have hlt : o < xs.length := (List.getElem?_eq_some_iff.1 hu).1
  rw [List.drop_eq_getElem_cons hlt, (List.getElem?_eq_some_iff.1 hu).2]; rfl
/-- A list of parts of one size each. -/
theorem sub_flat {α : Type} {enc : α → List Value} {size : Nat} (hs : ∀ x, (enc x).length = size) : ∀ {l : List α} {j : Nat} {y : α}, l[j]? = some y → sub (l.flatMap enc) (j * size) size = enc y
  | [], j, y, h => by simp at h
  | x :: l, 0, y, h => by
    simp only [List.getElem?_cons_zero, Option.some.injEq] at h
    subst h
    unfold sub
    rw [Nat.zero_mul, List.drop_zero, List.flatMap_cons, ← hs x, List.take_left]
  | x :: l, j + 1, y, h => by
    rw [List.getElem?_cons_succ] at h
    have := sub_flat hs h
    unfold sub at this ⊢
    have e1 : (j + 1) * size - (enc x).length = j * size := by rw [hs x, Nat.add_mul, Nat.one_mul]; omega
    rw [List.flatMap_cons, List.drop_append, List.drop_of_length_le (by rw [hs x, Nat.add_mul, Nat.one_mul]; omega), List.nil_append, e1]
    exact this

/-! ### operations -/
def oks (Γ : List Chunk) (w : World) : Prop := ∀ c ∈ Γ, c.holds w
def Rd (P : Program) (o : Oper) (ρ : Slots) (Γ : List Chunk) (v : Value) : Prop := ∀ a w, Sees ρ a → oks Γ w → (execOp a.eval o).run P w = .ok (.value v) w
def Up (P : Program) (o : Oper) (ρ : Slots) (Γ Γ' : List Chunk) : Prop := ∀ a w, Sees ρ a → sat Γ w → ∃ w', (execOp a.eval o).run P w = .ok .skip w' ∧ Post Γ Γ' w w'
def Mk (P : Program) (o : Oper) (ρ : Slots) (Γ : List Chunk) (R : Value → List Chunk → Prop) : Prop := ∀ a w, Sees ρ a → oks Γ w → ∃ v N w', (execOp a.eval o).run P w = .ok (.value v) w' ∧ R v N ∧ Post [] N w w'
def Ge (P : Program) (o : Oper) (ρ : Slots) (Γ : List Chunk) (R : Value → List Chunk → Prop) : Prop := ∀ a w, Sees ρ a → sat Γ w → ∃ v Γ' w', (execOp a.eval o).run P w = .ok (.value v) w' ∧ R v Γ' ∧ Post Γ Γ' w w'
/-- A call: which function is entered, with what. -/
def Ent (P : Program) (o : Oper) (ρ : Slots) (f : FuncId) (vs : List Value) : Prop := ∀ a w, Sees ρ a → (execOp a.eval o).run P w = .ok (.enter f vs.toArray) w
/-- The guard of an operation, as the slots tell it. -/
def grd (ops : Array Oper) (ρ : Slots) (o : Oper) : Option Bool :=
  match o.guard with
  | none => some true
  | some (j, s) => match ((ops[j]?).bind (·.dst)).bind (look ρ) with
    | some v => match v with
      | .bool b => some (b == s)
      | _ => some false
    | none => none
def boolOf : Value → Option Bool
  | .bool b => some b
  | _ => none
theorem grd_wanted {ops : Array Oper} {ρ : Slots} {o : Oper} {t : Bool} (h : grd ops ρ o = some t) {a : Act} (ha : Sees ρ a) : Region.wanted o (yielded ops a.tmps) = t := by
  unfold grd at h
  unfold Region.wanted
  cases hg : o.guard with
  | none => rw [hg] at h; simpa using h
  | some js =>
    obtain ⟨j, s⟩ := js
    rw [hg] at h
    simp only at h ⊢
    cases hd : (ops[j]?).bind (·.dst) with
    | none => rw [hd] at h; simp at h
    | some d =>
      rw [hd] at h
      simp only [Option.bind_some] at h
      cases hl : look ρ d with
      | none => rw [hl] at h; simp at h
      | some v =>
        rw [hl] at h
        have hy : yielded ops a.tmps j = boolOf v := by
          unfold yielded
          rw [hd]
          simp only [Option.bind_some, ha d _ hl]
          cases v <;> rfl
        rw [hy]
        cases v with
        | bool b =>
          simp only [Option.some.injEq] at h
          subst h
          cases b <;> cases s <;> rfl
        | _ => simp only [Option.some.injEq] at h; subst h; rfl
section walk
variable {P : Program} {o : Oper} {ρ : Slots} {Γ Γ' : List Chunk} {C : Cx} {ops : Array Oper} {Q : Exit → Act → World → Prop} {rest : List Oper} {v : Value} {d : Nat}
theorem wp_of_run {a : Act} {w w' : World} {v : Value} (hg : Region.wanted o (yielded ops a.tmps) = true) (hr : (execOp a.eval o).run P w = .ok (.value v) w') (k : wpList P ops Q rest (a.put o.dst v) w') : wpList P ops Q (o :: rest) a w := by
  refine wpList_step fun K hK => ?_
  rw [if_pos hg]
  unfold Oper.wp
  rw [hr]
  exact hK _ _ k
theorem wp_of_skip {a : Act} {w w' : World} (hg : Region.wanted o (yielded ops a.tmps) = true) (hr : (execOp a.eval o).run P w = .ok .skip w') (k : wpList P ops Q rest (a.put o.dst undef) w') : wpList P ops Q (o :: rest) a w := by
  refine wpList_step fun K hK => ?_
  rw [if_pos hg]
  unfold Oper.wp
  rw [hr]
  exact hK _ _ k
theorem To.rd (hg : grd ops ρ o = some true) (hd : o.dst = some d) (hn : Nat.blt d C.n = true) (h : Rd P o ρ Γ v) (k : To C ((d, v) :: ρ) Γ (wpList P ops Q rest)) : To C ρ Γ (wpList P ops Q (o :: rest)) :=
  fun a w ha hp => wp_of_run (grd_wanted hg ha.sees) (h a w ha.sees hp.sat.each) (by rw [hd]; exact k _ w (ha.put hn) hp)
/-- An operation that its guard bars. -/
theorem To.sk (hg : grd ops ρ o = some false) (hd : o.dst = some d) (hn : Nat.blt d C.n = true) (k : To C ((d, undef) :: ρ) Γ (wpList P ops Q rest)) : To C ρ Γ (wpList P ops Q (o :: rest)) :=
  fun a w ha hp => by
    refine wpList_step fun K hK => ?_
    rw [if_neg (by rw [grd_wanted hg ha.sees]; simp), hd]
    exact hK _ _ (k _ w (ha.put hn) hp)
theorem To.up (hg : grd ops ρ o = some true) (hd : o.dst = none) (h : Up P o ρ Γ Γ') (k : To C ρ Γ' (wpList P ops Q rest)) : To C ρ Γ (wpList P ops Q (o :: rest)) :=
  fun a w ha hp => by
    obtain ⟨w', hr, hq⟩ := h a w ha.sees hp.sat
    refine wp_of_skip (grd_wanted hg ha.sees) hr ?_
    rw [hd]
    exact k a w' ha (hp.trans hq)
theorem Post.add {N : List Chunk} {w w' : World} (hs : Sep.sat Γ w) (h : Post [] N w w') : Post Γ (N ++ Γ) w w' := Post.frame (Γ := []) (Δ := Γ) hs h
theorem To.mk {R : Value → List Chunk → Prop} (hg : grd ops ρ o = some true) (hd : o.dst = some d) (hn : Nat.blt d C.n = true) (h : Mk P o ρ Γ R) (k : ∀ v N, R v N → To C ((d, v) :: ρ) (N ++ Γ) (wpList P ops Q rest)) : To C ρ Γ (wpList P ops Q (o :: rest)) :=
  fun a w ha hp => by
    obtain ⟨v, N, w', hr, hR, hq⟩ := h a w ha.sees hp.sat.each
    refine wp_of_run (grd_wanted hg ha.sees) hr ?_
    rw [hd]
    exact k v N hR _ w' (ha.put hn) (hp.trans (hq.add hp.sat))
theorem To.ge {R : Value → List Chunk → Prop} (hg : grd ops ρ o = some true) (hd : o.dst = some d) (hn : Nat.blt d C.n = true) (h : Ge P o ρ Γ R) (k : ∀ v Γ', R v Γ' → To C ((d, v) :: ρ) Γ' (wpList P ops Q rest)) : To C ρ Γ (wpList P ops Q (o :: rest)) :=
  fun a w ha hp => by
    obtain ⟨v, Γ', w', hr, hR, hq⟩ := h a w ha.sees hp.sat
    refine wp_of_run (grd_wanted hg ha.sees) hr ?_
    rw [hd]
    exact k v Γ' hR _ w' (ha.put hn) (hp.trans hq)
/-- Chunks taken out by their places, one after the other. -/
def pull : List Chunk → List Nat → Option (List Chunk × List Chunk)
  | Γ, [] => some ([], Γ)
  | Γ, i :: r => match Γ[i]?, pull (Γ.eraseIdx i) r with
    | some c, some (l, R) => some (c :: l, R)
    | _, _ => none
theorem perm_eraseIdx {α : Type} : ∀ {l : List α} {i : Nat} {x : α}, l[i]? = some x → l.Perm (x :: l.eraseIdx i)
  | [], i, x, h => by simp at h
  | y :: l, 0, x, h => by simp at h; subst h; exact List.Perm.refl _
  | y :: l, i + 1, x, h => by
    rw [List.getElem?_cons_succ] at h
    rw [List.eraseIdx_cons_succ]
    exact ((perm_eraseIdx h).cons y).trans (List.Perm.swap x y _)
theorem pull_perm : ∀ {is : List Nat} {Γ Γ1 R : List Chunk}, pull Γ is = some (Γ1, R) → Γ.Perm (Γ1 ++ R)
  | [], Γ, Γ1, R, h => by
    simp only [pull, Option.some.injEq, Prod.mk.injEq] at h
    obtain ⟨rfl, rfl⟩ := h
    exact List.Perm.refl _
  | i :: r, Γ, Γ1, R, h => by
    unfold pull at h
    split at h
    · rename_i c l R' h1 h2
      simp only [Option.some.injEq, Prod.mk.injEq] at h
      obtain ⟨rfl, rfl⟩ := h
      exact (perm_eraseIdx h1).trans ((pull_perm h2).cons c)
    · cases h
theorem Post.at_ {is : List Nat} {Γ1 Γ1' R : List Chunk} {w w' : World} (hp : pull Γ is = some (Γ1, R)) (hs : Sep.sat Γ w) (h : Post Γ1 Γ1' w w') : Post Γ (Γ1' ++ R) w w' :=
  Post.pre (pull_perm hp) (h.frame (hs.perm (pull_perm hp)))
theorem To.call {R : Value → List Chunk → Prop} {f : FuncId} {vs : List Value} {Γ1 Δ : List Chunk} (is : List Nat) (hg : grd ops ρ o = some true) (hd : o.dst = some d) (hn : Nat.blt d C.n = true) (he : Ent P o ρ f vs) (hp : pull Γ is = some (Γ1, Δ))
    (hc : Does P f vs Γ1 R) (k : ∀ v Γ', R v Γ' → To C ((d, v) :: ρ) (Γ' ++ Δ) (wpList P ops Q rest)) : To C ρ Γ (wpList P ops Q (o :: rest)) :=
  fun a w ha hq => by
    refine wpList_step fun K hK => ?_
    rw [if_pos (grd_wanted hg ha.sees)]
    unfold Oper.wp
    rw [he a w ha.sees]
    refine (hc w ((hq.sat.perm (pull_perm hp)).left)).mono ?_
    rintro e w' ⟨v, Γ', rfl, hR, hpost⟩
    show K _ _
    rw [hd]
    exact hK _ _ (k v Γ' hR _ w' (ha.put hn) (hq.trans (Post.at_ hp hq.sat hpost)))
/-- A call that is handed only what it may read. -/
theorem quiet_post {Γ1 Γ1' : List Chunk} {w w' : World} (hq : owns Γ1 = []) (h : Post Γ1 Γ1' w w') (hr : reads Γ1' = []) : Post [] Γ1' w w' :=
  ⟨h.sat, by have := h.keeps; rw [hq] at this; exact this, fun g hg hl => by have := h.own g hg hl; rw [hq] at this; exact this, fun g hg => by rw [hr] at hg; simp at hg⟩
theorem sat_of_oks {Γ1 : List Chunk} {w : World} (hq : owns Γ1 = []) (h : oks Γ1 w) : sat Γ1 w := ⟨h, by rw [hq]; simp, fun g _ => by rw [hq]; simp⟩
theorem To.callQ {R : Value → List Chunk → Prop} {f : FuncId} {vs : List Value} {Γ1 : List Chunk} (hg : grd ops ρ o = some true) (hd : o.dst = some d) (hn : Nat.blt d C.n = true) (he : Ent P o ρ f vs) (hc : Does P f vs Γ1 R) (hq : owns Γ1 = []) (hs : ∀ w, oks Γ w → oks Γ1 w)
    (k : ∀ v Γ', R v Γ' → reads Γ' = [] ∧ To C ((d, v) :: ρ) (Γ' ++ Γ) (wpList P ops Q rest)) : To C ρ Γ (wpList P ops Q (o :: rest)) :=
  fun a w ha hp => by
    refine wpList_step fun K hK => ?_
    rw [if_pos (grd_wanted hg ha.sees)]
    unfold Oper.wp
    rw [he a w ha.sees]
    refine (hc w (sat_of_oks hq (hs w hp.sat.each))).mono ?_
    rintro e w' ⟨v, Γ', rfl, hR, hpost⟩
    show K _ _
    rw [hd]
    obtain ⟨hr, hk⟩ := k v Γ' hR
    exact hK _ _ (hk _ w' (ha.put hn) (hp.trans ((quiet_post hq hpost hr).add hp.sat)))
theorem To.as (Δ : List Chunk) (h : Γ = Δ) {K : Act → World → Prop} (k : To C ρ Δ K) : To C ρ Γ K := by rw [h]; exact k
/-- Some of the chunks alone, in an order of one's own. -/
theorem To.only {Γ1 Δ : List Chunk} (is : List Nat) (hp : pull Γ is = some (Γ1, Δ)) {K : Act → World → Prop} (k : To C ρ Γ1 K) : To C ρ Γ K := To.perm (pull_perm hp) k.drop
/-- What is only read may be had twice. -/
theorem To.dup {c : Chunk} (i : Nat) (hi : Γ[i]? = some c) (ho : c.owns = []) {K : Act → World → Prop} (k : To C ρ (c :: Γ) K) : To C ρ Γ K := fun a w ha hq => by
  have hm : c ∈ Γ := List.mem_of_getElem? hi
  have e1 : owns (c :: Γ) = owns Γ := by simp [owns, ho]
  refine k a w ha ⟨⟨fun x hx => ?_, ?_, fun g hg => ?_⟩, hq.keeps, fun g hg => ?_, fun g hg => ?_⟩
  · rcases List.mem_cons.1 hx with rfl | h
    · exact hq.sat.each _ hm
    · exact hq.sat.each x h
  · rw [e1]; exact hq.sat.nodup
  · rw [e1]
    obtain ⟨x, hx, hgx⟩ := mem_reads.1 hg
    refine hq.sat.apart g (mem_reads.2 ⟨x, ?_, hgx⟩)
    rcases List.mem_cons.1 hx with rfl | h
    · exact hm
    · exact h
  · rw [e1] at hg; exact hq.own g hg
  · obtain ⟨x, hx, hgx⟩ := mem_reads.1 hg
    refine hq.rd g (mem_reads.2 ⟨x, ?_, hgx⟩)
    rcases List.mem_cons.1 hx with rfl | h
    · exact hm
    · exact h
end walk
end Go.Sep
namespace Go.Sep
open Go.RowKit Go.Flow Go.Mem

/-! ### what the table of types says -/
def RowTy (P : Program) (ty : TypeId) (n : Nat) : Prop := ∃ d, P.underlying ty = some d ∧ d.isRow = true ∧ (P.info? ty).map (·.size) = some n
def CellTy (P : Program) (ty : TypeId) : Prop := ∃ d, P.underlying ty = some d ∧ d.isRow = false ∧ (P.info? ty).map (·.size) = some 1
def ZeroTy (P : Program) (ty : TypeId) (zs : List Value) : Prop := (P.info? ty).bind (fun i => i.zero.map (·.cells.toList)) = some zs
def FieldTy (P : Program) (s : TypeId) (f k : Nat) : Prop := ∃ fs fd i, P.underlying s = some (.struct fs) ∧ fs[f]? = some fd ∧ fd.offset = k ∧ P.info? fd.type = some i ∧ 0 < i.size
structure SliceTy (P : Program) (t e : TypeId) (size bytes : Nat) (zs : List Value) : Prop where
  und : P.underlying t = some (.slice e)
  inf : ∃ i z, P.info? e = some i ∧ i.zero = some z ∧ i.size = size ∧ i.bytes = bytes ∧ z.cells = zs.toArray
  len : zs.length = size
  pos : 0 < size
  one : ∀ u ∈ zs, u.oneCell' = true
theorem RowTy.of {P : Program} {ty : TypeId} {n : Nat} {d : TypeDesc} (h : P.underlying ty = some d) (h1 : d.isRow = true) (h2 : (P.info? ty).map (·.size) = some n) : RowTy P ty n := ⟨d, h, h1, h2⟩
theorem CellTy.of {P : Program} {ty : TypeId} {d : TypeDesc} (h : P.underlying ty = some d) (h1 : d.isRow = false) (h2 : (P.info? ty).map (·.size) = some 1) : CellTy P ty := ⟨d, h, h1, h2⟩
theorem FieldTy.of {P : Program} {s : TypeId} {f k n : Nat} {fs : Array Field} {fd : Field} (h : P.underlying s = some (.struct fs)) (h1 : fs[f]? = some fd) (h2 : fd.offset = k) (h3 : (P.info? fd.type).map (·.size) = some (n + 1)) : FieldTy P s f k := by
  cases hi : P.info? fd.type with
  | none => rw [hi] at h3; cases h3
  | some i => rw [hi] at h3; simp at h3; exact ⟨fs, fd, i, h, h1, h2, hi, by omega⟩
theorem SliceTy.of {P : Program} {t e : TypeId} {size bytes : Nat} {z : Value} {zs : List Value} (h : P.underlying t = some (.slice e)) (h1 : (P.info? e).map (fun i => (i.zero, i.size, i.bytes)) = some (some z, size, bytes)) (h2 : z.cells = zs.toArray)
    (h3 : zs.length = size) (h4 : Nat.blt 0 size = true) (h5 : zs.all (·.oneCell') = true) : SliceTy P t e size bytes zs := by
  cases hi : P.info? e with
  | none => rw [hi] at h1; cases h1
  | some i =>
    rw [hi] at h1
    simp only [Option.map_some, Option.some.injEq, Prod.mk.injEq] at h1
    exact ⟨h, ⟨i, z, hi, h1.1, h1.2.1, h1.2.2, h2⟩, h3, Nat.le_of_ble_eq_true h4, List.all_eq_true.1 h5⟩

section rd
variable {P : Program} {o : Oper} {ρ : Slots} {Γ : List Chunk} {x y z : Operand} {u v : Value}
theorem Rd.move (ho : o.op = .move x) (hx : ev ρ x = some v) : Rd P o ρ Γ v := fun a w ha _ => by unfold execOp; simp [ho, ha.eval hx]
theorem Rd.assign (ho : o.op = .assign x) (hx : ev ρ x = some v) : Rd P o ρ Γ v := fun a w ha _ => by unfold execOp; simp [ho, ha.eval hx]
theorem Rd.pickT (ho : o.op = .pick x y z) (hx : ev ρ x = some (.bool true)) (hy : ev ρ y = some v) : Rd P o ρ Γ v := fun a w ha _ => by
  unfold execOp; simp [ho, ha.eval hx, ha.eval hy, asBool]
theorem Rd.pickF (ho : o.op = .pick x y z) (hx : ev ρ x = some (.bool false)) (hz : ev ρ z = some v) : Rd P o ρ Γ v := fun a w ha _ => by
  unfold execOp; simp [ho, ha.eval hx, ha.eval hz, asBool]
theorem Rd.field {s : TypeId} {f k b off : Nat} (ho : o.op = .fieldAddr s x f) (hx : ev ρ x = some (.pointer (some ⟨b, off, none⟩))) (hf : FieldTy P s f k) : Rd P o ρ Γ (.pointer (some ⟨b, off + k, none⟩)) := fun a w ha _ => by
  obtain ⟨fs, fd, i, h1, h2, h3, h4, h5⟩ := hf
  unfold execOp
  simp [ho, ha.eval hx, Instr.fieldAt, run_underlying h1, h2, Instr.sureAddr, fieldPlace, sizeOf, typeInfo, h4, Nat.ne_of_gt h5, h3, Addr.add_mid]
theorem Rd.not {t : TypeId} {b : Bool} (ho : o.op = .unOp .not t x) (hx : ev ρ x = some (.bool b)) : Rd P o ρ Γ (.bool (!b)) := fun a w ha _ => by
  unfold execOp; simp [ho, ha.eval hx, Op.unary]
theorem Rd.len {A : Option Addr} {n c : Nat} {t : TypeId} (ho : o.op = .call { callee := .builtin .len, args := #[x], argTypes := #[t] }) (hx : ev ρ x = some (.slice A n c)) {e : TypeId} (ht : P.underlying t = some (.slice e)) : Rd P o ρ Γ (.int .i64 n) := fun a w ha _ => by
  unfold execOp; simp [ho, resolve, invoke, builtin, ha.eval hx, Builtin.len_, run_underlying ht, goInt]
theorem Rd.bin {op : BinOp} {t t' : TypeId} {r : Value} (ho : o.op = .binOp op t x y t') (hx : ev ρ x = some u) (hy : ev ρ y = some v) (h : ∀ w, (do eqGuard op t x y u v; binOp op t u v : Sem Value).run P w = .ok r w) : Rd P o ρ Γ r := fun a w ha _ => by
  unfold execOp
  have := h w
  simp only [ho, ha.eval hx, ha.eval hy, Sem.run_bind] at this ⊢
  rw [this]; rfl
section ints
variable {k : IntKind} {m n : Int} {t t' : TypeId}
theorem Rd.lss (ho : o.op = .binOp .lss t x y t') (hx : ev ρ x = some (.int k m)) (hy : ev ρ y = some (.int k n)) : Rd P o ρ Γ (.bool (decide (m < n))) := Rd.bin ho hx hy fun w => by simp [eqGuard, binOp, Op.intCmp]
theorem Rd.leq (ho : o.op = .binOp .leq t x y t') (hx : ev ρ x = some (.int k m)) (hy : ev ρ y = some (.int k n)) : Rd P o ρ Γ (.bool (decide (m ≤ n))) := Rd.bin ho hx hy fun w => by simp [eqGuard, binOp, Op.intCmp]
theorem Rd.gtr (ho : o.op = .binOp .gtr t x y t') (hx : ev ρ x = some (.int k m)) (hy : ev ρ y = some (.int k n)) : Rd P o ρ Γ (.bool (decide (n < m))) := Rd.bin ho hx hy fun w => by simp [eqGuard, binOp, Op.intCmp]
theorem Rd.geq (ho : o.op = .binOp .geq t x y t') (hx : ev ρ x = some (.int k m)) (hy : ev ρ y = some (.int k n)) : Rd P o ρ Γ (.bool (decide (n ≤ m))) := Rd.bin ho hx hy fun w => by simp [eqGuard, binOp, Op.intCmp]
theorem Rd.eql (ho : o.op = .binOp .eql t x y t') (hx : ev ρ x = some (.int k m)) (hy : ev ρ y = some (.int k n)) : Rd P o ρ Γ (.bool (decide (m = n))) := Rd.bin ho hx hy fun w => by
  simp [eqGuard, binOp, Op.intCmp]; rfl
theorem Rd.neq (ho : o.op = .binOp .neq t x y t') (hx : ev ρ x = some (.int k m)) (hy : ev ρ y = some (.int k n)) : Rd P o ρ Γ (.bool (decide (m ≠ n))) := Rd.bin ho hx hy fun w => by
  simp [eqGuard, binOp, Op.intCmp]; rfl
theorem Rd.add (ho : o.op = .binOp .add t x y t') (hx : ev ρ x = some (.int k m)) (hy : ev ρ y = some (.int k n)) (h : k.wrap (m + n) = m + n) : Rd P o ρ Γ (.int k (m + n)) := Rd.bin ho hx hy fun w => by simp [eqGuard, binOp, Op.intArith, h]
theorem Rd.sub (ho : o.op = .binOp .sub t x y t') (hx : ev ρ x = some (.int k m)) (hy : ev ρ y = some (.int k n)) (h : k.wrap (m - n) = m - n) : Rd P o ρ Γ (.int k (m - n)) := Rd.bin ho hx hy fun w => by simp [eqGuard, binOp, Op.intArith, h]
theorem Rd.mul (ho : o.op = .binOp .mul t x y t') (hx : ev ρ x = some (.int k m)) (hy : ev ρ y = some (.int k n)) (h : k.wrap (m * n) = m * n) : Rd P o ρ Γ (.int k (m * n)) := Rd.bin ho hx hy fun w => by simp [eqGuard, binOp, Op.intArith, h]
theorem Rd.add64 (ho : o.op = .binOp .add t x y t') (hx : ev ρ x = some (.int .i64 m)) (hy : ev ρ y = some (.int .i64 n)) (h : -9223372036854775808 ≤ m + n ∧ m + n ≤ 9223372036854775807) : Rd P o ρ Γ (.int .i64 (m + n)) := Rd.add ho hx hy (IntWalk.i64_in _ (by omega))
theorem Rd.sub64 (ho : o.op = .binOp .sub t x y t') (hx : ev ρ x = some (.int .i64 m)) (hy : ev ρ y = some (.int .i64 n)) (h : -9223372036854775808 ≤ m - n ∧ m - n ≤ 9223372036854775807) : Rd P o ρ Γ (.int .i64 (m - n)) := Rd.sub ho hx hy (IntWalk.i64_in _ (by omega))
/-- A count goes up by one. -/
theorem Rd.inc {n : Nat} (ho : o.op = .binOp .add t x y t') (hx : ev ρ x = some (.int .i64 n)) (hy : ev ρ y = some (.int .i64 1)) (h : n < 9223372036854775807) : Rd P o ρ Γ (.int .i64 ((n + 1 : Nat) : Int)) := by
  have := Rd.add64 (P := P) (Γ := Γ) ho hx hy (by omega)
  rwa [show ((n : Int) + 1) = ((n + 1 : Nat) : Int) by omega] at this
end ints
theorem Rd.conv {s d : TypeId} {k k' : IntKind} {m : Int} {ds : TypeDesc} (ho : o.op = .convert s d x) (hx : ev ρ x = some (.int k m)) (hs : P.underlying s = some ds) (hd : P.underlying d = some (.int k')) (h : k'.wrap m = m) : Rd P o ρ Γ (.int k' m) := fun a w ha _ => by
  unfold execOp
  simp [ho, ha.eval hx, convert, run_underlying hs, run_underlying hd, Conv.intToInt, h]
theorem Rd.build {t : TypeId} {parts : List (Nat × Operand)} {vs : List (Nat × Value)} {cells : List Value} (ho : o.op = .build t parts.toArray) (hv : evs ρ (parts.map (·.2)) = some (vs.map (·.2))) (hi : parts.map (·.1) = vs.map (·.1)) (h : P.built t vs = some cells.toArray) : Rd P o ρ Γ (.agg cells.toArray) := fun a w ha _ => by
  have e1 : (parts.map fun p => (p.1, a.eval p.2)) = vs := by
    have h1 := ha.evals hv
    clear hv h ho
    induction parts generalizing vs with
    | nil => cases vs <;> simp_all
    | cons p r ih =>
      cases vs with
      | nil => simp at hi
      | cons q s =>
        simp only [List.map_cons, List.cons.injEq] at hi h1 ⊢
        exact ⟨by rw [hi.1, h1.1], ih (vs := s) hi.2 h1.2⟩
  unfold execOp
  simp only [ho, List.map_toArray, e1, Sem.run_bind, run_build w t vs.toArray cells.toArray h, Result.andThen_ok, Sem.run_pure]
theorem Rd.load {ty : TypeId} {b off i : Nat} {c : Chunk} (ho : o.op = .load ty x) (hx : ev ρ x = some (.pointer (some ⟨b, off, none⟩))) (ht : CellTy P ty) (hi : Γ[i]? = some c) (hc : c.gives b off [v]) : Rd P o ρ Γ v := fun a w ha hs => by
  obtain ⟨d, h1, h2, _⟩ := ht
  have hv : w.cell? ⟨b, off, none⟩ = some v := hc w (hs c (List.mem_of_getElem? hi)) 0 v rfl
  have hagg : (isAgg ty).run P w = .ok false w := by
    unfold isAgg
    rw [Sem.run_bind, run_underlying h1 w]
    cases d <;> simp_all
  unfold execOp
  simp [ho, ha.eval hx, Instr.loadAt, Instr.sureAddr, loadVar, hagg, hv]
theorem Rd.loadS {ty : TypeId} {b off n i : Nat} {c : Chunk} {us : List Value} (ho : o.op = .load ty x) (hx : ev ρ x = some (.pointer (some ⟨b, off, none⟩))) (ht : RowTy P ty n) (hi : Γ[i]? = some c) (hc : c.gives b off us) (hl : us.length = n) : Rd P o ρ Γ (.agg us.toArray) := fun a w ha hs => by
  obtain ⟨d, h1, h2, h3⟩ := ht
  unfold execOp
  simp only [ho, ha.eval hx, Sem.run_bind, run_loadAt_mid w b off ty us d (hc w (hs c (List.mem_of_getElem? hi))) h1 h2 (by rw [hl]; exact h3), Result.andThen_ok, Sem.run_pure]
/-- The address of an element: of a row of one's own, or of what is read. -/
theorem Rd.indexRow {t e ie : TypeId} {size size' bytes : Nat} {zs : List Value} {A : Option Addr} {n cap j i : Nat} {xs : List Value} {k : IntKind} (ho : o.op = .indexAddr t x y) (hx : ev ρ x = some (.slice A n cap)) (hy : ev ρ y = some (.int k j)) (ht : SliceTy P t e size bytes zs)
    (hi : Γ[i]? = some (row ie size' A n cap xs)) (hj : j < n) : Rd P o ρ Γ (.pointer (some ⟨blk A, ofs A + j * size, none⟩)) := fun a w ha hs => by
  have h1 := own_some (hs _ (List.mem_of_getElem? hi)) (by omega)
  obtain ⟨it, z, h2, h3, h4, _⟩ := ht.inf
  unfold execOp
  rw [h1] at hx
  have : ofs A = 0 := by rw [h1]; rfl
  rw [this]
  simp [ho, ha.eval hx, ha.eval hy, Instr.indexAt, asIntOf, run_underlying ht.und, hj, sizeOf, typeInfo, h2, h4, Addr.add_mid]
theorem src_some {w : World} {A : Option Addr} {xs : List Value} (h : Src w A xs) (hn : xs ≠ []) : A = some ⟨blk A, ofs A, none⟩ := by
  rcases h with h | ⟨g, off, rfl, _⟩
  · exact (hn h).elim
  · rfl
theorem Rd.indexRo {t e : TypeId} {size bytes : Nat} {zs : List Value} {A : Option Addr} {n cap j i : Nat} {xs : List Value} {k : IntKind} (ho : o.op = .indexAddr t x y) (hx : ev ρ x = some (.slice A n cap)) (hy : ev ρ y = some (.int k j)) (ht : SliceTy P t e size bytes zs)
    (hi : Γ[i]? = some (ro A xs)) (hj : j < n) (hn : n * size = xs.length) : Rd P o ρ Γ (.pointer (some ⟨blk A, ofs A + j * size, none⟩)) := fun a w ha hs => by
  have h0 : xs ≠ [] := fun h => by
    rw [h, List.length_nil] at hn
    have := Nat.mul_pos (Nat.lt_of_le_of_lt (Nat.zero_le j) hj) ht.pos
    omega
  have h1 := src_some (hs _ (List.mem_of_getElem? hi)) h0
  obtain ⟨it, z, h2, h3, h4, _⟩ := ht.inf
  unfold execOp
  rw [h1] at hx
  simp [ho, ha.eval hx, ha.eval hy, Instr.indexAt, asIntOf, run_underlying ht.und, hj, sizeOf, typeInfo, h2, h4, Addr.add_mid]
end rd
section up
variable {P : Program} {o : Oper} {ρ : Slots} {Γ : List Chunk} {x y z : Operand} {u v : Value}
theorem there_of {w : World} {g : Nat} {cs : Array Value} {t : TypeId} (h : w.heap[g]? = some (.cells cs t (0, 0))) {off n : Nat} (hn : off + n ≤ cs.size) : w.there g off n := fun j hj => by
  constructor
  · simp [World.cell?, h, Array.getElem?_eq_getElem (show off + j < cs.size by omega)]
  · simp [World.frozen?, h]
theorem box_setCell {w : World} {b : Nat} {cs : Array Value} {t : TypeId} {fz : Nat × Nat} (h : w.heap[b]? = some (.cells cs t fz)) (o : Nat) (u : Value) : (w.setCell ⟨b, o, none⟩ u).heap[b]? = some (.cells (cs.setIfInBounds o u) t fz) := by
  have hlt := lt_of_block h
  have h' : w.heap[b] = .cells cs t fz := by simpa [Array.getElem?_eq_getElem hlt] using h
  show (w.heap.modify b _)[b]? = _
  rw [Array.getElem?_eq_getElem (by simpa using hlt), Array.getElem_modify_self, h']
  rfl
theorem box_setCells {t : TypeId} {b : Nat} : ∀ (us : List Value) (off : Nat) (w : World) (cs : List Value), w.heap[b]? = some (.cells cs.toArray t (0, 0)) → off + us.length ≤ cs.length →
    (w.setCells b off us).heap[b]? = some (.cells (over cs off us).toArray t (0, 0))
  | [], off, w, cs, h, _ => by simpa [World.setCells, over] using h
  | u :: r, off, w, cs, h, hf => by
    simp only [List.length_cons] at hf
    have h1 : (w.setCell ⟨b, off, none⟩ u).heap[b]? = some (.cells (cs.set off u).toArray t (0, 0)) := by
      have := box_setCell h off u
      rwa [List.setIfInBounds_toArray] at this
    have := box_setCells r (off + 1) (w.setCell ⟨b, off, none⟩ u) (cs.set off u) h1 (by rw [List.length_set]; omega)
    rw [over_cons cs off u r (by omega)] at this
    exact this
theorem box_takes {b off : Nat} {cs us ds : List Value} {t : TypeId} (hl : Nat.ble (off + us.length) cs.length = true) (hd : over cs off us = ds) : (box b cs t).takes b off us (box b ds t) := fun w hw =>
  ⟨there_of hw (by simpa using Nat.le_of_ble_eq_true hl), by rw [← hd]; exact box_setCells us off w cs hw (Nat.le_of_ble_eq_true hl), by simp [box], rfl, rfl⟩
theorem row_takes {e : TypeId} {size : Nat} {A : Option Addr} {n cap off : Nat} {xs us ds : List Value} (hl : off + us.length ≤ n * size) (hu : us ≠ []) (hd : over xs off us = ds) : (row e size A n cap xs).takes (blk A) (ofs A + off) us (row e size A n cap ds) := fun w hw => by
  have hn : 0 < n := by
    rcases Nat.eq_zero_or_pos n with h | h
    · have : 0 < us.length := List.length_pos_iff.2 hu
      rw [h, Nat.zero_mul] at hl; omega
    · exact h
  have h1 := own_some hw hn
  have hw' : w.ownsRow 0 e size (.slice (some ⟨blk A, 0, none⟩) n cap) n xs := by rw [← h1]; exact hw
  have h0 : ofs A = 0 := by rw [h1]; rfl
  rw [h0, Nat.zero_add]
  refine ⟨own_there hw' off us.length hl, ?_, ?_, rfl, rfl⟩
  · show (w.setCells (blk A) off us).ownsRow 0 e size (.slice A n cap) n ds
    rw [h1, ← hd]; exact own_setCells us off w xs hw' hl
  · show blk A ∈ blks A
    exact mem_blks.2 ⟨_, h1, rfl⟩
theorem Post.takes {c c' : Chunk} {b off : Nat} {us : List Value} {w : World} (h : c.takes b off us c') (hw : Sep.sat [c] w) : w.there b off us.length ∧ Post [c] [c'] w (w.setCells b off us) := by
  obtain ⟨h1, h2, h3, h4, h5⟩ := h w (hw.each c (by simp))
  have e1 : owns [c'] = owns [c] := by simp [owns, h4]
  have e2 : reads [c'] = reads [c] := by simp [reads, h5]
  refine ⟨h1, ⟨by simpa using h2, by rw [e1]; exact hw.nodup, by rw [e1, e2]; exact hw.apart⟩, ?_, ?_, ?_⟩
  · exact (keeps_setCells b us off w).mono fun i _ hi => by rw [hi]; simpa [owns] using h3
  · intro g hg _; rw [e1] at hg; exact hg
  · intro g hg _; rw [e2] at hg; exact .inr hg
theorem set_perm {Γ : List Chunk} {i : Nat} {c : Chunk} (c' : Chunk) (hi : Γ[i]? = some c) : (c' :: Γ.eraseIdx i).Perm (Γ.set i c') := by
  have hlt : i < Γ.length := (List.getElem?_eq_some_iff.1 hi).1
  have h1 : (Γ.set i c')[i]? = some c' := by simp [hlt]
  have h2 := perm_eraseIdx h1
  rw [List.eraseIdx_set_eq] at h2
  exact h2.symm
/-- One chunk turns. -/
theorem Post.set {i : Nat} {c c' : Chunk} {w w' : World} (hi : Γ[i]? = some c) (hs : Sep.sat Γ w) (h : Post [c] [c'] w w') : Post Γ (Γ.set i c') w w' := by
  have p := perm_eraseIdx hi
  exact (Post.pre p (h.frame (Δ := Γ.eraseIdx i) (hs.perm p))).perm (set_perm c' hi)
theorem Up.store {ty : TypeId} {b off i : Nat} {c c' : Chunk} (ho : o.op = .store ty x y) (hx : ev ρ x = some (.pointer (some ⟨b, off, none⟩))) (hy : ev ρ y = some v) (ht : CellTy P ty) (hv : v.oneCell' = true) (hi : Γ[i]? = some c) (hc : c.takes b off [v] c') : Up P o ρ Γ (Γ.set i c') := fun a w ha hs => by
  obtain ⟨h1, h2⟩ := Post.takes hc ((hs.perm (perm_eraseIdx hi)).left (Γ := [c]))
  obtain ⟨d, _, _, h3⟩ := ht
  refine ⟨_, ?_, Post.set hi hs h2⟩
  have hcs : v.cells = #[v] := by cases v <;> simp_all [Value.cells, Value.oneCell']
  obtain ⟨it, h4, h5⟩ := Option.map_eq_some_iff.1 h3
  have h6 := h1 0 (by simp)
  simp only [Nat.add_zero] at h6
  cases hcell : w.cell? ⟨b, off, none⟩ with
  | none => rw [hcell] at h6; simp at h6
  | some u =>
    unfold execOp
    simp [ho, ha.eval hx, ha.eval hy, Instr.storeAt, Instr.sureAddr, storeVar, sizeOf, typeInfo, h4, h5, hcs, storeCells, Addr.add, run_store P w ⟨b, off, none⟩ v .plain hv, hcell, h6.2, World.setCells]
theorem Up.storeS {ty : TypeId} {b off i n : Nat} {c c' : Chunk} {us : List Value} (ho : o.op = .store ty x y) (hx : ev ρ x = some (.pointer (some ⟨b, off, none⟩))) (hy : ev ρ y = some (.agg us.toArray)) (ht : RowTy P ty n) (hl : us.length = n) (hv : us.all (·.oneCell') = true) (hi : Γ[i]? = some c) (hc : c.takes b off us c') : Up P o ρ Γ (Γ.set i c') := fun a w ha hs => by
  obtain ⟨h1, h2⟩ := Post.takes hc ((hs.perm (perm_eraseIdx hi)).left (Γ := [c]))
  obtain ⟨d, _, _, h3⟩ := ht
  refine ⟨_, ?_, Post.set hi hs h2⟩
  unfold execOp
  simp only [ho, ha.eval hx, ha.eval hy, Sem.run_bind, run_storeAt_mid w b off ty us.toArray (by simpa using h1) (by rw [h3, ← hl]; simp) (by simpa using hv), Result.andThen_ok, Sem.run_pure]
/-- A new block. -/
theorem Post.new {c : Chunk} {w : World} {ob : Obj} (hc : c.holds (w.alloc ob)) (ho : c.owns = [w.heap.size]) (hr : c.reads = []) : Post [] [c] w (w.alloc ob) :=
  ⟨⟨by simpa using hc, by simp [owns, ho], by simp [reads, hr]⟩, Keeps.of_ext (Ext.new w ob), fun g hg hl => by simp [owns, ho] at hg; omega, fun g hg => by simp [reads, hr] at hg⟩
theorem Mk.alloc {ty : TypeId} {zs : List Value} (ho : o.op = .alloc ty) (hz : ZeroTy P ty zs) : Mk P o ρ Γ (fun v N => ∃ b, v = .pointer (some ⟨b, 0, none⟩) ∧ N = [box b zs ty]) := fun a w _ _ => by
  obtain ⟨it, h1, h2⟩ := Option.bind_eq_some_iff.1 hz
  obtain ⟨zv, h3, h4⟩ := Option.map_eq_some_iff.1 h2
  refine ⟨_, _, w.alloc (.cells zs.toArray ty), ?_, ⟨w.heap.size, rfl, rfl⟩, Post.new (heap_alloc_new _ _) rfl rfl⟩
  have h5 : zv.cells = zs.toArray := by rw [← h4]
  unfold execOp
  simp [ho, Instr.alloc, zeroValue, typeInfo, h1, h3, newVar, newRow, h5]
theorem Mk.box {ty : TypeId} {us : List Value} (ho : o.op = .box ty x) (hx : ev ρ x = some u) (hu : u.cells = us.toArray) : Mk P o ρ Γ (fun v N => ∃ b, v = .pointer (some ⟨b, 0, none⟩) ∧ N = [Sep.box b us ty]) := fun a w ha _ => by
  refine ⟨_, _, w.alloc (.cells us.toArray ty), ?_, ⟨w.heap.size, rfl, rfl⟩, Post.new (heap_alloc_new _ _) rfl rfl⟩
  unfold execOp
  simp [ho, ha.eval hx, Instr.box, newVar, newRow, hu]
theorem row_new {e : TypeId} {size n : Nat} {w : World} {us : List Value} (hl : us.length = n * size) (hn : n ≤ maxLen) : (row e size (some ⟨w.heap.size, 0, none⟩) n n us).holds (w.alloc (.cells us.toArray e)) := by
  have := World.ownsRow_lit (base := 0) (e := e) (size := size) w us.toArray n (Nat.zero_le _) hn (by simpa using hl)
  show (w.alloc (.cells us.toArray e)).ownsRow 0 e size _ n us
  simpa using this
theorem Mk.slice0 {t e : TypeId} {size bytes : Nat} {zs : List Value} (ho : o.op = .buildSlice t 0 #[]) (ht : SliceTy P t e size bytes zs) : Mk P o ρ Γ (fun v N => ∃ A, v = .slice A 0 0 ∧ N = [row e size A 0 0 []]) := fun a w _ _ => by
  refine ⟨_, _, w.alloc (.cells #[] e), ?_, ⟨some ⟨w.heap.size, 0, none⟩, rfl, rfl⟩, Post.new (row_new (us := []) (by simp) (by simp [maxLen])) rfl rfl⟩
  obtain ⟨i, z, h1, h2, h3, _⟩ := ht.inf
  unfold execOp
  simp [ho, Instr.buildSlice, run_underlying ht.und, sizeOf, typeInfo, h1, Instr.fill, newRow]
  rw [show Array.map (fun (_ : Nat) => (default : Value)) (Array.range 0) = #[] from Array.eq_empty_of_size_eq_zero (by simp)]
theorem Mk.sliceN {t e : TypeId} {size bytes len : Nat} {zs : List Value} {parts : List (Nat × Operand)} {vs us : List Value} (ho : o.op = .buildSlice t len parts.toArray) (ht : SliceTy P t e size bytes zs) (hv : evs ρ (parts.map (·.2)) = some vs) (hi : parts.map (·.1) = List.range' 0 len)
    (hlen : Nat.blt 0 len = true) (hsm : Nat.ble (len * size) 16777216 = true) (hsz : vs.all (fun v => Nat.beq v.cells.size size) = true) (hu : (vs.flatMap fun v => v.cells.toList) = us) : Mk P o ρ Γ (fun v N => ∃ b, v = .slice (some ⟨b, 0, none⟩) len len ∧ N = [row e size (some ⟨b, 0, none⟩) len len us]) := fun a w ha _ => by
  replace hlen := Nat.le_of_ble_eq_true hlen
  replace hsm := Nat.le_of_ble_eq_true hsm
  obtain ⟨it, z, h1, h2, h3, h4, h5⟩ := ht.inf
  have hev := ha.evals hv
  have hl : vs.length = len := by
    have := congrArg List.length hev
    have h2 := congrArg List.length hi
    simp at this h2; omega
  have hall : ∀ v ∈ vs, v.cells.size = size := fun v hv => Nat.eq_of_beq_eq_true (List.all_eq_true.1 hsz v hv)
  have hlu : us.length = len * size := by
    rw [← hu]
    clear hu hsz hev hv
    subst hl
    clear hi ho hlen hsm
    induction vs with
    | nil => simp
    | cons v r ih =>
      have := ih (fun v hv => hall v (by simp [hv]))
      have h6 := hall v (by simp)
      simp only [List.flatMap_cons, List.length_append, List.length_cons, Array.length_toList]
      rw [this, h6, Nat.add_mul]; omega
  have hle : len ≤ len * size := Nat.le_mul_of_pos_right _ ht.pos
  refine ⟨_, _, w.alloc (.cells us.toArray e), ?_, ⟨w.heap.size, rfl, rfl⟩, Post.new (row_new hlu (by simp only [maxLen]; omega)) rfl rfl⟩
  have e1 : (parts.map fun p => (p.1, a.eval p.2)) = (vs.zipIdx 0).map fun x => (x.2, x.1) := by
    clear hv hu hsz hall hlu hle ho
    rw [← hl] at hi
    clear hl hlen hsm
    generalize 0 = k at hi ⊢
    induction parts generalizing vs k with
    | nil => cases vs <;> simp_all
    | cons p r ih =>
      cases vs with
      | nil => simp at hev
      | cons q s =>
        simp only [List.map_cons, List.cons.injEq, List.length_cons, List.range'_succ] at hi hev
        simp only [List.map_cons, List.zipIdx_cons, List.cons.injEq]
        exact ⟨by rw [hi.1, hev.1], ih (vs := s) hev.2 _ hi.2⟩
  unfold execOp
  simp only [ho, List.map_toArray, e1]
  rw [Sem.run_bind, run_buildSlice w t e len _ us.toArray it z ht.und h1 h2 (by rw [h3]; omega) (by rw [h3]; omega) ?_]
  · simp
  · rw [h3, ← hu]
    exact Great.fill_whole ht.pos vs _ hall (by rw [hl]; simp)
end up
section ge
variable {P : Program} {o : Oper} {ρ : Slots} {Γ : List Chunk} {x y z : Operand} {u v : Value}
/-- append(s, x...): s is a row of one's own, the source lies in any chunk that gives it. -/
theorem Ge.append {t e : TypeId} {size bytes : Nat} {zs xs us : List Value} {A B : Option Addr} {n cap m c i : Nat} (ho : o.op = .call { callee := .builtin .append, args := #[x, y], argTypes := #[t, t] }) (ht : SliceTy P t e size bytes zs)
    (hx : ev ρ x = some (.slice A n cap)) (hy : ev ρ y = some (.slice B m c)) (hi : Γ[i]? = some (row e size A n cap xs)) (hsrc : ∀ w, sat Γ w → Src w B us) (hu : us.length = m * size) (h1 : ∀ u ∈ us, u.oneCell' = true) (h63 : n + m ≤ maxLen) (hby : (n + m) * bytes ≤ 140737488355328) :
    Ge P o ρ Γ (fun v Γ' => ∃ A' cap', v = .slice A' (n + m) cap' ∧ Γ' = Γ.set i (row e size A' (n + m) cap' (xs ++ us))) := fun a w ha hs => by
  obtain ⟨it, zv, h2, h3, h4, h5, h6⟩ := ht.inf
  have hrow : w.ownsRow 0 e size (.slice A n cap) n xs := hs.each _ (List.mem_of_getElem? hi)
  obtain ⟨v', w', hrun, h7, h8, h9⟩ := run_append_from (P := P) w 0 t o.type e it zv size bytes ht.und h2 h3 h4 h5 (by rw [h6]; simpa using ht.len) ht.pos _ n xs hrow B m c us hu (hsrc w hs) h1 h63 hby (Nat.zero_le _)
  obtain ⟨A', cap', rfl, _⟩ := own_form h7
  have hb : ∀ g, g ∈ blks A' → g ∈ blks A ∨ g = w.heap.size := fun g hg => by
    obtain ⟨ad, rfl, rfl⟩ := mem_blks.1 hg
    rcases h9 with h9 | h9
    · refine .inl (mem_blks.2 ?_)
      cases A with
      | none => simp [Value.ownBlock] at h9
      | some a' => simp [Value.ownBlock] at h9; exact ⟨a', rfl, h9.symm⟩
    · simp [Value.ownBlock] at h9; exact .inr h9
  refine ⟨_, _, w', ?_, ⟨A', cap', rfl, rfl⟩, Post.set hi hs ⟨⟨fun c hc => by rw [List.mem_singleton.1 hc]; exact h7, ?_, by simp [reads, row]⟩, ?_, ?_, by simp [reads, row]⟩⟩
  · unfold execOp
    simp only [ho, resolve, invoke, builtin, Sem.run_bind, Sem.run_pure, Result.andThen_ok, List.map_toArray, List.map_cons, List.map_nil, ha.eval hx, ha.eval hy, hrun]
  · cases A' <;> simp [owns, row, blks]
  · refine h8.mono fun g _ hg => ?_
    cases A with
    | none => simp [Value.ownBlock] at hg
    | some a' => simp [Value.ownBlock] at hg; simp [owns, row, blks, hg]
  · intro g hg hl
    have hg' : g ∈ blks A' := by simpa [owns, row] using hg
    rcases hb g hg' with h | h
    · simpa [owns, row] using h
    · omega
theorem src_row {e : TypeId} {size : Nat} {A : Option Addr} {n cap i : Nat} {xs : List Value} (hi : Γ[i]? = some (row e size A n cap xs)) : ∀ w, sat Γ w → Src w A xs := fun w hs => by
  obtain ⟨A', cap', h1, h2, _⟩ := own_form (show w.ownsRow 0 e size (.slice A n cap) n xs from hs.each _ (List.mem_of_getElem? hi))
  simp only [Value.slice.injEq] at h1
  rw [h1.1]; exact h2
theorem src_ro {A : Option Addr} {i : Nat} {xs : List Value} (hi : Γ[i]? = some (ro A xs)) : ∀ w, sat Γ w → Src w A xs := fun _ hs => hs.each _ (List.mem_of_getElem? hi)
theorem src_nil {A : Option Addr} : ∀ w, sat Γ w → Src w A [] := fun _ _ => .inl rfl
theorem Mk.make0 {t e : TypeId} {size bytes c : Nat} {zs : List Value} {kl kc : IntKind} (ho : o.op = .makeSlice t x y) (ht : SliceTy P t e size bytes zs) (hx : ev ρ x = some (.int kl 0)) (hy : ev ρ y = some (.int kc (c : Int))) (hb : bytes * c ≤ 281474976710656) (hc : c ≤ maxLen) :
    Mk P o ρ Γ (fun v N => ∃ b, v = .slice (some ⟨b, 0, none⟩) 0 c ∧ N = [row e size (some ⟨b, 0, none⟩) 0 c []]) := fun a w ha _ => by
  obtain ⟨it, zv, h2, h3, h4, h5, h6⟩ := ht.inf
  obtain ⟨w', hr, h7, h8⟩ := run_make_own (P := P) w 0 t e it zv size ht.und h2 h3 h4 kl kc c (by rw [h5]; exact hb) hc (Nat.zero_le _)
  refine ⟨_, _, w', ?_, ⟨w.heap.size, rfl, rfl⟩, ⟨⟨fun c hc => by rw [List.mem_singleton.1 hc]; exact h7, by simp [owns, row, blks], by simp [reads, row]⟩, (Keeps.of_grown h8 (run_drawn _ _ _ _ hr)).mono fun _ _ h => by simp at h, fun g hg hl => ?_, by simp [reads, row]⟩⟩
  · unfold execOp
    simp only [ho, ha.eval hx, ha.eval hy, Sem.run_bind, hr, Result.andThen_ok, Sem.run_pure]
  · simp [owns, row, blks] at hg; omega
theorem madeCells_list (zs : List Value) (n : Nat) (h : zs.length = 1) : (madeCells zs.toArray (n * 1)).toList = (List.replicate n zs).flatten := by
  match zs, h with
  | [z], _ =>
    apply List.ext_getElem?
    intro k
    have e1 : (List.replicate n [z]).flatten = List.replicate n z := by
      induction n with
      | zero => rfl
      | succ n ih => simp [List.replicate_succ, ih]
    rw [e1]
    unfold madeCells
    by_cases hk : k < n
    · simp [hk, Nat.mod_one]
    · simp [hk]
theorem Mk.makeN {t e : TypeId} {size bytes n : Nat} {zs : List Value} {kl kc : IntKind} (ho : o.op = .makeSlice t x y) (ht : SliceTy P t e size bytes zs) (hx : ev ρ x = some (.int kl (n : Int))) (hy : ev ρ y = some (.int kc (n : Int))) (hb : bytes * n ≤ 281474976710656) (hc : n ≤ maxLen) :
    Mk P o ρ Γ (fun v N => ∃ b, v = .slice (some ⟨b, 0, none⟩) n n ∧ N = [row e size (some ⟨b, 0, none⟩) n n (madeCells zs.toArray (n * size)).toList]) := fun a w ha _ => by
  obtain ⟨it, zv, h2, h3, h4, h5, h6⟩ := ht.inf
  obtain ⟨w', hr, h7, h8⟩ := run_make_full (P := P) w 0 t e it zv size ht.und h2 h3 h4 kl kc n (by rw [h5]; exact hb) hc (Nat.zero_le _)
  rw [h6] at h7
  refine ⟨_, _, w', ?_, ⟨w.heap.size, rfl, rfl⟩, ⟨⟨fun c hc => by rw [List.mem_singleton.1 hc]; exact h7, by simp [owns, row, blks], by simp [reads, row]⟩, (Keeps.of_grown h8 (run_drawn _ _ _ _ hr)).mono fun _ _ h => by simp at h, fun g hg hl => ?_, by simp [reads, row]⟩⟩
  · unfold execOp
    simp only [ho, ha.eval hx, ha.eval hy, Sem.run_bind, hr, Result.andThen_ok, Sem.run_pure]
  · simp [owns, row, blks] at hg; omega
def callable (P : Program) (f : FuncId) : Bool := match P.funcs[f]? with
  | some fn => !(fn.name == "runtime.NumGoroutine") && fn.body.isSome
  | none => false
theorem run_callFunc {f : FuncId} (h : callable P f = true) (args : Array Value) (w : World) : (callFunc f args).run P w = .ok (.enter f args) w := by
  unfold callable at h
  split at h
  · rename_i fn hf
    simp only [Bool.and_eq_true, Bool.not_eq_true'] at h
    have h1 : fn.name ≠ "runtime.NumGoroutine" := by simpa using h.1
    have h2 : fn.body ≠ none := by cases hb : fn.body <;> simp_all
    unfold callFunc
    simp [hf, h1, h2]
  · cases h
theorem Ent.func {f : FuncId} {xs : List Operand} {ts : Array TypeId} {vs : List Value} {c : Operand} {first captured : List Value} (ho : o.op = .call { callee := .value c, args := xs.toArray, argTypes := ts }) (hc : ev ρ c = some (.func (.func f) first.toArray captured.toArray)) (hv : evs ρ xs = some vs) (hf : callable P f = true) :
    Ent P o ρ f (first ++ vs ++ captured) := fun a w ha => by
  unfold execOp
  simp only [ho, resolve, ha.eval hc, List.map_toArray, ha.evals hv, Deferred.ofValue, invoke, Sem.run_bind, Sem.run_pure, Result.andThen_ok, run_callFunc hf]
  simp
theorem Ent.fn {f : FuncId} {xs : List Operand} {ts : Array TypeId} {vs : List Value} (ho : o.op = .call { callee := .value (.func f), args := xs.toArray, argTypes := ts }) (hv : evs ρ xs = some vs) (hf : callable P f = true) : Ent P o ρ f vs := fun a w ha => by
  have := Ent.func (P := P) (ρ := ρ) (first := []) (captured := []) ho rfl hv hf a w ha
  simpa using this
theorem Rd.extract {i : Nat} {vs : List Value} (ho : o.op = .extract x i) (hx : ev ρ x = some (.tuple vs.toArray)) (hv : vs[i]? = some v) : Rd P o ρ Γ v := fun a w ha _ => by
  unfold execOp
  simp [ho, ha.eval hx, Instr.extract, hv]
end ge
end Go.Sep
