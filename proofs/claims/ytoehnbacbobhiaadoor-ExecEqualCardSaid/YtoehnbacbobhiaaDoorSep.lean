/- A logic of slots and chunks over the walk: the state is a list of slots and a list of chunks of memory. Own text. -/
import Derived.Test.YtoehnbacbobhiaaDoorMem
import Derived.Deep.LoopGhost
namespace Go.Sep
open Go.RowKit Go.Flow Go.Mem

/-! ### slots -/
abbrev Slots := List (Nat × Value)
def look : Slots → Nat → Option Value
  | [], _ => none
  | (k, v) :: r, t => bif Nat.beq k t then some v else look r t
def ev (ρ : Slots) : Operand → Option Value
  | .tmp t => look ρ t
  | .const v => some v
  | .global g => some (.pointer (some ⟨g, 0, none⟩))
  | .func f => some (.func (.func f) #[] #[])
def evs (ρ : Slots) : List Operand → Option (List Value)
  | [] => some []
  | x :: r => match ev ρ x, evs ρ r with
    | some v, some l => some (v :: l)
    | _, _ => none
def Sees (ρ : Slots) (a : Act) : Prop := ∀ t v, look ρ t = some v → a.tmps[t]? = some v
structure Has (n : Nat) (ds : List Deferred) (ρ : Slots) (a : Act) : Prop where
  size : a.tmps.size = n
  defers : a.defers = ds
  sees : Sees ρ a
theorem Sees.eval {ρ : Slots} {a : Act} (h : Sees ρ a) {x : Operand} {v : Value} (hx : ev ρ x = some v) : a.eval x = v := by
  cases x with
  | tmp t => simp only [Act.eval]; rw [Array.getD_eq_getD_getElem?, h t v hx]; rfl
  | const u => exact Option.some.inj hx
  | global g => exact Option.some.inj hx
  | func f => exact Option.some.inj hx
theorem Sees.evals {ρ : Slots} {a : Act} (h : Sees ρ a) : ∀ {xs : List Operand} {vs : List Value}, evs ρ xs = some vs → xs.map a.eval = vs
  | [], vs, hx => by simp [evs] at hx; simp [← hx]
  | x :: r, vs, hx => by
    unfold evs at hx
    split at hx
    · rename_i v l h1 h2
      simp only [Option.some.injEq] at hx
      rw [List.map_cons, h.eval h1, h.evals h2, ← hx]
    · cases hx
theorem Sees.put {ρ : Slots} {a : Act} (h : Sees ρ a) {d : Nat} {v : Value} (hd : d < a.tmps.size) : Sees ((d, v) :: ρ) (a.put (some d) v) := by
  intro t u ht
  unfold look at ht
  simp only [Act.put]
  rw [Array.getElem?_setIfInBounds]
  cases hb : Nat.beq d t with
  | true =>
    have e := Nat.eq_of_beq_eq_true hb
    rw [hb] at ht
    simp only [cond_true, Option.some.injEq] at ht
    rw [if_pos e, if_pos hd, ht]
  | false =>
    have e : d ≠ t := fun e => by rw [e, Nat.beq_refl] at hb; cases hb
    rw [hb] at ht
    rw [if_neg e]
    exact h t u ht
theorem Has.put {n : Nat} {ds : List Deferred} {ρ : Slots} {a : Act} (h : Has n ds ρ a) {d : Nat} {v : Value} (hd : Nat.blt d n = true) : Has n ds ((d, v) :: ρ) (a.put (some d) v) :=
  ⟨by simp [Act.put, h.size], h.defers, h.sees.put (by rw [h.size]; exact Nat.le_of_ble_eq_true hd)⟩
/-- Every slot of the second list stands in the first. -/
def subs (ρ : Slots) : Slots → Prop
  | [] => True
  | (k, v) :: r => look ρ k = some v ∧ subs ρ r
theorem subs.look {ρ : Slots} : ∀ {ρ' : Slots}, subs ρ ρ' → ∀ t v, look ρ' t = some v → Sep.look ρ t = some v
  | [], _, t, v, h => by simp [Sep.look] at h
  | (k, u) :: r, hs, t, v, h => by
    unfold Sep.look at h
    cases hb : Nat.beq k t with
    | true =>
      rw [hb] at h
      simp only [cond_true, Option.some.injEq] at h
      rw [← Nat.eq_of_beq_eq_true hb, ← h]; exact hs.1
    | false => rw [hb] at h; exact hs.2.look t v h
theorem Has.sub {n : Nat} {ds : List Deferred} {ρ ρ' : Slots} {a : Act} (h : Has n ds ρ a) (hs : subs ρ ρ') : Has n ds ρ' a := ⟨h.size, h.defers, fun t v ht => h.sees t v (hs.look t v ht)⟩
def slotsOf : Nat → List Value → Slots
  | _, [] => []
  | k, v :: r => (k, v) :: slotsOf (k + 1) r
theorem slotsOf_look : ∀ (l : List Value) (k t : Nat) (v : Value), look (slotsOf k l) t = some v → k ≤ t ∧ l[t - k]? = some v
  | [], k, t, v, h => by simp [slotsOf, look] at h
  | u :: r, k, t, v, h => by
    unfold slotsOf look at h
    cases hb : Nat.beq k t with
    | true =>
      have e := Nat.eq_of_beq_eq_true hb
      rw [hb] at h
      simp only [cond_true, Option.some.injEq] at h
      subst e; subst h
      exact ⟨Nat.le_refl _, by simp⟩
    | false =>
      rw [hb] at h
      obtain ⟨h1, h2⟩ := slotsOf_look r (k + 1) t v h
      refine ⟨by omega, ?_⟩
      have : t - k = (t - (k + 1)) + 1 := by omega
      rw [this, List.getElem?_cons_succ]; exact h2
theorem Has.start (l : List Value) (n : Nat) (hn : Nat.ble l.length n = true) : Has n [] (slotsOf 0 l) { tmps := l.toArray ++ Array.replicate (n - l.toArray.size) undef, defers := [] } := by
  have hn := Nat.le_of_ble_eq_true hn
  refine ⟨by simp; omega, rfl, fun t v ht => ?_⟩
  obtain ⟨_, h2⟩ := slotsOf_look l 0 t v ht
  have hlt : t < l.length := by
    rcases Nat.lt_or_ge t l.length with h | h
    · exact h
    · rw [Nat.sub_zero, List.getElem?_eq_none h] at h2; cases h2
  rw [Array.getElem?_append_left (by simpa using hlt)]
  simpa using h2

/-! ### chunks -/
structure Chunk where
  owns : List Nat
  reads : List Nat
  holds : World → Prop
  loc : ∀ w w' : World, (∀ g, g ∈ owns ∨ g ∈ reads → w'.heap[g]? = w.heap[g]?) → holds w → holds w'
  lt : ∀ w : World, holds w → ∀ g, g ∈ owns ∨ g ∈ reads → g < w.heap.size
def owns (Γ : List Chunk) : List Nat := Γ.flatMap Chunk.owns
def reads (Γ : List Chunk) : List Nat := Γ.flatMap Chunk.reads
structure sat (Γ : List Chunk) (w : World) : Prop where
  each : ∀ c ∈ Γ, c.holds w
  nodup : (owns Γ).Nodup
  apart : ∀ g ∈ reads Γ, g ∉ owns Γ
theorem mem_owns {Γ : List Chunk} {g : Nat} : g ∈ owns Γ ↔ ∃ c ∈ Γ, g ∈ c.owns := by simp [owns]
theorem mem_reads {Γ : List Chunk} {g : Nat} : g ∈ reads Γ ↔ ∃ c ∈ Γ, g ∈ c.reads := by simp [reads]
theorem sat.lt_own {Γ : List Chunk} {w : World} (h : sat Γ w) {g : Nat} (hg : g ∈ owns Γ) : g < w.heap.size := by
  obtain ⟨c, hc, hgc⟩ := mem_owns.1 hg
  exact c.lt w (h.each c hc) g (.inl hgc)
theorem sat.lt_read {Γ : List Chunk} {w : World} (h : sat Γ w) {g : Nat} (hg : g ∈ reads Γ) : g < w.heap.size := by
  obtain ⟨c, hc, hgc⟩ := mem_reads.1 hg
  exact c.lt w (h.each c hc) g (.inr hgc)
theorem sat.nil (w : World) : sat [] w := ⟨by simp, by simp [owns], by simp [reads]⟩
theorem sat.ext {Γ : List Chunk} {w w' : World} (h : sat Γ w) (k : Ext w w') : sat Γ w' :=
  ⟨fun c hc => c.loc w w' (fun g hg => k.block g (c.lt w (h.each c hc) g hg)) (h.each c hc), h.nodup, h.apart⟩
theorem owns_append (Γ Δ : List Chunk) : owns (Γ ++ Δ) = owns Γ ++ owns Δ := by simp [owns]
theorem reads_append (Γ Δ : List Chunk) : reads (Γ ++ Δ) = reads Γ ++ reads Δ := by simp [reads]
theorem sat.perm {Γ Δ : List Chunk} {w : World} (h : sat Γ w) (p : Γ.Perm Δ) : sat Δ w :=
  ⟨fun c hc => h.each c (p.mem_iff.2 hc), (p.flatMap_right Chunk.owns).nodup_iff.1 h.nodup, fun g hg hn => by
    obtain ⟨c, hc, hgc⟩ := mem_reads.1 hg
    obtain ⟨d, hd, hgd⟩ := mem_owns.1 hn
    exact h.apart g (mem_reads.2 ⟨c, p.mem_iff.2 hc, hgc⟩) (mem_owns.2 ⟨d, p.mem_iff.2 hd, hgd⟩)⟩
theorem sat.left {Γ Δ : List Chunk} {w : World} (h : sat (Γ ++ Δ) w) : sat Γ w :=
  ⟨fun c hc => h.each c (List.mem_append_left _ hc), by have := h.nodup; rw [owns_append] at this; exact (List.nodup_append.1 this).1,
    fun g hg hn => h.apart g (by rw [reads_append]; exact List.mem_append_left _ hg) (by rw [owns_append]; exact List.mem_append_left _ hn)⟩
theorem sat.right {Γ Δ : List Chunk} {w : World} (h : sat (Γ ++ Δ) w) : sat Δ w :=
  ⟨fun c hc => h.each c (List.mem_append_right _ hc), by have := h.nodup; rw [owns_append] at this; exact (List.nodup_append.1 this).2.1,
    fun g hg hn => h.apart g (by rw [reads_append]; exact List.mem_append_right _ hg) (by rw [owns_append]; exact List.mem_append_right _ hn)⟩
/-- What a call, or an operation, leaves of chunks Γ: chunks Γ'. -/
structure Post (Γ Γ' : List Chunk) (w w' : World) : Prop where
  sat : sat Γ' w'
  keeps : Keeps (fun g => g ∈ owns Γ) w w'
  own : ∀ g ∈ owns Γ', g < w.heap.size → g ∈ owns Γ
  rd : ∀ g ∈ reads Γ', g < w.heap.size → g ∈ owns Γ ∨ g ∈ reads Γ
/-- THE FRAME. -/
theorem Post.frame {Γ Γ' Δ : List Chunk} {w w' : World} (hs : Sep.sat (Γ ++ Δ) w) (h : Post Γ Γ' w w') : Post (Γ ++ Δ) (Γ' ++ Δ) w w' := by
  have hd := hs.right
  have hnd := hs.nodup
  rw [owns_append] at hnd
  have hdis : ∀ g ∈ owns Γ, g ∉ owns Δ := fun g h1 h2 => (List.nodup_append.1 hnd).2.2 g h1 g h2 rfl
  have hrd : ∀ g ∈ reads Δ, g ∉ owns Γ := fun g h1 h2 => hs.apart g (by rw [reads_append]; exact List.mem_append_right _ h1) (by rw [owns_append]; exact List.mem_append_left _ h2)
  have hro : ∀ g ∈ reads Γ, g ∉ owns Δ := fun g h1 h2 => hs.apart g (by rw [reads_append]; exact List.mem_append_left _ h1) (by rw [owns_append]; exact List.mem_append_right _ h2)
  refine ⟨⟨?_, ?_, ?_⟩, ?_, ?_, ?_⟩
  · intro c hc
    rcases List.mem_append.1 hc with h1 | h1
    · exact h.sat.each c h1
    · refine c.loc w w' (fun g hg => h.keeps.block g (c.lt w (hd.each c h1) g hg) ?_) (hd.each c h1)
      rcases hg with hg | hg
      · exact fun h2 => hdis g h2 (mem_owns.2 ⟨c, h1, hg⟩)
      · exact hrd g (mem_reads.2 ⟨c, h1, hg⟩)
  · rw [owns_append]
    refine List.nodup_append.2 ⟨h.sat.nodup, hd.nodup, ?_⟩
    intro g h1 g' h2 e
    subst e
    exact hdis g (h.own g h1 (hd.lt_own h2)) h2
  · intro g hg hn
    rw [reads_append] at hg
    rw [owns_append] at hn
    rcases List.mem_append.1 hg with h1 | h1 <;> rcases List.mem_append.1 hn with h2 | h2
    · exact h.sat.apart g h1 h2
    · rcases h.rd g h1 (hd.lt_own h2) with h3 | h3
      · exact hdis g h3 h2
      · exact hro g h3 h2
    · exact hrd g h1 (h.own g h2 (hd.lt_read h1))
    · exact hd.apart g h1 h2
  · exact h.keeps.mono fun g _ hg => by rw [owns_append]; exact List.mem_append_left _ hg
  · intro g hg hl
    rw [owns_append] at hg ⊢
    rcases List.mem_append.1 hg with h1 | h1
    · exact List.mem_append_left _ (h.own g h1 hl)
    · exact List.mem_append_right _ h1
  · intro g hg hl
    rw [reads_append] at hg ⊢
    rw [owns_append]
    rcases List.mem_append.1 hg with h1 | h1
    · rcases h.rd g h1 hl with h2 | h2
      · exact .inl (List.mem_append_left _ h2)
      · exact .inr (List.mem_append_left _ h2)
    · exact .inr (List.mem_append_right _ h1)
theorem Post.trans {Γ Δ Θ : List Chunk} {a b c : World} (h : Post Γ Δ a b) (k : Post Δ Θ b c) : Post Γ Θ a c :=
  ⟨k.sat, h.keeps.trans k.keeps (fun _ _ h => h) (fun g hl hg => h.own g hg hl),
    fun g hg hl => h.own g (k.own g hg (Nat.lt_of_lt_of_le hl h.keeps.size)) hl,
    fun g hg hl => by
      rcases k.rd g hg (Nat.lt_of_lt_of_le hl h.keeps.size) with h1 | h1
      · exact .inl (h.own g h1 hl)
      · exact h.rd g h1 hl⟩
theorem Post.refl {Γ : List Chunk} {w : World} (h : Sep.sat Γ w) : Post Γ Γ w w := ⟨h, Keeps.refl _ _, fun _ h _ => h, fun _ h _ => .inr h⟩
theorem Post.perm {Γ Γ' Δ : List Chunk} {w w' : World} (h : Post Γ Γ' w w') (p : Γ'.Perm Δ) : Post Γ Δ w w' :=
  ⟨h.sat.perm p, h.keeps, fun g hg => h.own g ((p.flatMap_right Chunk.owns).mem_iff.2 hg), fun g hg => h.rd g ((p.flatMap_right Chunk.reads).mem_iff.2 hg)⟩
theorem Post.drop {Γ Γ' Δ : List Chunk} {w w' : World} (h : Post Γ (Γ' ++ Δ) w w') : Post Γ Γ' w w' :=
  ⟨h.sat.left, h.keeps, fun g hg => h.own g (by rw [owns_append]; exact List.mem_append_left _ hg), fun g hg => h.rd g (by rw [reads_append]; exact List.mem_append_left _ hg)⟩
theorem Post.ext {Γ Δ : List Chunk} {w w' w'' : World} (h : Post Γ Δ w w') (k : Ext w' w'') : Post Γ Δ w w'' :=
  ⟨h.sat.ext k, h.keeps.then_ext k, h.own, h.rd⟩
theorem Post.pre {Γ Γ' Δ : List Chunk} {w w' : World} (p : Γ.Perm Γ') (h : Post Γ' Δ w w') : Post Γ Δ w w' :=
  ⟨h.sat, h.keeps.mono (fun _ _ hg => (p.flatMap_right Chunk.owns).mem_iff.2 hg), fun g hg hl => (p.flatMap_right Chunk.owns).mem_iff.2 (h.own g hg hl),
    fun g hg hl => (h.rd g hg hl).imp (p.flatMap_right Chunk.owns).mem_iff.2 (p.flatMap_right Chunk.reads).mem_iff.2⟩

/-! ### the state, and what is to be shown of it -/
structure Cx where
  n : Nat
  Γ0 : List Chunk
  w0 : World
  ds : List Deferred
def To (C : Cx) (ρ : Slots) (Γ : List Chunk) (K : Act → World → Prop) : Prop := ∀ a w, Has C.n C.ds ρ a → Post C.Γ0 Γ C.w0 w → K a w
section rules
variable {P : Program} {C : Cx} {ρ ρ' : Slots} {Γ Γ' : List Chunk} {K : Act → World → Prop} {Q : Exit → Act → World → Prop}
theorem To.sub (ρ' : Slots) (hs : subs ρ ρ') (h : To C ρ' Γ K) : To C ρ Γ K := fun a w ha hp => h a w (ha.sub hs) hp
theorem To.perm (p : Γ.Perm Γ') (h : To C ρ Γ' K) : To C ρ Γ K := fun a w ha hp => h a w ha (hp.perm p)
theorem To.drop {Δ : List Chunk} (h : To C ρ Γ K) : To C ρ (Γ ++ Δ) K := fun a w ha hp => h a w ha hp.drop
theorem To.mono {K' : Act → World → Prop} (h : To C ρ Γ K') (hk : ∀ a w, K' a w → K a w) : To C ρ Γ K := fun a w ha hp => hk a w (h a w ha hp)
/-- What the chunks say of numbers and the like. -/
theorem To.know {p : Prop} (hp : ∀ w, sat Γ w → p) (h : p → To C ρ Γ K) : To C ρ Γ K := fun a w ha hq => h (hp w hq.sat) a w ha hq
/-- Chunks read anew. -/
theorem To.turn (Γ' : List Chunk) (h : ∀ w, sat Γ w → Post Γ Γ' w w) (k : To C ρ Γ' K) : To C ρ Γ K := fun a w ha hq => k a w ha (hq.trans (h w hq.sat))
theorem To.turnE {T : Type} {F : T → List Chunk} {p : T → Prop} (h : ∀ w, sat Γ w → ∃ t, p t ∧ Post Γ (F t) w w) (k : ∀ t, p t → To C ρ (F t) K) : To C ρ Γ K := fun a w ha hq => by
  obtain ⟨t, hp, ht⟩ := h w hq.sat
  exact k t hp a w ha (hq.trans ht)
theorem To.seq {x y : Code} (h : To C ρ Γ (x.wp P (Exit.then (y.wp P Q) Q))) : To C ρ Γ ((Code.seq x y).wp P Q) := fun a w ha hp => wp_seq (h a w ha hp)
theorem To.skip (h : To C ρ Γ (Q .normal)) : To C ρ Γ (Code.skip.wp P Q) := fun a w ha hp => wp_skip (h a w ha hp)
theorem To.exit {id : Nat} (h : To C ρ Γ (Q (.exit id))) : To C ρ Γ ((Code.exit id).wp P Q) := fun a w ha hp => wp_exit (h a w ha hp)
theorem To.ret (h : To C ρ Γ (Q .ret)) : To C ρ Γ (Code.ret.wp P Q) := fun a w ha hp => wp_ret (h a w ha hp)
theorem To.block {id : Nat} {c : Code} (h : To C ρ Γ (c.wp P (Exit.inBlock id Q))) : To C ρ Γ ((Code.block id c).wp P Q) := fun a w ha hp => wp_block (h a w ha hp)
theorem To.condT {c : Operand} {x y : Code} (hc : ev ρ c = some (.bool true)) (h : To C ρ Γ (x.wp P Q)) : To C ρ Γ ((Code.cond c x y).wp P Q) :=
  fun a w ha hp => wp_cond_true (ha.sees.eval hc) (h a w ha hp)
theorem To.condF {c : Operand} {x y : Code} (hc : ev ρ c = some (.bool false)) (h : To C ρ Γ (y.wp P Q)) : To C ρ Γ ((Code.cond c x y).wp P Q) :=
  fun a w ha hp => wp_cond_false (ha.sees.eval hc) (h a w ha hp)
theorem To.cond {c : Operand} {x y : Code} {t : Bool} (hc : ev ρ c = some (.bool t)) (h1 : t = true → To C ρ Γ (x.wp P Q)) (h2 : t = false → To C ρ Γ (y.wp P Q)) : To C ρ Γ ((Code.cond c x y).wp P Q) :=
  fun a w ha hp => wp_cond_split (ha.sees.eval hc) (fun e => h1 e a w ha hp) (fun e => h2 e a w ha hp)
/-- A test of a proposition. -/
theorem To.condP {c : Operand} {x y : Code} {p : Prop} [Decidable p] (hc : ev ρ c = some (.bool (decide p))) (h1 : p → To C ρ Γ (x.wp P Q)) (h2 : ¬ p → To C ρ Γ (y.wp P Q)) : To C ρ Γ ((Code.cond c x y).wp P Q) :=
  To.cond hc (fun e => h1 (of_decide_eq_true e)) (fun e => h2 (of_decide_eq_false e))
/-- What was reached may be told anew, and weaker, at any place. -/
theorem To.reg {id : Nat} {l : List Oper} (h : To C ρ Γ (wpList P l.toArray Q l)) : To C ρ Γ ((Code.region id l.toArray false).wp P Q) := fun a w ha hp => wp_region_lit (h a w ha hp)
theorem To.nil {ops : Array Oper} (h : To C ρ Γ (Q .normal)) : To C ρ Γ (wpList P ops Q []) := h
theorem To.thenN {Q' : Exit → Act → World → Prop} (h : To C ρ Γ K) : To C ρ Γ (Exit.then K Q' .normal) := h
theorem To.thenX {id : Nat} (h : To C ρ Γ (Q (.exit id))) : To C ρ Γ (Exit.then K Q (.exit id)) := h
theorem To.thenR (h : To C ρ Γ (Q .ret)) : To C ρ Γ (Exit.then K Q .ret) := h
theorem To.blockN {id : Nat} (h : To C ρ Γ (Q .normal)) : To C ρ Γ (Exit.inBlock id Q .normal) := h
theorem To.blockR {id : Nat} (h : To C ρ Γ (Q .ret)) : To C ρ Γ (Exit.inBlock id Q .ret) := h
theorem To.blockX {id : Nat} (h : To C ρ Γ (Q .normal)) : To C ρ Γ (Exit.inBlock id Q (.exit id)) := fun a w ha hp => by
  show (if id = id then _ else _)
  rw [if_pos rfl]; exact h a w ha hp
theorem To.blockY {id id' : Nat} (hne : Nat.beq id' id = false) (h : To C ρ Γ (Q (.exit id'))) : To C ρ Γ (Exit.inBlock id Q (.exit id')) := fun a w ha hp => by
  show (if id' = id then _ else _)
  rw [if_neg (fun e => by rw [e, Nat.beq_refl] at hne; cases hne)]; exact h a w ha hp
/-- What a round hands on. -/
def Again (C : Cx) (I : Nat → Slots → List Chunk → Prop) (m : Nat) (a : Act) (w : World) : Prop := ∃ k, k < m ∧ ∃ ρ Γ, I k ρ Γ ∧ Has C.n C.ds ρ a ∧ Post C.Γ0 Γ C.w0 w
theorem To.loop {c : Code} (I : Nat → Slots → List Chunk → Prop) (m0 : Nat) (h0 : I m0 ρ Γ) (round : ∀ m ρ Γ, I m ρ Γ → To C ρ Γ (c.wp P (Exit.then (Again C I m) Q))) : To C ρ Γ ((Code.loop c).wp P Q) := fun _ _ ha hp =>
  wp_loop_ghost (fun m a w => ∃ ρ Γ, I m ρ Γ ∧ Has C.n C.ds ρ a ∧ Post C.Γ0 Γ C.w0 w) m0 ⟨ρ, Γ, h0, ha, hp⟩ fun m a w ⟨ρ, Γ, hI, ha, hp⟩ => round m ρ Γ hI a w ha hp
theorem To.again {I : Nat → Slots → List Chunk → Prop} {m : Nat} (k : Nat) (hk : k < m) (h : I k ρ Γ) : To C ρ Γ (Again C I m) := fun _ _ ha hp => ⟨k, hk, ρ, Γ, h, ha, hp⟩
/-- A cut: what is reached is told once, and what follows is shown once. -/
theorem To.cut {T : Type} (F : T → Slots × List Chunk) (p : T → Prop) (x : Code) {y : Code} (hx : To C ρ Γ (x.wp P (Exit.then (fun a w => ∃ t, p t ∧ Has C.n C.ds (F t).1 a ∧ Post C.Γ0 (F t).2 C.w0 w) Q)))
    (hy : ∀ t, p t → To C (F t).1 (F t).2 (y.wp P Q)) : To C ρ Γ ((Code.seq x y).wp P Q) := fun a w ha hp =>
  wp_seq (wp_mono (hx a w ha hp) fun e a' w' hq => by
    cases e with
    | normal => obtain ⟨t, h1, h2, h3⟩ := hq; exact hy t h1 a' w' h2 h3
    | exit id => exact hq
    | goto l => exact hq
    | ret => exact hq
    | panic ch => exact hq
    | outgrown => exact hq)
theorem To.here {T : Type} {F : T → Slots × List Chunk} {p : T → Prop} (t : T) (hp : p t) (hs : subs ρ (F t).1) (hg : (F t).2 = Γ) : To C ρ Γ (fun a w => ∃ t, p t ∧ Has C.n C.ds (F t).1 a ∧ Post C.Γ0 (F t).2 C.w0 w) :=
  fun _ _ ha hq => ⟨t, hp, ha.sub hs, by rw [hg]; exact hq⟩
end rules

/-! ### calls -/
/-- A function's contract. -/
def Does (P : Program) (f : FuncId) (args : List Value) (Γ : List Chunk) (R : Value → List Chunk → Prop) : Prop :=
  ∀ w, sat Γ w → Calls P f args.toArray w fun e w' => ∃ v Γ', e = .returned v ∧ R v Γ' ∧ Post Γ Γ' w w'
/-- What a body ends in. -/
def Fin (C : Cx) (R : Value → List Chunk → Prop) (e : Ending) (w' : World) : Prop := ∃ v Γ', e = .returned v ∧ R v Γ' ∧ Post C.Γ0 Γ' C.w0 w'
theorem Does.enter {P : Program} {f : FuncId} {args : List Value} {Γ : List Chunk} {R : Value → List Chunk → Prop} {fn : Func} {c : Code} {n : Nat}
    (hf : P.funcs[f]? = some fn) (hb : fn.body = some c) (hn : fn.ntmps = n) (hl : Nat.ble args.length n = true)
    (h : ∀ w, To ⟨n, Γ, w, []⟩ (slotsOf 0 args) Γ (c.wp P (bodyPost P fn (Fin ⟨n, Γ, w, []⟩ R)))) : Does P f args Γ R := fun w hs => by
  refine calls_of_wp hf hb ?_
  rw [hn]
  exact h w _ w (Has.start args n hl) (Post.refl hs)
theorem Does.mono {P : Program} {f : FuncId} {args : List Value} {Γ : List Chunk} {R R' : Value → List Chunk → Prop} (h : Does P f args Γ R) (hr : ∀ v Γ', R v Γ' → R' v Γ') : Does P f args Γ R' :=
  fun w hs => (h w hs).mono fun _ _ ⟨v, Γ', h1, h2, h3⟩ => ⟨v, Γ', h1, hr v Γ' h2, h3⟩
section ends
variable {P : Program} {C : Cx} {ρ : Slots} {Γ : List Chunk} {R : Value → List Chunk → Prop} {fn : Func}
theorem To.ends {ex : Exit} {v : Value} (hex : ex = .ret ∨ ex = .normal) (hr : ∀ a w, Has C.n C.ds ρ a → sat Γ w → (results fn a.tmps).run P w = .ok v w) (h : R v Γ) (hds : C.ds = [] := by rfl) : To C ρ Γ (bodyPost P fn (Fin C R) ex) := fun a w ha hp => by
  rcases hex with rfl | rfl
  · exact ⟨ha.defers.trans hds, v, hr a w ha hp.sat, v, Γ, rfl, h, hp⟩
  · exact ⟨ha.defers.trans hds, v, hr a w ha hp.sat, v, Γ, rfl, h, hp⟩
theorem To.end0 {ex : Exit} (hex : ex = .ret ∨ ex = .normal) (hres : fn.results = #[]) (h : R (.tuple #[]) Γ) (hds : C.ds = [] := by rfl) : To C ρ Γ (bodyPost P fn (Fin C R) ex) :=
  To.ends hex (fun a w _ _ => results_none hres a.tmps P w) h hds
theorem To.end1 {ex : Exit} {t : Nat} {v : Value} (hex : ex = .ret ∨ ex = .normal) (hres : fn.results = #[.tmp t]) (hv : look ρ t = some v) (h : R v Γ) (hds : C.ds = [] := by rfl) : To C ρ Γ (bodyPost P fn (Fin C R) ex) :=
  To.ends hex (fun a w ha _ => by rw [results_tmp hres, Array.getD_eq_getD_getElem?, ha.sees t v hv]; rfl) h hds
theorem To.end2 {ex : Exit} {t u : Nat} {v v' : Value} (hex : ex = .ret ∨ ex = .normal) (hres : fn.results = #[.tmp t, .tmp u]) (hv : look ρ t = some v) (hv' : look ρ u = some v') (h : R (.tuple #[v, v']) Γ) (hds : C.ds = [] := by rfl) : To C ρ Γ (bodyPost P fn (Fin C R) ex) :=
  To.ends hex (fun a w ha _ => by rw [results_tmp2 hres, Array.getD_eq_getD_getElem?, ha.sees t v hv, Array.getD_eq_getD_getElem?, ha.sees u v' hv']; rfl) h hds
end ends
end Go.Sep
