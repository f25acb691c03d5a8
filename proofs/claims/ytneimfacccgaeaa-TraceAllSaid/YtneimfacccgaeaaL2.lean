/- Merged out of Sepf, Sepx, Sepy by merge.py. Own text. -/
import Derived.Test.YtneimfacccgaeaaL1
namespace Go.Sep
open Go.RowKit Go.Flow Go.Mem

abbrev News := List (Nat × List Chunk)
def flat (N : News) : List Chunk := N.flatMap (·.2)
structure Made1 (b : World) (n : Nat × List Chunk) (p : Nat × World × World) : Prop where
  id : p.1 = n.1
  base : Ext b p.2.1
  post : Post [] n.2 p.2.1 p.2.2
def Made (b : World) : News → List (Nat × World × World) → Prop
  | [], [] => True
  | n :: N, p :: h => Made1 b n p ∧ Made b N h ∧ N.all (fun m => !Nat.beq m.1 n.1) = true
  | _, _ => False
def touch (Γ : List Chunk) (g : Nat) : Prop := g ∈ owns Γ ∨ g ∈ reads Γ
theorem Made1.within {b : World} {n : Nat × List Chunk} {p : Nat × World × World} (h : Made1 b n p) {g : Nat} (hg : touch n.2 g) : p.2.1.heap.size ≤ g ∧ g < p.2.2.heap.size := by
  rcases hg with hg | hg
  · exact ⟨Nat.le_of_not_lt fun hl => by have := h.post.own g hg hl; simp [owns] at this, h.post.sat.lt_own hg⟩
  · exact ⟨Nat.le_of_not_lt fun hl => by have := h.post.rd g hg hl; simp [owns, reads] at this, h.post.sat.lt_read hg⟩
theorem Made.find {b : World} : ∀ {N : News} {h : List (Nat × World × World)}, Made b N h → ∀ g, touch (flat N) g → ∃ q ∈ h, (∃ m ∈ N, m.1 = q.1) ∧ Ext b q.2.1 ∧ q.2.1.heap.size ≤ g ∧ g < q.2.2.heap.size
  | [], _, _, g, hg => by simp [touch, flat, owns, reads] at hg
  | n :: N, [], hm, g, hg => hm.elim
  | n :: N, p :: h, ⟨h1, h2, _⟩, g, hg => by
    have : touch n.2 g ∨ touch (flat N) g := by
      simp only [touch, flat, List.flatMap_cons, owns_append, reads_append, List.mem_append] at hg ⊢
      rcases hg with (h | h) | (h | h)
      · exact .inl (.inl h)
      · exact .inr (.inl h)
      · exact .inl (.inr h)
      · exact .inr (.inr h)
    rcases this with hg | hg
    · exact ⟨p, by simp, ⟨n, by simp, h1.id.symm⟩, h1.base, h1.within hg⟩
    · obtain ⟨q, hq, ⟨m, hm, hmq⟩, h3⟩ := h2.find g hg
      exact ⟨q, by simp [hq], ⟨m, by simp [hm], hmq⟩, h3⟩
theorem Made.flush {b w : World} {Γ : List Chunk} (hs : sat Γ b) (hb : Ext b w) : ∀ {N : News} {h : List (Nat × World × World)}, Made b N h → (∀ p ∈ h, Ext p.2.2 w) → InTurn h → sat (flat N ++ Γ) w
  | [], _, _, _, _ => by simpa [flat] using hs.ext hb
  | n :: N, [], hm, _, _ => hm.elim
  | n :: N, p :: h, ⟨h1, h2, h3⟩, hw, ht => by
    have ih := h2.flush (w := w) hs hb (fun q hq => hw q (by simp [hq])) (fun q hq r hr => ht q (by simp [hq]) r (by simp [hr]))
    have hn : sat n.2 w := h1.post.sat.ext (hw p (by simp))
    have key : ∀ g, touch n.2 g → ¬ touch (flat N ++ Γ) g := by
      intro g hg hg'
      obtain ⟨a1, a2⟩ := h1.within hg
      have : touch (flat N) g ∨ touch Γ g := by
        simp only [touch, owns_append, reads_append, List.mem_append] at hg' ⊢
        rcases hg' with (h | h) | (h | h)
        · exact .inl (.inl h)
        · exact .inr (.inl h)
        · exact .inl (.inr h)
        · exact .inr (.inr h)
      rcases this with hx | hx
      · obtain ⟨q, hq, ⟨m, hm, hmq⟩, _, b1, b2⟩ := h2.find g hx
        have hne : p.1 ≠ q.1 := by
          have := List.all_eq_true.1 h3 m hm
          simp only [Bool.not_eq_true'] at this
          intro e
          rw [hmq, ← e, h1.id, Nat.beq_refl] at this
          cases this
        rcases ht p (by simp) q (by simp [hq]) hne with e | e
        · have := e.size; omega
        · have := e.size; omega
      · have hlt : g < b.heap.size := by
          rcases hx with hx | hx
          · exact hs.lt_own hx
          · exact hs.lt_read hx
        have := h1.base.size
        omega
    show sat (n.2 ++ flat N ++ Γ) w
    rw [List.append_assoc]
    refine ⟨fun c hc => ?_, ?_, ?_⟩
    · rcases List.mem_append.1 hc with h | h
      · exact hn.each c h
      · exact ih.each c h
    · rw [owns_append]
      exact List.nodup_append.2 ⟨hn.nodup, ih.nodup, fun g hg g' hg' e => key g (.inl hg) (.inl (e ▸ hg'))⟩
    · intro g hg hg'
      rw [reads_append] at hg
      rw [owns_append] at hg'
      rcases List.mem_append.1 hg with h | h <;> rcases List.mem_append.1 hg' with h' | h'
      · exact hn.apart g h h'
      · exact key g (.inr h) (.inl h')
      · exact key g (.inl h') (.inr h)
      · exact ih.apart g h h'
theorem Made.post {Γ0 Γ : List Chunk} {w0 b w : World} (hp : Post Γ0 Γ w0 b) (hb : Ext b w) {N : News} {h : List (Nat × World × World)} (hm : Made b N h) (hw : ∀ p ∈ h, Ext p.2.2 w) (ht : InTurn h) : Post Γ0 (flat N ++ Γ) w0 w := by
  have hs := hm.flush hp.sat hb hw ht
  refine ⟨hs, hp.keeps.then_ext hb, fun g hg hl => ?_, fun g hg hl => ?_⟩
  · rw [owns_append] at hg
    rcases List.mem_append.1 hg with h | h
    · obtain ⟨q, _, _, h1, h2, _⟩ := hm.find g (.inl h)
      have := h1.size; have := hp.keeps.size; omega
    · exact hp.own g h hl
  · rw [reads_append] at hg
    rcases List.mem_append.1 hg with h | h
    · obtain ⟨q, _, _, h1, h2, _⟩ := hm.find g (.inr h)
      have := h1.size; have := hp.keeps.size; omega
    · exact hp.rd g h hl

/-- The chunks that those waited for have made. -/
def avail (N : News) (deps : List Nat) : List Chunk := N.flatMap fun n => bif deps.any (Nat.beq n.1) then n.2 else []
theorem Made.avail {b w : World} {deps : List Nat} : ∀ {N : News} {h : List (Nat × World × World)}, Made b N h → (∀ p ∈ h, p.1 ∈ deps → Ext p.2.2 w) → oks (avail N deps) w
  | [], _, _, _, c, hc => by simp [Sep.avail] at hc
  | n :: N, [], hm, _, _, _ => hm.elim
  | n :: N, p :: h, ⟨h1, h2, _⟩, hw, c, hc => by
    unfold Sep.avail at hc
    rw [List.flatMap_cons] at hc
    rcases List.mem_append.1 hc with h | h
    · cases hd : deps.any (Nat.beq n.1) with
      | false => rw [hd] at h; simp at h
      | true =>
        rw [hd] at h
        obtain ⟨k, hk, hk'⟩ := List.any_eq_true.1 hd
        have e := Nat.eq_of_beq_eq_true hk'
        exact (h1.post.sat.ext (hw p (by simp) (by rw [h1.id, e]; exact hk))).each c h
    · exact h2.avail (fun q hq => hw q (by simp [hq])) c h
def FlowS (P : Program) (l : List Oper) (Θ : List Chunk) (Q : Act → World → Prop) (ms : List Meta) (C : Cx) (ρ : Slots) (Γ : List Chunk) (N : News) : Prop :=
  ∀ a b h, Has C.n C.ds ρ a → Post C.Γ0 Γ C.w0 b → Made b N h → Flow P l.toArray (oks Θ) Q (Go.Flow.pick l ms) a b h
theorem oks_ext {Θ : List Chunk} {w w' : World} (h : oks Θ w) (k : Ext w w') : oks Θ w' := fun c hc => c.loc w w' (fun g hg => k.block g (c.lt w (h c hc) g hg)) (h c hc)
theorem oks_append {Θ Γ : List Chunk} {w : World} (h : oks Θ w) (k : oks Γ w) : oks (Θ ++ Γ) w := fun c hc => (List.mem_append.1 hc).elim (h c) (k c)
section
variable {P : Program} {l : List Oper} {Θ Γ Γ' : List Chunk} {Q : Act → World → Prop} {ms : List Meta} {C : Cx} {ρ : Slots} {N : News} {i d : Nat} {deps : List Nat} {o : Oper} {v : Value}
theorem To.flow {id : Nat} {R : Exit → Act → World → Prop} (Θ : List Chunk) (ms : List Meta) (hm : P.follows .mixedOrders = true) (hB : flowB l ms = true) (hΘ : ∀ w, oks Γ w → oks Θ w) (h : FlowS P l Θ (R .normal) ms C ρ Γ []) : To C ρ Γ ((Code.region id l.toArray true).wp P R) :=
  fun a w ha hp => wp_region_flow (oks Θ) ms hm hB (fun _ _ => oks_ext) (hΘ w hp.sat.each) (h a w [] ha hp trivial)
theorem FlowS.fin (h : To C ρ (flat N ++ Γ) Q) : FlowS P l Θ Q [] C ρ Γ N := fun a _ _ ha hp hm => Flow.nil fun w hb _ hw ht => h a w ha (hm.post hp hb hw ht)
theorem pick_cons {m : Meta} (ho : l[m.i]? = some o) : Go.Flow.pick l (m :: ms) = (o, m) :: Go.Flow.pick l ms := by
  simp [Go.Flow.pick, ho]
theorem FlowS.free (ho : l[i]? = some o) (hg : grd l.toArray ρ o = some true) (hd : o.dst = some d) (hn : Nat.blt d C.n = true) (h : Rd P o ρ Θ v) (k : FlowS P l Θ Q ms C ((d, v) :: ρ) Γ N) : FlowS P l Θ Q (⟨i, deps, 0⟩ :: ms) C ρ Γ N := fun a b h' ha hp hm => by
  rw [pick_cons (m := ⟨i, deps, 0⟩) ho]
  refine Flow.free_want rfl (grd_wanted hg ha.sees) v (fun w hS => ?_) ?_
  · rw [h a w ha.sees hS]; exact ⟨rfl, rfl⟩
  · rw [hd]; exact k _ b h' (ha.put hn) hp hm
theorem FlowS.skip {kd : Nat} (hk : kd = 0 ∨ kd = 1 ∨ kd = 3) (ho : l[i]? = some o) (hg : grd l.toArray ρ o = some false) (hd : o.dst = some d) (hn : Nat.blt d C.n = true) (k : FlowS P l Θ Q ms C ((d, undef) :: ρ) Γ N) : FlowS P l Θ Q (⟨i, deps, kd⟩ :: ms) C ρ Γ N := fun a b h' ha hp hm => by
  rw [pick_cons (m := ⟨i, deps, kd⟩) ho]
  have hk' := k _ b h' (ha.put (v := undef) hn) hp hm
  rw [← hd] at hk'
  rcases hk with rfl | rfl | rfl
  · exact Flow.free_skip rfl (grd_wanted hg ha.sees) hk'
  · exact Flow.read_skip rfl (grd_wanted hg ha.sees) hk'
  · exact Flow.call_skip rfl (grd_wanted hg ha.sees) hk'
theorem FlowS.rd (ho : l[i]? = some o) (hg : grd l.toArray ρ o = some true) (hd : o.dst = some d) (hn : Nat.blt d C.n = true) (h : Rd P o ρ (avail N deps ++ Γ) v) (k : FlowS P l Θ Q ms C ((d, v) :: ρ) Γ N) : FlowS P l Θ Q (⟨i, deps, 1⟩ :: ms) C ρ Γ N := fun a b h' ha hp hm => by
  rw [pick_cons (m := ⟨i, deps, 1⟩) ho]
  refine Flow.read_want rfl (grd_wanted hg ha.sees) v (fun w hb _ hw => ?_) ?_
  · rw [h a w ha.sees (oks_append (hm.avail hw) (hp.sat.ext hb).each)]; exact ⟨rfl, rfl⟩
  · rw [hd]; exact k _ b h' (ha.put hn) hp hm
theorem FlowS.mk {R : Value → List Chunk → Prop} (ho : l[i]? = some o) (hg : o.guard = none) (hd : o.dst = some d) (hn : Nat.blt d C.n = true) (hnew : N.all (fun m => !Nat.beq m.1 i) = true) (h : Mk P o ρ (avail N deps ++ Γ) R)
    (k : ∀ v M, R v M → FlowS P l Θ Q ms C ((d, v) :: ρ) Γ ((i, M) :: N)) : FlowS P l Θ Q (⟨i, deps, 2⟩ :: ms) C ρ Γ N := fun a b h' ha hp hm => by
  rw [pick_cons (m := ⟨i, deps, 2⟩) ho]
  refine Flow.make rfl hg (fun w hb _ hw K hK => ?_)
  obtain ⟨v, M, w', hr, hR, hq⟩ := h a w ha.sees (oks_append (hm.avail hw) (hp.sat.ext hb).each)
  rw [hr]
  refine hK v w' (hq.keeps.ext fun _ _ h => by simp [owns] at h) ?_
  rw [hd]
  exact k v M hR _ b _ (ha.put hn) hp ⟨⟨rfl, hb, hq⟩, hm, hnew⟩
theorem FlowS.callQ {f : FuncId} {vs : List Value} {Γ1 : List Chunk} (ho : l[i]? = some o) (hg : grd l.toArray ρ o = some true) (hd : o.dst = some d) (hn : Nat.blt d C.n = true) (he : Ent P o ρ f vs) (hc : Does P f vs Γ1 (fun v' _ => v' = v)) (hq : owns Γ1 = []) (hs : ∀ w, oks (avail N deps ++ Γ) w → oks Γ1 w)
    (k : FlowS P l Θ Q ms C ((d, v) :: ρ) Γ N) : FlowS P l Θ Q (⟨i, deps, 3⟩ :: ms) C ρ Γ N := fun a b h' ha hp hm => by
  rw [pick_cons (m := ⟨i, deps, 3⟩) ho]
  refine Flow.call_want rfl (grd_wanted hg ha.sees) f vs.toArray (fun w => he a w ha.sees) v (fun w hb _ hw => ?_) ?_
  · refine (hc w (sat_of_oks hq (hs w (oks_append (hm.avail hw) (hp.sat.ext hb).each)))).mono ?_
    rintro e w' ⟨v', Γ', rfl, rfl, hpost⟩
    exact ⟨rfl, hpost.keeps.ext fun _ _ h => by rw [hq] at h; simp at h⟩
  · rw [hd]; exact k _ b h' (ha.put hn) hp hm
theorem FlowS.callM {R : Value → List Chunk → Prop} {f : FuncId} {vs : List Value} {Γ1 : List Chunk} (ho : l[i]? = some o) (hg : o.guard = none) (hd : o.dst = some d) (hn : Nat.blt d C.n = true) (hnew : N.all (fun m => !Nat.beq m.1 i) = true) (he : Ent P o ρ f vs) (hc : Does P f vs Γ1 R) (hq : owns Γ1 = []) (hs : ∀ w, oks (avail N deps ++ Γ) w → oks Γ1 w)
    (k : ∀ v Γ', R v Γ' → reads Γ' = [] ∧ FlowS P l Θ Q ms C ((d, v) :: ρ) Γ ((i, Γ') :: N)) : FlowS P l Θ Q (⟨i, deps, 4⟩ :: ms) C ρ Γ N := fun a b h' ha hp hm => by
  rw [pick_cons (m := ⟨i, deps, 4⟩) ho]
  refine Flow.callMake rfl hg f vs.toArray (fun w => he a w ha.sees) (fun w hb _ hw => ?_)
  refine (hc w (sat_of_oks hq (hs w (oks_append (hm.avail hw) (hp.sat.ext hb).each)))).mono ?_
  rintro e w' ⟨v', Γ', rfl, hR, hpost⟩
  obtain ⟨hr, hk⟩ := k v' Γ' hR
  have hpq := quiet_post hq hpost hr
  refine ⟨v', rfl, hpq.keeps.ext fun _ _ h => by simp [owns] at h, ?_⟩
  rw [hd]
  exact hk _ b _ (ha.put hn) hp ⟨⟨rfl, hb, hpq⟩, hm, hnew⟩
theorem FlowS.up (ho : l[i]? = some o) (hg : o.guard = none) (hd : o.dst = none) (h : Up P o ρ (flat N ++ Γ) Γ') (hΘ : ∀ w, oks Γ' w → oks Θ w) (k : FlowS P l Θ Q ms C ρ Γ' []) : FlowS P l Θ Q (⟨i, deps, 5⟩ :: ms) C ρ Γ N := fun a b h' ha hp hm => by
  rw [pick_cons (m := ⟨i, deps, 5⟩) ho]
  refine Flow.turn rfl hg (fun w hb _ hw ht K hK => ?_)
  have hq := hm.post hp hb hw ht
  obtain ⟨w', hr, hpost⟩ := h a w ha.sees hq.sat
  rw [hr]
  refine hK undef w' (hΘ w' hpost.sat.each) ?_
  rw [hd]
  exact k a w' [] ha (hq.trans hpost) trivial
theorem FlowS.ge {R : Value → List Chunk → Prop} (ho : l[i]? = some o) (hg : o.guard = none) (hd : o.dst = some d) (hn : Nat.blt d C.n = true) (h : Ge P o ρ (flat N ++ Γ) R) (k : ∀ v Γ', R v Γ' → (∀ w, oks Γ' w → oks Θ w) ∧ FlowS P l Θ Q ms C ((d, v) :: ρ) Γ' []) : FlowS P l Θ Q (⟨i, deps, 5⟩ :: ms) C ρ Γ N := fun a b h' ha hp hm => by
  rw [pick_cons (m := ⟨i, deps, 5⟩) ho]
  refine Flow.turn rfl hg (fun w hb _ hw ht K hK => ?_)
  have hq := hm.post hp hb hw ht
  obtain ⟨v, Γ', w', hr, hR, hpost⟩ := h a w ha.sees hq.sat
  obtain ⟨hΘ, hk⟩ := k v Γ' hR
  rw [hr]
  refine hK v w' (hΘ w' hpost.sat.each) ?_
  rw [hd]
  exact hk _ w' [] (ha.put hn) (hq.trans hpost) trivial
theorem FlowS.call {R : Value → List Chunk → Prop} {f : FuncId} {vs : List Value} {Γ1 Δ : List Chunk} (is : List Nat) (ho : l[i]? = some o) (hg : o.guard = none) (hd : o.dst = some d) (hn : Nat.blt d C.n = true) (he : Ent P o ρ f vs) (hpl : pull (flat N ++ Γ) is = some (Γ1, Δ)) (hc : Does P f vs Γ1 R)
    (k : ∀ v Γ', R v Γ' → (∀ w, oks (Γ' ++ Δ) w → oks Θ w) ∧ FlowS P l Θ Q ms C ((d, v) :: ρ) (Γ' ++ Δ) []) : FlowS P l Θ Q (⟨i, deps, 5⟩ :: ms) C ρ Γ N := fun a b h' ha hp hm => by
  rw [pick_cons (m := ⟨i, deps, 5⟩) ho]
  refine Flow.turnCall rfl hg f vs.toArray (fun w => he a w ha.sees) (fun w hb _ hw ht => ?_)
  have hq := hm.post hp hb hw ht
  refine (hc w ((hq.sat.perm (pull_perm hpl)).left)).mono ?_
  rintro e w' ⟨v, Γ', rfl, hR, hpost⟩
  obtain ⟨hΘ, hk⟩ := k v Γ' hR
  have hpost' := hq.trans (Post.at_ hpl hq.sat hpost)
  refine ⟨v, rfl, hΘ w' hpost'.sat.each, ?_⟩
  rw [hd]
  exact hk _ w' [] (ha.put hn) hpost' trivial
end
end Go.Sep
namespace Go.Sep
open Go.RowKit Go.Flow Go.Mem
section
variable {P : Program} {l : List Oper} {Θ Γ Γ' : List Chunk} {Q : Act → World → Prop} {ms : List Meta} {C : Cx} {ρ : Slots} {N : News} {i d : Nat} {deps : List Nat} {o : Oper} {v : Value}
theorem FlowS.mkG {R : Value → List Chunk → Prop} (ho : l[i]? = some o) (hg : grd l.toArray ρ o = some true) (hd : o.dst = some d) (hn : Nat.blt d C.n = true) (hnew : N.all (fun m => !Nat.beq m.1 i) = true) (h : Mk P o ρ (avail N deps ++ Γ) R)
    (k : ∀ v M, R v M → FlowS P l Θ Q ms C ((d, v) :: ρ) Γ ((i, M) :: N)) : FlowS P l Θ Q (⟨i, deps, 2⟩ :: ms) C ρ Γ N := fun a b h' ha hp hm => by
  rw [pick_cons (m := ⟨i, deps, 2⟩) ho]
  simp only [Flow]
  intro w hb _ hw
  unfold ValTo
  rw [if_pos (grd_wanted hg ha.sees)]
  obtain ⟨v, M, w', hr, hR, hq⟩ := h a w ha.sees (oks_append (hm.avail hw) (hp.sat.ext hb).each)
  rw [hr]
  refine ⟨hq.keeps.ext fun _ _ h => by simp [owns] at h, ?_⟩
  rw [hd]
  exact k v M hR _ b _ (ha.put hn) hp ⟨⟨rfl, hb, hq⟩, hm, hnew⟩
theorem FlowS.skipM (ho : l[i]? = some o) (hg : grd l.toArray ρ o = some false) (hd : o.dst = some d) (hn : Nat.blt d C.n = true) (hnew : N.all (fun m => !Nat.beq m.1 i) = true) (k : FlowS P l Θ Q ms C ((d, undef) :: ρ) Γ ((i, []) :: N)) : FlowS P l Θ Q (⟨i, deps, 2⟩ :: ms) C ρ Γ N := fun a b h' ha hp hm => by
  rw [pick_cons (m := ⟨i, deps, 2⟩) ho]
  simp only [Flow]
  intro w hb _ _
  unfold ValTo
  rw [if_neg (by rw [grd_wanted hg ha.sees]; simp)]
  refine ⟨Ext.rfl_ _, ?_⟩
  rw [hd]
  exact k _ b _ (ha.put hn) hp ⟨⟨rfl, hb, Post.refl (sat.nil _)⟩, hm, hnew⟩
end
end Go.Sep
namespace Go.Sep
open Go.RowKit Go.Flow Go.Mem

/-! ### rows of elements -/
structure Enc {α : Type} (enc : α → List Value) (size : Nat) : Prop where
  len : ∀ x, (enc x).length = size
  one : ∀ x, ∀ u ∈ enc x, u.oneCell' = true
section
variable {α : Type} {enc : α → List Value} {size : Nat}
theorem Enc.flat_len (E : Enc enc size) : ∀ l : List α, (l.flatMap enc).length = l.length * size
  | [] => by simp
  | x :: l => by rw [List.flatMap_cons, List.length_append, E.len, E.flat_len l, List.length_cons, Nat.add_mul]; omega
theorem Enc.flat_one (E : Enc enc size) (l : List α) : ∀ u ∈ l.flatMap enc, u.oneCell' = true := fun u hu => by
  obtain ⟨x, _, h⟩ := List.mem_flatMap.1 hu
  exact E.one x u h
def rows (enc : α → List Value) (e : TypeId) (size : Nat) (A : Option Addr) (cap : Nat) (l : List α) : Chunk := row e size A l.length cap (l.flatMap enc)
def ros (enc : α → List Value) (A : Option Addr) (l : List α) : Chunk := ro A (l.flatMap enc)
theorem rows_gives (E : Enc enc size) {e : TypeId} {A : Option Addr} {cap j : Nat} {l : List α} {y : α} (h : l[j]? = some y) : (rows enc e size A cap l).gives (blk A) (ofs A + j * size) (enc y) := row_gives (sub_flat E.len h)
theorem ros_gives (E : Enc enc size) {A : Option Addr} {j : Nat} {l : List α} {y : α} (h : l[j]? = some y) : (ros enc A l).gives (blk A) (ofs A + j * size) (enc y) := ro_gives (sub_flat E.len h)
theorem gives_at {c : Chunk} {b off : Nat} {us : List Value} (h : c.gives b off us) {f : Nat} {u : Value} (hu : us[f]? = some u) : c.gives b (off + f) [u] := fun w hw j v hv => by
  cases j with
  | zero => simp only [List.getElem?_cons_zero, Option.some.injEq] at hv; subst hv; exact h w hw f u hu
  | succ j => simp at hv
/-- One element of one cell. -/
theorem gives_1 {c : Chunk} {b off : Nat} {us : List Value} (h : c.gives b off us) {u : Value} (hu : us = [u]) : c.gives b off [u] := by rw [← hu]; exact h
end
theorem box_whole {b : Nat} {cs : List Value} {t : TypeId} : (box b cs t).gives b 0 cs := fun _ hw => range_of_whole hw
theorem box_takesAll {b : Nat} {cs us : List Value} {t : TypeId} (hl : us.length = cs.length) : (box b cs t).takes b 0 us (box b us t) := box_takes (by rw [Nat.zero_add, hl]; exact Nat.ble_self_eq_true _) (by unfold over; rw [List.take_zero, Nat.zero_add, hl]; simp)
theorem box_takes1 {b off : Nat} {cs : List Value} {u : Value} {t : TypeId} (hl : Nat.blt off cs.length = true) : (box b cs t).takes b off [u] (box b (cs.set off u) t) := box_takes hl (by
  have := Nat.le_of_ble_eq_true hl
  unfold over
  rw [List.set_eq_take_append_cons_drop, if_pos (by omega)]; simp)
section
variable {P : Program} {o : Oper} {ρ : Slots} {Γ : List Chunk} {x y : Operand} {C : Cx} {ops : Array Oper} {Q : Exit → Act → World → Prop} {rest : List Oper} {v : Value} {d : Nat}
variable {α : Type} {enc : α → List Value} {size : Nat}
theorem Rd.indexRows {t e ie : TypeId} {bytes : Nat} {zs : List Value} {A : Option Addr} {cap j i : Nat} {l : List α} {k : IntKind} {el : α} (ho : o.op = .indexAddr t x y) (hx : ev ρ x = some (.slice A l.length cap)) (hy : ev ρ y = some (.int k j)) (ht : SliceTy P t e size bytes zs)
    (hi : Γ[i]? = some (rows enc ie size A cap l)) (hj : l[j]? = some el) : Rd P o ρ Γ (.pointer (some ⟨blk A, ofs A + j * size, none⟩)) := Rd.indexRow ho hx hy ht hi (List.getElem?_eq_some_iff.1 hj).1
theorem Rd.indexRos (E : Enc enc size) {t e : TypeId} {bytes : Nat} {zs : List Value} {A : Option Addr} {cap j i : Nat} {l : List α} {k : IntKind} {el : α} (ho : o.op = .indexAddr t x y) (hx : ev ρ x = some (.slice A l.length cap)) (hy : ev ρ y = some (.int k j)) (ht : SliceTy P t e size bytes zs)
    (hi : Γ[i]? = some (ros enc A l)) (hj : l[j]? = some el) : Rd P o ρ Γ (.pointer (some ⟨blk A, ofs A + j * size, none⟩)) := Rd.indexRo ho hx hy ht hi (List.getElem?_eq_some_iff.1 hj).1 (E.flat_len l).symm
/-- append(s, y), s a row of elements of one's own. -/
theorem Ge.append1 (E : Enc enc size) {t e : TypeId} {bytes : Nat} {zs us : List Value} {A B : Option Addr} {cap cb i j : Nat} {l : List α} {el : α} (ho : o.op = .call { callee := .builtin .append, args := #[x, y], argTypes := #[t, t] }) (ht : SliceTy P t e size bytes zs)
    (hx : ev ρ x = some (.slice A l.length cap)) (hy : ev ρ y = some (.slice B 1 cb)) (hi : Γ[i]? = some (rows enc e size A cap l)) (hj : Γ[j]? = some (row e size B 1 cb us)) (hu : enc el = us) (h63 : l.length < 9223372036854775807) (hby : (l.length + 1) * bytes ≤ 140737488355328) :
    Ge P o ρ Γ (fun v Γ' => ∃ A' cap', v = .slice A' (l ++ [el]).length cap' ∧ Γ' = Γ.set i (rows enc e size A' cap' (l ++ [el]))) := by
  have h := Ge.append (P := P) ho ht hx hy hi (src_row hj) (by rw [← hu, E.len]; simp) (fun u h => E.one el u (hu ▸ h)) (by simp only [maxLen]; omega) hby
  intro a w ha hs
  obtain ⟨v, Γ', w', h1, ⟨A', cap', h2, h3⟩, h4⟩ := h a w ha hs
  refine ⟨v, Γ', w', h1, ⟨A', cap', by rw [h2]; simp, ?_⟩, h4⟩
  rw [h3]
  have e1 : rows enc e size A' cap' (l ++ [el]) = row e size A' (l.length + 1) cap' (l.flatMap enc ++ us) := by simp [rows, hu]
  rw [e1]
/-- append(s, t...): of elements. -/
theorem Ge.appendL (E : Enc enc size) {t e : TypeId} {bytes : Nat} {zs : List Value} {A B : Option Addr} {cap cb i : Nat} {l m : List α} (ho : o.op = .call { callee := .builtin .append, args := #[x, y], argTypes := #[t, t] }) (ht : SliceTy P t e size bytes zs)
    (hx : ev ρ x = some (.slice A l.length cap)) (hy : ev ρ y = some (.slice B m.length cb)) (hi : Γ[i]? = some (rows enc e size A cap l)) (hs : ∀ w, sat Γ w → Src w B (m.flatMap enc)) (h63 : l.length + m.length ≤ 9223372036854775807) (hby : (l.length + m.length) * bytes ≤ 140737488355328) :
    Ge P o ρ Γ (fun v Γ' => ∃ A' cap', v = .slice A' (l ++ m).length cap' ∧ Γ' = Γ.set i (rows enc e size A' cap' (l ++ m))) := by
  have h := Ge.append (P := P) ho ht hx hy hi hs (E.flat_len m) (E.flat_one m) (by simp only [maxLen]; omega) hby
  intro a w ha hs
  obtain ⟨v, Γ', w', h1, ⟨A', cap', h2, h3⟩, h4⟩ := h a w ha hs
  refine ⟨v, Γ', w', h1, ⟨A', cap', by rw [h2]; simp, ?_⟩, h4⟩
  rw [h3]
  have e1 : rows enc e size A' cap' (l ++ m) = row e size A' (l.length + m.length) cap' (l.flatMap enc ++ m.flatMap enc) := by simp [rows]
  rw [e1]
theorem To.alloc {ty : TypeId} {zs : List Value} (hg : grd ops ρ o = some true) (hd : o.dst = some d) (hn : Nat.blt d C.n = true) (ho : o.op = .alloc ty) (hz : ZeroTy P ty zs) (k : ∀ b, To C ((d, .pointer (some ⟨b, 0, none⟩)) :: ρ) (box b zs ty :: Γ) (wpList P ops Q rest)) : To C ρ Γ (wpList P ops Q (o :: rest)) :=
  To.mk hg hd hn (Mk.alloc ho hz) fun _ _ ⟨b, h1, h2⟩ => by subst h1 h2; exact k b
theorem To.boxed {ty : TypeId} {u : Value} {us : List Value} (hg : grd ops ρ o = some true) (hd : o.dst = some d) (hn : Nat.blt d C.n = true) (ho : o.op = .box ty x) (hx : ev ρ x = some u) (hu : u.cells = us.toArray) (k : ∀ b, To C ((d, .pointer (some ⟨b, 0, none⟩)) :: ρ) (box b us ty :: Γ) (wpList P ops Q rest)) : To C ρ Γ (wpList P ops Q (o :: rest)) :=
  To.mk hg hd hn (Mk.box ho hx hu) fun _ _ ⟨b, h1, h2⟩ => by subst h1 h2; exact k b
/-- A call whose result is a value alone. -/
theorem To.callV {f : FuncId} {vs : List Value} {Γ1 : List Chunk} (hg : grd ops ρ o = some true) (hd : o.dst = some d) (hn : Nat.blt d C.n = true) (he : Ent P o ρ f vs) (hc : Does P f vs Γ1 (fun v' _ => v' = v)) (hq : owns Γ1 = []) (hs : ∀ w, oks Γ w → oks Γ1 w)
    (k : To C ((d, v) :: ρ) Γ (wpList P ops Q rest)) : To C ρ Γ (wpList P ops Q (o :: rest)) :=
  To.callQ (R := fun v' Γ' => v' = v ∧ Γ' = []) hg hd hn he (fun w hw => (hc w hw).mono fun e w' ⟨v', Γ', h1, h2, h3⟩ => ⟨v', [], h1, ⟨h2, rfl⟩, Post.drop (Γ' := []) h3⟩) hq hs fun v' Γ' ⟨h1, h2⟩ => by subst h1 h2; exact ⟨rfl, k⟩
end
/-- Chunks that stand among others. -/
theorem oks_nil (Γ : List Chunk) : ∀ w, oks Γ w → oks [] w := fun _ _ c hc => by simp at hc
theorem oks_cons {Γ Θ : List Chunk} {c : Chunk} (h1 : ∀ w, oks Γ w → c.holds w) (h2 : ∀ w, oks Γ w → oks Θ w) : ∀ w, oks Γ w → oks (c :: Θ) w := fun w hw x hx => by
  rcases List.mem_cons.1 hx with rfl | h
  · exact h1 w hw
  · exact h2 w hw x h
theorem oks_at {Γ : List Chunk} {c : Chunk} (i : Nat) (h : Γ[i]? = some c) : ∀ w, oks Γ w → c.holds w := fun _ hw => hw c (List.mem_of_getElem? h)
/-- A row of one's own may be read. -/
theorem oks_row {Γ : List Chunk} {e : TypeId} {size : Nat} {A : Option Addr} {n cap : Nat} {xs : List Value} (i : Nat) (h : Γ[i]? = some (row e size A n cap xs)) : ∀ w, oks Γ w → (ro A xs).holds w := fun w hw => by
  obtain ⟨A', cap', h1, h2, _⟩ := own_form (show w.ownsRow 0 e size (.slice A n cap) n xs from hw _ (List.mem_of_getElem? h))
  simp only [Value.slice.injEq] at h1
  show Src w A xs
  rw [h1.1]; exact h2
theorem Does.pure {P : Program} {f : FuncId} {args : List Value} {v : Value} (h : ∀ w, Calls P f args.toArray w fun e w' => e = .returned v ∧ Ext w w') : Does P f args [] (fun v' _ => v' = v) := fun w _ =>
  (h w).mono fun e w' ⟨h1, h2⟩ => ⟨v, [], h1, rfl, sat.nil _, Keeps.of_ext h2, by simp [owns], by simp [reads]⟩
end Go.Sep
namespace Go.Sep
open Go.RowKit Go.Flow Go.Mem
section
variable {P : Program} {o : Oper} {ρ : Slots} {Γ : List Chunk} {C : Cx} {ops : Array Oper} {Q : Exit → Act → World → Prop} {rest : List Oper} {d : Nat}
/-- A test, parted at once. -/
theorem To.rdB {t : Bool} (hg : grd ops ρ o = some true) (hd : o.dst = some d) (hn : Nat.blt d C.n = true) (h : Rd P o ρ Γ (.bool t)) (h1 : t = true → To C ((d, .bool true) :: ρ) Γ (wpList P ops Q rest)) (h2 : t = false → To C ((d, .bool false) :: ρ) Γ (wpList P ops Q rest)) : To C ρ Γ (wpList P ops Q (o :: rest)) := by
  cases t
  · exact To.rd hg hd hn h (h2 rfl)
  · exact To.rd hg hd hn h (h1 rfl)
theorem To.rdP {p : Prop} [Decidable p] (hg : grd ops ρ o = some true) (hd : o.dst = some d) (hn : Nat.blt d C.n = true) (h : Rd P o ρ Γ (.bool (decide p))) (h1 : p → To C ((d, .bool true) :: ρ) Γ (wpList P ops Q rest)) (h2 : ¬ p → To C ((d, .bool false) :: ρ) Γ (wpList P ops Q rest)) : To C ρ Γ (wpList P ops Q (o :: rest)) :=
  To.rdB hg hd hn h (fun e => h1 (of_decide_eq_true e)) (fun e => h2 (of_decide_eq_false e))
theorem FlowS.rdB {l : List Oper} {Θ : List Chunk} {K : Act → World → Prop} {ms : List Meta} {N : News} {i : Nat} {deps : List Nat} {t : Bool} (ho : l[i]? = some o) (hg : grd l.toArray ρ o = some true) (hd : o.dst = some d) (hn : Nat.blt d C.n = true) (h : Rd P o ρ Θ (.bool t)) (h1 : t = true → FlowS P l Θ K ms C ((d, .bool true) :: ρ) Γ N) (h2 : t = false → FlowS P l Θ K ms C ((d, .bool false) :: ρ) Γ N) : FlowS P l Θ K (⟨i, deps, 0⟩ :: ms) C ρ Γ N := by
  cases t
  · exact FlowS.free ho hg hd hn h (h2 rfl)
  · exact FlowS.free ho hg hd hn h (h1 rfl)
theorem FlowS.rdP {l : List Oper} {Θ : List Chunk} {K : Act → World → Prop} {ms : List Meta} {N : News} {i : Nat} {deps : List Nat} {p : Prop} [Decidable p] (ho : l[i]? = some o) (hg : grd l.toArray ρ o = some true) (hd : o.dst = some d) (hn : Nat.blt d C.n = true) (h : Rd P o ρ Θ (.bool (decide p))) (h1 : p → FlowS P l Θ K ms C ((d, .bool true) :: ρ) Γ N) (h2 : ¬ p → FlowS P l Θ K ms C ((d, .bool false) :: ρ) Γ N) : FlowS P l Θ K (⟨i, deps, 0⟩ :: ms) C ρ Γ N :=
  FlowS.rdB ho hg hd hn h (fun e => h1 (of_decide_eq_true e)) (fun e => h2 (of_decide_eq_false e))
/-- Ways that meet again behind a region. -/
theorem To.meet {T : Type} {K : Act → World → Prop} {l : List Oper} (F : T → Slots × List Chunk) (p : T → Prop) (h : To C ρ Γ (wpList P ops (Exit.then (fun a w => ∃ t, p t ∧ Has C.n C.ds (F t).1 a ∧ Post C.Γ0 (F t).2 C.w0 w) Q) l)) (k : ∀ t, p t → To C (F t).1 (F t).2 K) : To C ρ Γ (wpList P ops (Exit.then K Q) l) := by
  have mono : ∀ (l : List Oper) (a : Act) (w : World), wpList P ops (Exit.then (fun a w => ∃ t, p t ∧ Has C.n C.ds (F t).1 a ∧ Post C.Γ0 (F t).2 C.w0 w) Q) l a w → wpList P ops (Exit.then K Q) l a w := by
    intro l
    have hq : ∀ e a w, Exit.then (fun a w => ∃ t, p t ∧ Has C.n C.ds (F t).1 a ∧ Post C.Γ0 (F t).2 C.w0 w) Q e a w → Exit.then K Q e a w := fun e a w hq => by
      cases e with
      | normal => obtain ⟨t, h1, h2, h3⟩ := hq; exact k t h1 a w h2 h3
      | exit id => exact hq
      | goto l => exact hq
      | ret => exact hq
      | panic ch => exact hq
      | outgrown => exact hq
    induction l with
    | nil => exact fun a w h => hq .normal a w h
    | cons o l ih =>
      intro a w h
      unfold wpList at h ⊢
      split
      · rename_i hw
        rw [if_pos hw] at h
        rcases h with h | ⟨h1, a0, w0, h2⟩
        · left
          unfold Oper.wp at h ⊢
          generalize (execOp a.eval o).run P w = r at h ⊢
          cases r with
          | ok nx w' =>
            cases nx <;> first
              | exact ih _ _ h
              | exact Calls.mono h fun e w' h' => by
                  cases e with
                  | returned v => exact ih _ _ h'
                  | panicked c => exact h'
                  | outgrown => exact h'
              | exact Rows.mono h fun _ _ h' => ih _ _ h'
              | exact h.elim
          | halt hl w' => cases hl <;> first | exact h | exact h.elim
        · exact .inr ⟨h1, a0, w0, h2⟩
      · rename_i hw
        rw [if_neg hw] at h
        exact ih _ _ h
  exact fun a w ha hp => mono l a w (h a w ha hp)
end
end Go.Sep
namespace Go.Sep
open Go.RowKit Go.Flow Go.Mem
/-- A result that lies in a box; some of the chunks are handed back. -/
theorem To.endC {P : Program} {C : Cx} {ρ : Slots} {Γ Δ E : List Chunk} {R : Value → List Chunk → Prop} {fn : Func} {ex : Exit} {t b n i : Nat} {ty ty' : TypeId} {cs : List Value} (is : List Nat) (hpl : pull Γ is = some (Δ, E)) (hex : ex = .ret ∨ ex = .normal) (hres : fn.results = #[.cell t ty]) (hv : look ρ t = some (.pointer (some ⟨b, 0, none⟩)))
    (hi : Γ[i]? = some (box b cs ty')) (ht : RowTy P ty n) (hl : cs.length = n) (h : R (.agg cs.toArray) Δ) (hds : C.ds = [] := by rfl) : To C ρ Γ (bodyPost P fn (Fin C R) ex) := fun a w ha hp => by
  have hr : (results fn a.tmps).run P w = .ok (.agg cs.toArray) w := by
    obtain ⟨d, h1, h2, h3⟩ := ht
    have hw := hp.sat.each _ (List.mem_of_getElem? hi)
    have := run_loadVar_mid (P := P) w b 0 ty cs d (range_of_whole hw) h1 h2 (by rw [hl]; exact h3)
    have he : a.tmps[t]?.getD undef = .pointer (some ⟨b, 0, none⟩) := by rw [ha.sees t _ hv]; rfl
    simp [results, hres, he, asAddr, this]
  have hq : Post C.Γ0 Δ C.w0 w := (hp.perm (pull_perm hpl)).drop
  rcases hex with rfl | rfl
  · exact ⟨ha.defers.trans hds, _, hr, _, Δ, rfl, h, hq⟩
  · exact ⟨ha.defers.trans hds, _, hr, _, Δ, rfl, h, hq⟩
end Go.Sep
namespace Go.Sep
open Go.RowKit Go.Flow Go.Mem
section
variable {P : Program} {o : Oper} {ρ : Slots} {Γ : List Chunk} {x y : Operand} {C : Cx} {K : Act → World → Prop}
theorem Rd.rem {k : IntKind} {m n : Int} {t t' : TypeId} (ho : o.op = .binOp .rem t x y t') (hx : ev ρ x = some (.int k m)) (hy : ev ρ y = some (.int k n)) (h0 : 0 ≤ m) (h1 : 0 < n) : Rd P o ρ Γ (.int k (m % n)) := Rd.bin ho hx hy fun w => by
  have h2 : n ≠ 0 := by omega
  simp [eqGuard, binOp, Op.intDiv, h2, Int.tmod_eq_emod_of_nonneg h0]
theorem Rd.quo64 {m n : Int} {t t' : TypeId} (ho : o.op = .binOp .quo t x y t') (hx : ev ρ x = some (.int .i64 m)) (hy : ev ρ y = some (.int .i64 n)) (h0 : 0 ≤ m) (h1 : 0 < n) (h3 : m ≤ 9223372036854775807) : Rd P o ρ Γ (.int .i64 (m / n)) := Rd.bin ho hx hy fun w => by
  have h2 : n ≠ 0 := by omega
  have h4 : m / n ≤ m := Int.ediv_le_self _ h0
  have h5 : 0 ≤ m / n := Int.ediv_nonneg h0 (by omega)
  simp [eqGuard, binOp, Op.intDiv, h2, Int.tdiv_eq_ediv_of_nonneg h0, IntWalk.i64_in (m / n) (by omega)]
/-- A chunk that owns and reads nothing and always holds. -/
theorem To.free {c : Chunk} (h1 : c.owns = []) (h2 : c.reads = []) (h3 : ∀ w, c.holds w) (k : To C ρ (c :: Γ) K) : To C ρ Γ K := fun a w ha hq => by
  have e1 : owns (c :: Γ) = owns Γ := by simp [owns, h1]
  have e2 : reads (c :: Γ) = reads Γ := by simp [reads, h2]
  refine k a w ha ⟨⟨fun x hx => ?_, by rw [e1]; exact hq.sat.nodup, by rw [e1, e2]; exact hq.sat.apart⟩, hq.keeps, by rw [e1]; exact hq.own, by rw [e2]; exact hq.rd⟩
  rcases List.mem_cons.1 hx with rfl | h
  · exact h3 w
  · exact hq.sat.each x h
theorem To.nilRow {α : Type} (enc : α → List Value) (e : TypeId) (size : Nat) (k : To C ρ (rows enc e size none 0 [] :: Γ) K) : To C ρ Γ K := To.free (c := rows enc e size none 0 []) rfl rfl (fun w => World.ownsRow_nil w 0 e size) k
/-- What one owns may be laid down to be read only: chunk for chunk. -/
theorem To.lay {Γ' : List Chunk} (h1 : ∀ w, sat Γ w → oks Γ' w) (h2 : owns Γ' = []) (h3 : ∀ g ∈ reads Γ', g ∈ owns Γ ∨ g ∈ reads Γ) {Δ : List Chunk} (k : To C ρ (Γ' ++ Δ) K) : To C ρ (Γ ++ Δ) K := fun a w ha hq => by
  refine k a w ha (hq.trans (Post.frame hq.sat ⟨⟨h1 w hq.sat.left, by rw [h2]; simp, fun g _ => by rw [h2]; simp⟩, Keeps.refl _ _, fun g hg => by rw [h2] at hg; simp at hg, fun g hg _ => h3 g hg⟩))
end
end Go.Sep
namespace Go.Sep
open Go.RowKit Go.Flow Go.Mem
/-- More that may be read. -/
theorem To.derive {C : Cx} {ρ : Slots} {Γ : List Chunk} {K : Act → World → Prop} (c : Chunk) (h1 : c.owns = []) (h2 : ∀ g ∈ c.reads, g ∈ reads Γ) (h3 : ∀ w, oks Γ w → c.holds w) (k : To C ρ (c :: Γ) K) : To C ρ Γ K := fun a w ha hq => by
  have e1 : owns (c :: Γ) = owns Γ := by simp [owns, h1]
  have e2 : ∀ g ∈ reads (c :: Γ), g ∈ reads Γ := fun g hg => by
    have : g ∈ c.reads ∨ g ∈ reads Γ := by simpa [reads] using hg
    exact this.elim (h2 g) id
  refine k a w ha ⟨⟨fun x hx => ?_, by rw [e1]; exact hq.sat.nodup, fun g hg => by rw [e1]; exact hq.sat.apart g (e2 g hg)⟩, hq.keeps, by rw [e1]; exact hq.own, fun g hg => hq.rd g (e2 g hg)⟩
  rcases List.mem_cons.1 hx with rfl | h
  · exact h3 w hq.sat.each
  · exact hq.sat.each x h
theorem reads_at {Γ : List Chunk} {c : Chunk} (i : Nat) (hi : Γ[i]? = some c) {g : Nat} (hg : g ∈ c.reads) : g ∈ reads Γ := mem_reads.2 ⟨c, List.mem_of_getElem? hi, hg⟩
/-- A row of one's own is laid down to be read. -/
theorem To.layRow {C : Cx} {ρ : Slots} {Γ : List Chunk} {K : Act → World → Prop} {α : Type} {enc : α → List Value} {e : TypeId} {size : Nat} {A : Option Addr} {cap : Nat} {l : List α} (k : To C ρ (ros enc A l :: Γ) K) : To C ρ (rows enc e size A cap l :: Γ) K :=
  To.lay (Γ := [rows enc e size A cap l]) (Γ' := [ros enc A l]) (fun w hs c hc => by
    rw [List.mem_singleton.1 hc]
    exact oks_row (Γ := [rows enc e size A cap l]) 0 rfl w hs.each) rfl (fun g hg => by
    refine .inl ?_
    have h1 : g ∈ rblks A (l.flatMap enc) := by simpa [reads, ros, ro] using hg
    have h2 : g ∈ blks A := by
      cases h : l.flatMap enc with
      | nil => rw [h] at h1; simp [rblks] at h1
      | cons x xs => rw [h] at h1; exact h1
    simpa [owns, rows, row] using h2) k
/-- The chunk in front is put elsewhere. -/
theorem To.front {C : Cx} {ρ : Slots} {Γ : List Chunk} {K : Act → World → Prop} {c : Chunk} (i : Nat) (hi : Γ[i]? = some c) (k : To C ρ (c :: Γ.eraseIdx i) K) : To C ρ Γ K := To.perm (perm_eraseIdx hi) k
end Go.Sep
namespace Go.Sep
open Go.RowKit Go.Flow Go.Mem
section
variable {P : Program} {o : Oper} {ρ : Slots} {Γ : List Chunk} {x y : Operand} {C : Cx} {ops : Array Oper} {Q : Exit → Act → World → Prop} {rest : List Oper} {v : Value} {d : Nat}
variable {α : Type} {enc : α → List Value} {size : Nat}
theorem over_flat (E : Enc enc size) : ∀ (X : List α) (i : Nat) (y : α), i < X.length → over (X.flatMap enc) (i * size) (enc y) = (X.set i y).flatMap enc
  | [], i, y, h => by simp at h
  | x :: X, 0, y, _ => by
    unfold over
    rw [Nat.zero_mul, List.take_zero, Nat.zero_add, E.len, List.flatMap_cons, List.drop_append, List.drop_of_length_le (by rw [E.len]; exact Nat.le_refl _), E.len]
    simp
  | x :: X, i + 1, y, h => by
    have ih := over_flat E X i y (by simpa using h)
    unfold over at ih ⊢
    have e1 : (i + 1) * size = size + i * size := by rw [Nat.add_mul]; omega
    rw [E.len] at ih ⊢
    rw [List.set_cons_succ, List.flatMap_cons, List.flatMap_cons, e1, ← ih]
    rw [List.take_append, List.drop_append, List.take_of_length_le (by rw [E.len]; omega), List.drop_of_length_le (by rw [E.len]; omega), E.len, show size + i * size - size = i * size by omega, show size + i * size + size - size = i * size + size by omega]
    simp
theorem rows_takes (E : Enc enc size) (hpos : 0 < size) {e : TypeId} {A : Option Addr} {cap i : Nat} {X : List α} {y : α} (hi : i < X.length) : (rows enc e size A cap X).takes (blk A) (ofs A + i * size) (enc y) (rows enc e size A cap (X.set i y)) := by
  have h := row_takes (e := e) (size := size) (A := A) (n := X.length) (cap := cap) (off := i * size) (xs := X.flatMap enc) (us := enc y) (by
    rw [E.len]
    have : (i + 1) * size ≤ X.length * size := Nat.mul_le_mul_right _ hi
    rw [Nat.add_mul] at this; omega) (fun h => by have := E.len y; rw [h] at this; simp at this; omega) (over_flat E X i y hi)
  have e1 : rows enc e size A cap (X.set i y) = row e size A X.length cap ((X.set i y).flatMap enc) := by simp [rows]
  rw [e1]; exact h
/-- Where s[lo:] begins. -/
def slAt (A : Option Addr) (cap lo size : Nat) : Option Addr := if cap = lo then A else A.map (·.add (lo * size))
theorem Rd.sliceLo {t e : TypeId} {bytes n cap lo : Nat} {zs : List Value} {A : Option Addr} {k : IntKind} (ho : o.op = .slice t x (some y) none none) (ht : SliceTy P t e size bytes zs) (hx : ev ρ x = some (.slice A n cap)) (hy : ev ρ y = some (.int k (lo : Int))) (hl : lo ≤ n) : Rd P o ρ Γ (.slice (slAt A cap lo size) (n - lo) (cap - lo)) := fun a w ha _ => by
  obtain ⟨i, z, h1, h2, h3, _⟩ := ht.inf
  unfold execOp
  simp [ho, ha.eval hx, ha.eval hy, Instr.sliceAt, run_underlying ht.und, Instr.slice, Instr.sliceBounds, Instr.sliceBound, asIntOf, hl, sizeOf, typeInfo, h1, h3, slAt]
theorem Rd.sliceHi {t e : TypeId} {bytes n cap hi : Nat} {zs : List Value} {A : Option Addr} {k : IntKind} (ho : o.op = .slice t x none (some y) none) (ht : SliceTy P t e size bytes zs) (hx : ev ρ x = some (.slice A n cap)) (hy : ev ρ y = some (.int k (hi : Int))) (hl : hi ≤ cap) : Rd P o ρ Γ (.slice A hi cap) := fun a w ha _ => by
  obtain ⟨i, z, h1, h2, h3, _⟩ := ht.inf
  unfold execOp
  simp [ho, ha.eval hx, ha.eval hy, Instr.sliceAt, run_underlying ht.und, Instr.slice, Instr.sliceBounds, Instr.sliceBound, asIntOf, hl, sizeOf, typeInfo, h1]
  intro _
  cases A <;> simp [Addr.add]
theorem Rd.sliceLH {t e : TypeId} {bytes n cap lo hi : Nat} {zs : List Value} {A : Option Addr} {k k' : IntKind} {z : Operand} (ho : o.op = .slice t x (some y) (some z) none) (ht : SliceTy P t e size bytes zs) (hx : ev ρ x = some (.slice A n cap)) (hy : ev ρ y = some (.int k (lo : Int))) (hz : ev ρ z = some (.int k' (hi : Int))) (h0 : lo ≤ hi) (hl : hi ≤ cap) : Rd P o ρ Γ (.slice (slAt A cap lo size) (hi - lo) (cap - lo)) := fun a w ha _ => by
  obtain ⟨i, z, h1, h2, h3, _⟩ := ht.inf
  unfold execOp
  simp [ho, ha.eval hx, ha.eval hy, ha.eval hz, Instr.sliceAt, run_underlying ht.und, Instr.slice, Instr.sliceBounds, Instr.sliceBound, asIntOf, hl, h0, sizeOf, typeInfo, h1, h3, slAt]
theorem Rd.sliceAll {t e : TypeId} {n cap : Nat} {A : Option Addr} {bytes : Nat} {zs : List Value} (ho : o.op = .slice t x none none none) (ht : SliceTy P t e size bytes zs) (hx : ev ρ x = some (.slice A n cap)) : Rd P o ρ Γ (.slice A n cap) := fun a w ha _ => by
  obtain ⟨i, z, h1, h2, h3, _⟩ := ht.inf
  unfold execOp
  simp [ho, ha.eval hx, Instr.sliceAt, run_underlying ht.und, Instr.slice, Instr.sliceBounds, sizeOf, typeInfo, h1]
  intro _
  cases A <;> simp [Addr.add]
theorem Rd.nilCheck {ad : Addr} (ho : o.op = .nilCheck x) (hx : ev ρ x = some (.pointer (some ad))) : Rd P o ρ Γ (.pointer (some ad)) := fun a w ha _ => by
  unfold execOp; simp [ho, ha.eval hx]
theorem Rd.nilCheckF {f : FuncId} {f1 cp : Array Value} (ho : o.op = .nilCheck x) (hx : ev ρ x = some (.func (.func f) f1 cp)) : Rd P o ρ Γ (.func (.func f) f1 cp) := fun a w ha _ => by
  unfold execOp; simp [ho, ha.eval hx]
theorem Rd.makeFunc {f : FuncId} {xs ys : List Operand} {us vs : List Value} (ho : o.op = .makeFunc (.func f) xs.toArray ys.toArray) (hx : evs ρ xs = some us) (hy : evs ρ ys = some vs) : Rd P o ρ Γ (.func (.func f) us.toArray vs.toArray) := fun a w ha _ => by
  unfold execOp; simp [ho, ha.evals hx, ha.evals hy, Instr.makeFunc]
theorem equal_nil {t e : TypeId} (ht : P.underlying t = some (.pointer e)) (p : Option Addr) (w : World) : (Op.equal t (.pointer p) (.pointer none)).run P w = .ok p.isNone w := by
  have key : ∀ d, (Op.equalIn (d + 1) t (.pointer p) (.pointer none)).run P w = .ok p.isNone w := fun d => by
    cases p <;> simp [Op.equalIn, run_underlying ht]
  exact key 9999
theorem Rd.eqlNil {t t' e : TypeId} {p : Option Addr} (ho : o.op = .binOp .eql t x y t') (ht : P.underlying t = some (.pointer e)) (hx : ev ρ x = some (.pointer p)) (hy : ev ρ y = some (.pointer none)) : Rd P o ρ Γ (.bool p.isNone) := Rd.bin ho hx hy fun w => by
  have h := equal_nil (P := P) ht p w
  cases p <;> simp [eqGuard, binOp, h]
theorem Rd.neqNil {t t' e : TypeId} {p : Option Addr} (ho : o.op = .binOp .neq t x y t') (ht : P.underlying t = some (.pointer e)) (hx : ev ρ x = some (.pointer p)) (hy : ev ρ y = some (.pointer none)) : Rd P o ρ Γ (.bool p.isSome) := Rd.bin ho hx hy fun w => by
  have h := equal_nil (P := P) ht p w
  cases p <;> simp [eqGuard, binOp, h]
/-- clear(s[lo:]): what is ahead of lo stays. -/
theorem To.clearTail (E : Enc enc size) {t e : TypeId} {bytes lo cap i : Nat} {zs : List Value} {A : Option Addr} {X : List α} (hg : grd ops ρ o = some true) (hd : o.dst = none) (ho : o.op = .call { callee := .builtin .clear, args := #[x], argTypes := #[t] }) (ht : SliceTy P t e size bytes zs)
    (hx : ev ρ x = some (.slice (slAt A cap lo size) (X.length - lo) (cap - lo))) (hi : Γ[i]? = some (rows enc e size A cap X)) (hlo : lo ≤ X.length) (hpos : 0 < X.length) (k : To C ρ (Γ.set i (rows enc e size A cap (X.take lo))) (wpList P ops Q rest)) : To C ρ Γ (wpList P ops Q (o :: rest)) := fun a w ha hp => by
  obtain ⟨it, zv, h2, h3, h4, h5, h6⟩ := ht.inf
  have hrow : w.ownsRow 0 e size (.slice A X.length cap) X.length (X.flatMap enc) := hp.sat.each _ (List.mem_of_getElem? hi)
  have hA := own_some hrow hpos
  have hrow' : w.ownsRow 0 e size (.slice (some ⟨blk A, 0, none⟩) X.length cap) X.length (X.flatMap enc) := by rw [← hA]; exact hrow
  obtain ⟨_, _, hf, _, hnc, _⟩ := own_form hrow'
  simp only [Value.slice.injEq] at hf
  obtain ⟨_, _, rfl⟩ := hf
  have key : ∃ off q c, ev ρ x = some (.slice (some ⟨blk A, off, none⟩) q c) ∧ off + q * size ≤ X.length * size ∧ (q = 0 ∨ off = lo * size) := by
    by_cases hc : cap = lo
    · refine ⟨0, X.length - lo, cap - lo, by rw [hx, slAt, if_pos hc, ← hA], ?_, .inl (by omega)⟩
      have : X.length - lo = 0 := by omega
      rw [this]; omega
    · refine ⟨lo * size, X.length - lo, cap - lo, by rw [hx, slAt, if_neg hc, hA]; simp only [Option.map_some, Addr.add_mid, Nat.zero_add]; rfl, ?_, .inr rfl⟩
      rw [← Nat.add_mul]; exact Nat.mul_le_mul_right _ (by omega)
  obtain ⟨off, q, c, hx', hfit, hor⟩ := key
  obtain ⟨w', ys, hrun, h7, h8, h9⟩ := run_clear_over (P := P) w 0 t o.type e it zv size ht.und h2 h3 (by rw [h6]; simpa using ht.len) (fun u hu => ht.one u (by rw [h6] at hu; simpa using hu)) (blk A) X.length cap _ hrow' off q c hfit
  have h10 := own_shorter h8 lo hlo
  have e1 : (over (X.flatMap enc) off ys).take (lo * size) = (X.take lo).flatMap enc := by
    have e2 : (X.flatMap enc).take (lo * size) = (X.take lo).flatMap enc := by
      conv => lhs; rw [← List.take_append_drop lo X, List.flatMap_append]
      have : lo * size = ((X.take lo).flatMap enc).length := by rw [E.flat_len, List.length_take, Nat.min_eq_left hlo]
      rw [this, List.take_left]
    rw [← e2]
    unfold over
    rcases hor with rfl | rfl
    · rw [Nat.zero_mul] at h7
      rw [List.length_eq_zero_iff.1 h7]; simp
    · have : lo * size ≤ (X.flatMap enc).length := by rw [E.flat_len]; exact Nat.mul_le_mul_right _ hlo
      rw [List.append_assoc, List.take_append_of_le_length (by rw [List.length_take]; omega), List.take_take, Nat.min_self]
  rw [e1] at h10
  have hl2 : (X.take lo).length = lo := by rw [List.length_take]; omega
  have hch : (rows enc e size A cap (X.take lo)).holds w' := by
    show w'.ownsRow 0 e size (.slice A (X.take lo).length cap) (X.take lo).length ((X.take lo).flatMap enc)
    rw [hl2, hA]; exact h10
  have hpost : Post Γ (Γ.set i (rows enc e size A cap (X.take lo))) w w' := by
    refine Post.set hi hp.sat ⟨⟨fun c hc => by rw [List.mem_singleton.1 hc]; exact hch, ?_, by simp [reads, rows, row]⟩, h9.mono fun g _ hg => ?_, fun g hg _ => ?_, by simp [reads, rows, row]⟩
    · cases A <;> simp [owns, rows, row, blks]
    · rw [hg]
      have : blk A ∈ blks A := mem_blks.2 ⟨_, hA, rfl⟩
      simpa [owns, rows, row] using this
    · simpa [owns, rows, row] using hg
  refine wp_of_run (v := .tuple #[]) (w' := w') (grd_wanted hg ha.sees) ?_ ?_
  · unfold execOp
    simp only [ho, resolve, invoke, builtin, Sem.run_bind, Sem.run_pure, Result.andThen_ok, List.map_toArray, List.map_cons, List.map_nil, ha.sees.eval hx', hrun]
  · rw [hd]; exact k a w' ha (hp.trans hpost)
/-- A box may be read. -/
theorem oks_box {b : Nat} {cs : List Value} {t : TypeId} (i : Nat) (h : Γ[i]? = some (box b cs t)) : ∀ w, oks Γ w → (ro (some ⟨b, 0, none⟩) cs).holds w := fun _ hw => .inr ⟨b, 0, rfl, range_of_whole (hw _ (List.mem_of_getElem? h))⟩
end
end Go.Sep
namespace Go.Sep
open Go.RowKit Go.Flow Go.Mem
/-- A box is laid down to be read. -/
theorem To.layBox {C : Cx} {ρ : Slots} {Γ : List Chunk} {K : Act → World → Prop} {b : Nat} {cs : List Value} {t : TypeId} (k : To C ρ (ro (some ⟨b, 0, none⟩) cs :: Γ) K) : To C ρ (box b cs t :: Γ) K :=
  To.lay (Γ := [box b cs t]) (Γ' := [ro (some ⟨b, 0, none⟩) cs]) (fun w hs c hc => by
    rw [List.mem_singleton.1 hc]
    exact oks_box (Γ := [box b cs t]) 0 rfl w hs.each) rfl (fun g hg => by
    refine .inl ?_
    cases cs with
    | nil => simp [reads, ro, rblks] at hg
    | cons x xs => simpa [reads, owns, ro, rblks, blks, box] using hg) k
/-- A result of which only a property is told; what was made is let go. -/
theorem Does.bare {P : Program} {f : FuncId} {vs : List Value} {Γ : List Chunk} {p : Value → Prop} (h : Does P f vs Γ (fun v _ => p v)) : Does P f vs Γ (fun v Γ' => p v ∧ Γ' = []) := fun w hs =>
  (h w hs).mono fun _ _ ⟨v, _, h1, h2, h3⟩ => ⟨v, [], h1, ⟨h2, rfl⟩, Post.drop (Γ' := []) h3⟩
end Go.Sep
namespace Go.Sep
open Go.RowKit Go.Flow Go.Mem
section
variable {C : Cx} {ρ : Slots} {K : Act → World → Prop}
/-- Chunks in front told anew. -/
theorem To.turnF {Γ1 Δ : List Chunk} (Γ2 : List Chunk) (h : ∀ w, sat Γ1 w → Post Γ1 Γ2 w w) (k : To C ρ (Γ2 ++ Δ) K) : To C ρ (Γ1 ++ Δ) K := fun a w ha hq => k a w ha (hq.trans (Post.frame hq.sat (h w hq.sat.left)))
/-- The same, where more is known of them. -/
theorem To.openF {T : Type} {Γ1 Δ : List Chunk} {p : T → Prop} (Γ2 : T → List Chunk) (h : ∀ w, sat Γ1 w → ∃ t, p t ∧ Post Γ1 (Γ2 t) w w) (k : ∀ t, p t → To C ρ (Γ2 t ++ Δ) K) : To C ρ (Γ1 ++ Δ) K := fun a w ha hq => by
  obtain ⟨t, hp, ht⟩ := h w hq.sat.left
  exact k t hp a w ha (hq.trans (Post.frame hq.sat ht))
theorem Post.same {Γ1 Γ2 : List Chunk} {w : World} (hs : Sep.sat Γ1 w) (h : oks Γ2 w) (h1 : owns Γ2 = owns Γ1) (h2 : ∀ g ∈ reads Γ2, g ∈ reads Γ1) : Post Γ1 Γ2 w w :=
  ⟨⟨h, by rw [h1]; exact hs.nodup, fun g hg => by rw [h1]; exact hs.apart g (h2 g hg)⟩, Keeps.refl _ _, fun g hg _ => by rw [h1] at hg; exact hg, fun g hg _ => .inr (h2 g hg)⟩
end
end Go.Sep
namespace Go.Sep
open Go.RowKit Go.Flow Go.Mem
def ArrTy (P : Program) (t : TypeId) (n size : Nat) : Prop := ∃ e i, P.underlying t = some (.array n e) ∧ P.info? e = some i ∧ i.size = size
theorem ArrTy.of {P : Program} {t e : TypeId} {n size : Nat} (h : P.underlying t = some (.array n e)) (h1 : (P.info? e).map (·.size) = some size) : ArrTy P t n size := by
  obtain ⟨i, h2, h3⟩ := Option.map_eq_some_iff.1 h1
  exact ⟨e, i, h, h2, h3⟩
theorem Rd.indexArr {P : Program} {o : Oper} {ρ : Slots} {Γ : List Chunk} {x y : Operand} {t : TypeId} {n size b off j : Nat} {k : IntKind} (ho : o.op = .indexAddr t x y) (ht : ArrTy P t n size) (hx : ev ρ x = some (.pointer (some ⟨b, off, none⟩))) (hy : ev ρ y = some (.int k (j : Int))) (hj : j < n) : Rd P o ρ Γ (.pointer (some ⟨b, off + j * size, none⟩)) := fun a w ha _ => by
  obtain ⟨e, i, h1, h2, h3⟩ := ht
  unfold execOp
  simp [ho, ha.eval hx, ha.eval hy, Instr.indexAt, asIntOf, run_underlying h1, Instr.sureAddr, hj, sizeOf, typeInfo, h2, h3, Addr.add_mid]
end Go.Sep
namespace Go.Sep
open Go.RowKit Go.Flow Go.Mem
section
variable {P : Program} {o : Oper} {ρ : Slots} {Γ : List Chunk} {x y : Operand}
theorem Rd.min {k : IntKind} {m n : Int} {t u : TypeId} (ho : o.op = .call { callee := .builtin .min, args := #[x, y], argTypes := #[t, u] }) (hx : ev ρ x = some (.int k m)) (hy : ev ρ y = some (.int k n)) : Rd P o ρ Γ (.int k (min m n)) := fun a w ha _ => by
  unfold execOp
  have e1 : (if n < m then n else m) = Min.min m n := by omega
  simp [ho, resolve, invoke, builtin, ha.eval hx, ha.eval hy, Builtin.min_, Builtin.min2, e1]
theorem Rd.minTake {α : Type} {l : List α} {n : Nat} {t u : TypeId} (ho : o.op = .call { callee := .builtin .min, args := #[x, y], argTypes := #[t, u] }) (hx : ev ρ x = some (.int .i64 (l.length : Nat))) (hy : ev ρ y = some (.int .i64 (n : Int))) : Rd P o ρ Γ (.int .i64 ((l.take n).length : Nat)) := by
  have := Rd.min (P := P) (Γ := Γ) ho hx hy
  rwa [show Min.min ((l.length : Nat) : Int) (n : Int) = ((l.take n).length : Nat) by rw [List.length_take]; omega] at this
theorem Rd.eqlB {t t' : TypeId} {b c : Bool} (ho : o.op = .binOp .eql t x y t') (ht : P.underlying t = some .bool) (hx : ev ρ x = some (.bool b)) (hy : ev ρ y = some (.bool c)) : Rd P o ρ Γ (.bool (b == c)) := Rd.bin ho hx hy fun w => by
  have key : ∀ d, (Op.equalIn (d + 1) t (.bool b) (.bool c)).run P w = .ok (b == c) w := fun d => by simp [Op.equalIn, run_underlying ht]
  have h : (Op.equal t (.bool b) (.bool c)).run P w = .ok (b == c) w := key 9999
  simp [eqGuard, binOp, h]
theorem Rd.neqB {t t' : TypeId} {b c : Bool} (ho : o.op = .binOp .neq t x y t') (ht : P.underlying t = some .bool) (hx : ev ρ x = some (.bool b)) (hy : ev ρ y = some (.bool c)) : Rd P o ρ Γ (.bool (!(b == c))) := Rd.bin ho hx hy fun w => by
  have key : ∀ d, (Op.equalIn (d + 1) t (.bool b) (.bool c)).run P w = .ok (b == c) w := fun d => by simp [Op.equalIn, run_underlying ht]
  have h : (Op.equal t (.bool b) (.bool c)).run P w = .ok (b == c) w := key 9999
  simp [eqGuard, binOp, h]
/-- The head of what is read. -/
theorem To.take {C : Cx} {K : Act → World → Prop} {α : Type} {enc : α → List Value} {A : Option Addr} {l : List α} (k i : Nat) (hi : Γ[i]? = some (ros enc A l)) (h : To C ρ (ros enc A (l.take k) :: Γ) K) : To C ρ Γ K := by
  have e1 : l.flatMap enc = (l.take k).flatMap enc ++ (l.drop k).flatMap enc := by rw [← List.flatMap_append, List.take_append_drop]
  refine To.derive (ros enc A (l.take k)) rfl (fun g hg => reads_at i hi ?_) (fun w hw => ?_) h
  · have h1 : g ∈ rblks A ((l.take k).flatMap enc) := hg
    show g ∈ rblks A (l.flatMap enc)
    cases h2 : (l.take k).flatMap enc with
    | nil => rw [h2] at h1; simp [rblks] at h1
    | cons u us => rw [e1, h2]; rw [h2] at h1; exact h1
  · have h1 : Src w A (l.flatMap enc) := hw _ (List.mem_of_getElem? hi)
    show Src w A ((l.take k).flatMap enc)
    rcases h1 with h1 | ⟨g, off, rfl, h1⟩
    · rw [h1] at e1; exact .inl (List.append_eq_nil_iff.1 e1.symm).1
    · refine .inr ⟨g, off, rfl, fun j v hv => h1 j v ?_⟩
      rw [e1, List.getElem?_append_left (List.getElem?_eq_some_iff.1 hv).1]; exact hv
/-- One element of a row, as a slice of its own. -/
theorem oks_elem {α : Type} {enc : α → List Value} {size : Nat} (E : Enc enc size) {e : TypeId} {A : Option Addr} {cap i : Nat} {l : List α} {y : α} (n : Nat) (h : Γ[n]? = some (rows enc e size A cap l)) (hy : l[i]? = some y) (hc : l.length ≤ cap) : ∀ w, oks Γ w → (ros enc (slAt A cap i size) [y]).holds w := fun w hw => by
  have hrow : w.ownsRow 0 e size (.slice A l.length cap) l.length (l.flatMap enc) := hw _ (List.mem_of_getElem? h)
  have hi := (List.getElem?_eq_some_iff.1 hy).1
  have hA := own_some hrow (by omega)
  have hg := rows_gives E (e := e) (A := A) (cap := cap) hy w hrow
  have h0 : ofs A = 0 := by rw [hA]; rfl
  rw [h0, Nat.zero_add] at hg
  show Src w (slAt A cap i size) ([y].flatMap enc)
  rw [slAt, if_neg (by omega), hA]
  refine .inr ⟨blk A, i * size, by simp only [Option.map_some, Addr.add_mid, Nat.zero_add], ?_⟩
  simpa using hg
end
end Go.Sep
namespace Go.Sep
open Go.RowKit Go.Flow Go.Mem
/-- A loop whose round does not come to its end. -/
theorem To.loopOnce {P : Program} {C : Cx} {ρ : Slots} {Γ : List Chunk} {Q : Exit → Act → World → Prop} {c : Code} (h : To C ρ Γ (c.wp P (Exit.then (fun _ _ => False) Q))) : To C ρ Γ ((Code.loop c).wp P Q) := fun a w ha hp => wp_loop_once (h a w ha hp)
theorem Rd.max {P : Program} {o : Oper} {ρ : Slots} {Γ : List Chunk} {x y : Operand} {k : IntKind} {m n : Int} {t u : TypeId} (ho : o.op = .call { callee := .builtin .max, args := #[x, y], argTypes := #[t, u] }) (hx : ev ρ x = some (.int k m)) (hy : ev ρ y = some (.int k n)) : Rd P o ρ Γ (.int k (max m n)) := fun a w ha _ => by
  unfold execOp
  have e1 : (if m < n then n else m) = Max.max m n := by omega
  simp [ho, resolve, invoke, builtin, ha.eval hx, ha.eval hy, Builtin.max_, Builtin.max2, e1]
/-- A map that nobody looks into. -/
theorem Mk.makeMap {P : Program} {o : Oper} {ρ : Slots} {Γ : List Chunk} {t : TypeId} (ho : o.op = .makeMap t none) : Mk P o ρ Γ (fun v N => ∃ r, v = .map (some r) ∧ N = []) := fun a w _ _ => by
  refine ⟨_, _, w.alloc (.map #[] 0), ?_, ⟨w.heap.size, rfl, rfl⟩, ⟨sat.nil _, Keeps.of_ext (Ext.new _ _), by simp [owns], by simp [reads]⟩⟩
  unfold execOp
  simp [ho, Instr.makeMap]
/-- Two results, the first of them in a box. -/
theorem To.endCT {P : Program} {C : Cx} {ρ : Slots} {Γ Δ E : List Chunk} {R : Value → List Chunk → Prop} {fn : Func} {ex : Exit} {t b n i u : Nat} {ty ty' : TypeId} {cs : List Value} {v : Value} (is : List Nat) (hpl : pull Γ is = some (Δ, E)) (hex : ex = .ret ∨ ex = .normal) (hres : fn.results = #[.cell t ty, .tmp u]) (hv : look ρ t = some (.pointer (some ⟨b, 0, none⟩)))
    (hi : Γ[i]? = some (box b cs ty')) (ht : RowTy P ty n) (hl : cs.length = n) (hu : look ρ u = some v) (h : R (.tuple #[.agg cs.toArray, v]) Δ) (hds : C.ds = [] := by rfl) : To C ρ Γ (bodyPost P fn (Fin C R) ex) := fun a w ha hp => by
  have hr : (results fn a.tmps).run P w = .ok (.tuple #[.agg cs.toArray, v]) w := by
    obtain ⟨d, h1, h2, h3⟩ := ht
    have hw := hp.sat.each _ (List.mem_of_getElem? hi)
    have := run_loadVar_mid (P := P) w b 0 ty cs d (range_of_whole hw) h1 h2 (by rw [hl]; exact h3)
    have he : a.tmps[t]?.getD undef = .pointer (some ⟨b, 0, none⟩) := by rw [ha.sees t _ hv]; rfl
    have he2 : a.tmps[u]?.getD undef = v := by rw [ha.sees u _ hu]; rfl
    simp [results, hres, he, he2, asAddr, this]
  have hq : Post C.Γ0 Δ C.w0 w := (hp.perm (pull_perm hpl)).drop
  rcases hex with rfl | rfl
  · exact ⟨ha.defers.trans hds, _, hr, _, Δ, rfl, h, hq⟩
  · exact ⟨ha.defers.trans hds, _, hr, _, Δ, rfl, h, hq⟩
end Go.Sep
namespace Go.Sep
open Go.RowKit Go.Flow Go.Mem
theorem Rd.indexRowsI {P : Program} {o : Oper} {ρ : Slots} {Γ : List Chunk} {x y : Operand} {α : Type} {enc : α → List Value} {size : Nat} {t e ie : TypeId} {bytes : Nat} {zs : List Value} {A : Option Addr} {cap j i : Nat} {l : List α} {k : IntKind} {el : α} {m : Int} (ho : o.op = .indexAddr t x y) (hx : ev ρ x = some (.slice A l.length cap)) (hy : ev ρ y = some (.int k m)) (hm : m = (j : Int)) (ht : SliceTy P t e size bytes zs)
    (hi : Γ[i]? = some (rows enc ie size A cap l)) (hj : l[j]? = some el) : Rd P o ρ Γ (.pointer (some ⟨blk A, ofs A + j * size, none⟩)) := by
  subst hm; exact Rd.indexRows ho hx hy ht hi hj
theorem Rd.indexRosI {P : Program} {o : Oper} {ρ : Slots} {Γ : List Chunk} {x y : Operand} {α : Type} {enc : α → List Value} {size : Nat} (E : Enc enc size) {t e : TypeId} {bytes : Nat} {zs : List Value} {A : Option Addr} {cap j i : Nat} {l : List α} {k : IntKind} {el : α} {m : Int} (ho : o.op = .indexAddr t x y) (hx : ev ρ x = some (.slice A l.length cap)) (hy : ev ρ y = some (.int k m)) (hm : m = (j : Int)) (ht : SliceTy P t e size bytes zs)
    (hi : Γ[i]? = some (ros enc A l)) (hj : l[j]? = some el) : Rd P o ρ Γ (.pointer (some ⟨blk A, ofs A + j * size, none⟩)) := by
  subst hm; exact Rd.indexRos E ho hx hy ht hi hj
end Go.Sep
