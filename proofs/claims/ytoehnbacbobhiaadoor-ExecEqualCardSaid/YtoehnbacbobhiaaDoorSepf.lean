/- Regions that draw their order, in the logic of slots and chunks. Own text. -/
import Derived.Test.YtoehnbacbobhiaaDoorSepi
namespace Go.Sep
open Go.RowKit Go.Flow Go.Mem

abbrev News := List (Nat × List Chunk)
def flat (N : News) : List Chunk := N.flatMap (·.2)
structure Made1 (b : World) (n : Nat × List Chunk) (p : Nat × World × World) : Prop where
  id : p.1 = n.1
  base : Ext b p.2.1
  post : Post [] n.2 p.2.1 p.2.2
def Made (b : World) : News → List (Nat × World × World) → Prop
  | [], [] => True
  | n :: N, p :: h => Made1 b n p ∧ Made b N h ∧ N.all (fun m => !Nat.beq m.1 n.1) = true
  | _, _ => False
def touch (Γ : List Chunk) (g : Nat) : Prop := g ∈ owns Γ ∨ g ∈ reads Γ
theorem Made1.within {b : World} {n : Nat × List Chunk} {p : Nat × World × World} (h : Made1 b n p) {g : Nat} (hg : touch n.2 g) : p.2.1.heap.size ≤ g ∧ g < p.2.2.heap.size := by
  rcases hg with hg | hg
  · exact ⟨Nat.le_of_not_lt fun hl => by have := h.post.own g hg hl; simp [owns] at this, h.post.sat.lt_own hg⟩
  · exact ⟨Nat.le_of_not_lt fun hl => by have := h.post.rd g hg hl; simp [owns, reads] at this, h.post.sat.lt_read hg⟩
theorem Made.find {b : World} : ∀ {N : News} {h : List (Nat × World × World)}, Made b N h → ∀ g, touch (flat N) g → ∃ q ∈ h, (∃ m ∈ N, m.1 = q.1) ∧ Ext b q.2.1 ∧ q.2.1.heap.size ≤ g ∧ g < q.2.2.heap.size
  | [], _, _, g, hg => by simp [touch, flat, owns, reads] at hg
  | n :: N, [], hm, g, hg => hm.elim
  | n :: N, p :: h, ⟨h1, h2, _⟩, g, hg => by
    have : touch n.2 g ∨ touch (flat N) g := by
      simp only [touch, flat, List.flatMap_cons, owns_append, reads_append, List.mem_append] at hg ⊢
      rcases hg with (h | h) | (h | h)
      · exact .inl (.inl h)
      · exact .inr (.inl h)
      · exact .inl (.inr h)
      · exact .inr (.inr h)
    rcases this with hg | hg
    · exact ⟨p, by simp, ⟨n, by simp, h1.id.symm⟩, h1.base, h1.within hg⟩
    · obtain ⟨q, hq, ⟨m, hm, hmq⟩, h3⟩ := h2.find g hg
      exact ⟨q, by simp [hq], ⟨m, by simp [hm], hmq⟩, h3⟩
theorem Made.flush {b w : World} {Γ : List Chunk} (hs : sat Γ b) (hb : Ext b w) : ∀ {N : News} {h : List (Nat × World × World)}, Made b N h → (∀ p ∈ h, Ext p.2.2 w) → InTurn h → sat (flat N ++ Γ) w
  | [], _, _, _, _ => by simpa [flat] using hs.ext hb
  | n :: N, [], hm, _, _ => hm.elim
  | n :: N, p :: h, ⟨h1, h2, h3⟩, hw, ht => by
    have ih := h2.flush (w := w) hs hb (fun q hq => hw q (by simp [hq])) (fun q hq r hr => ht q (by simp [hq]) r (by simp [hr]))
    have hn : sat n.2 w := h1.post.sat.ext (hw p (by simp))
    have key : ∀ g, touch n.2 g → ¬ touch (flat N ++ Γ) g := by
      intro g hg hg'
      obtain ⟨a1, a2⟩ := h1.within hg
      have : touch (flat N) g ∨ touch Γ g := by
        simp only [touch, owns_append, reads_append, List.mem_append] at hg' ⊢
        rcases hg' with (h | h) | (h | h)
        · exact .inl (.inl h)
        · exact .inr (.inl h)
        · exact .inl (.inr h)
        · exact .inr (.inr h)
      rcases this with hx | hx
      · obtain ⟨q, hq, ⟨m, hm, hmq⟩, _, b1, b2⟩ := h2.find g hx
        have hne : p.1 ≠ q.1 := by
          have := List.all_eq_true.1 h3 m hm
          simp only [Bool.not_eq_true'] at this
          intro e
          rw [hmq, ← e, h1.id, Nat.beq_refl] at this
          cases this
        rcases ht p (by simp) q (by simp [hq]) hne with e | e
        · have := e.size; omega
        · have := e.size; omega
      · have hlt : g < b.heap.size := by
          rcases hx with hx | hx
          · exact hs.lt_own hx
          · exact hs.lt_read hx
        have := h1.base.size
        omega
    show sat (n.2 ++ flat N ++ Γ) w
    rw [List.append_assoc]
    refine ⟨fun c hc => ?_, ?_, ?_⟩
    · rcases List.mem_append.1 hc with h | h
      · exact hn.each c h
      · exact ih.each c h
    · rw [owns_append]
      exact List.nodup_append.2 ⟨hn.nodup, ih.nodup, fun g hg g' hg' e => key g (.inl hg) (.inl (e ▸ hg'))⟩
    · intro g hg hg'
      rw [reads_append] at hg
      rw [owns_append] at hg'
      rcases List.mem_append.1 hg with h | h <;> rcases List.mem_append.1 hg' with h' | h'
      · exact hn.apart g h h'
      · exact key g (.inr h) (.inl h')
      · exact key g (.inl h') (.inr h)
      · exact ih.apart g h h'
theorem Made.post {Γ0 Γ : List Chunk} {w0 b w : World} (hp : Post Γ0 Γ w0 b) (hb : Ext b w) {N : News} {h : List (Nat × World × World)} (hm : Made b N h) (hw : ∀ p ∈ h, Ext p.2.2 w) (ht : InTurn h) : Post Γ0 (flat N ++ Γ) w0 w := by
  have hs := hm.flush hp.sat hb hw ht
  refine ⟨hs, hp.keeps.then_ext hb, fun g hg hl => ?_, fun g hg hl => ?_⟩
  · rw [owns_append] at hg
    rcases List.mem_append.1 hg with h | h
    · obtain ⟨q, _, _, h1, h2, _⟩ := hm.find g (.inl h)
      have := h1.size; have := hp.keeps.size; omega
    · exact hp.own g h hl
  · rw [reads_append] at hg
    rcases List.mem_append.1 hg with h | h
    · obtain ⟨q, _, _, h1, h2, _⟩ := hm.find g (.inr h)
      have := h1.size; have := hp.keeps.size; omega
    · exact hp.rd g h hl

/-- The chunks that those waited for have made. -/
def avail (N : News) (deps : List Nat) : List Chunk := N.flatMap fun n => bif deps.any (Nat.beq n.1) then n.2 else []
theorem Made.avail {b w : World} {deps : List Nat} : ∀ {N : News} {h : List (Nat × World × World)}, Made b N h → (∀ p ∈ h, p.1 ∈ deps → Ext p.2.2 w) → oks (avail N deps) w
  | [], _, _, _, c, hc => by simp [Sep.avail] at hc
  | n :: N, [], hm, _, _, _ => hm.elim
  | n :: N, p :: h, ⟨h1, h2, _⟩, hw, c, hc => by
    unfold Sep.avail at hc
    rw [List.flatMap_cons] at hc
    rcases List.mem_append.1 hc with h | h
    · cases hd : deps.any (Nat.beq n.1) with
      | false => rw [hd] at h; simp at h
      | true =>
        rw [hd] at h
        obtain ⟨k, hk, hk'⟩ := List.any_eq_true.1 hd
        have e := Nat.eq_of_beq_eq_true hk'
        exact (h1.post.sat.ext (hw p (by simp) (by rw [h1.id, e]; exact hk))).each c h
    · exact h2.avail (fun q hq => hw q (by simp [hq])) c h
def FlowS (P : Program) (l : List Oper) (Θ : List Chunk) (Q : Act → World → Prop) (ms : List Meta) (C : Cx) (ρ : Slots) (Γ : List Chunk) (N : News) : Prop :=
  ∀ a b h, Has C.n C.ds ρ a → Post C.Γ0 Γ C.w0 b → Made b N h → Flow P l.toArray (oks Θ) Q (Go.Flow.pick l ms) a b h
theorem oks_ext {Θ : List Chunk} {w w' : World} (h : oks Θ w) (k : Ext w w') : oks Θ w' := fun c hc => c.loc w w' (fun g hg => k.block g (c.lt w (h c hc) g hg)) (h c hc)
theorem oks_append {Θ Γ : List Chunk} {w : World} (h : oks Θ w) (k : oks Γ w) : oks (Θ ++ Γ) w := fun c hc => (List.mem_append.1 hc).elim (h c) (k c)
section
variable {P : Program} {l : List Oper} {Θ Γ Γ' : List Chunk} {Q : Act → World → Prop} {ms : List Meta} {C : Cx} {ρ : Slots} {N : News} {i d : Nat} {deps : List Nat} {o : Oper} {v : Value}
theorem To.flow {id : Nat} {R : Exit → Act → World → Prop} (Θ : List Chunk) (ms : List Meta) (hm : P.follows .mixedOrders = true) (hB : flowB l ms = true) (hΘ : ∀ w, oks Γ w → oks Θ w) (h : FlowS P l Θ (R .normal) ms C ρ Γ []) : To C ρ Γ ((Code.region id l.toArray true).wp P R) :=
  fun a w ha hp => wp_region_flow (oks Θ) ms hm hB (fun _ _ => oks_ext) (hΘ w hp.sat.each) (h a w [] ha hp trivial)
theorem FlowS.fin (h : To C ρ (flat N ++ Γ) Q) : FlowS P l Θ Q [] C ρ Γ N := fun a _ _ ha hp hm => Flow.nil fun w hb _ hw ht => h a w ha (hm.post hp hb hw ht)
theorem pick_cons {m : Meta} (ho : l[m.i]? = some o) : Go.Flow.pick l (m :: ms) = (o, m) :: Go.Flow.pick l ms := by
  simp [Go.Flow.pick, ho]
theorem FlowS.free (ho : l[i]? = some o) (hg : grd l.toArray ρ o = some true) (hd : o.dst = some d) (hn : Nat.blt d C.n = true) (h : Rd P o ρ Θ v) (k : FlowS P l Θ Q ms C ((d, v) :: ρ) Γ N) : FlowS P l Θ Q (⟨i, deps, 0⟩ :: ms) C ρ Γ N := fun a b h' ha hp hm => by
  rw [pick_cons (m := ⟨i, deps, 0⟩) ho]
  refine Flow.free_want rfl (grd_wanted hg ha.sees) v (fun w hS => ?_) ?_
  · rw [h a w ha.sees hS]; exact ⟨rfl, rfl⟩
  · rw [hd]; exact k _ b h' (ha.put hn) hp hm
theorem FlowS.skip {kd : Nat} (hk : kd = 0 ∨ kd = 1 ∨ kd = 3) (ho : l[i]? = some o) (hg : grd l.toArray ρ o = some false) (hd : o.dst = some d) (hn : Nat.blt d C.n = true) (k : FlowS P l Θ Q ms C ((d, undef) :: ρ) Γ N) : FlowS P l Θ Q (⟨i, deps, kd⟩ :: ms) C ρ Γ N := fun a b h' ha hp hm => by
  rw [pick_cons (m := ⟨i, deps, kd⟩) ho]
  have hk' := k _ b h' (ha.put (v := undef) hn) hp hm
  rw [← hd] at hk'
  rcases hk with rfl | rfl | rfl
  · exact Flow.free_skip rfl (grd_wanted hg ha.sees) hk'
  · exact Flow.read_skip rfl (grd_wanted hg ha.sees) hk'
  · exact Flow.call_skip rfl (grd_wanted hg ha.sees) hk'
theorem FlowS.rd (ho : l[i]? = some o) (hg : grd l.toArray ρ o = some true) (hd : o.dst = some d) (hn : Nat.blt d C.n = true) (h : Rd P o ρ (avail N deps ++ Γ) v) (k : FlowS P l Θ Q ms C ((d, v) :: ρ) Γ N) : FlowS P l Θ Q (⟨i, deps, 1⟩ :: ms) C ρ Γ N := fun a b h' ha hp hm => by
  rw [pick_cons (m := ⟨i, deps, 1⟩) ho]
  refine Flow.read_want rfl (grd_wanted hg ha.sees) v (fun w hb _ hw => ?_) ?_
  · rw [h a w ha.sees (oks_append (hm.avail hw) (hp.sat.ext hb).each)]; exact ⟨rfl, rfl⟩
  · rw [hd]; exact k _ b h' (ha.put hn) hp hm
theorem FlowS.mk {R : Value → List Chunk → Prop} (ho : l[i]? = some o) (hg : o.guard = none) (hd : o.dst = some d) (hn : Nat.blt d C.n = true) (hnew : N.all (fun m => !Nat.beq m.1 i) = true) (h : Mk P o ρ (avail N deps ++ Γ) R)
    (k : ∀ v M, R v M → FlowS P l Θ Q ms C ((d, v) :: ρ) Γ ((i, M) :: N)) : FlowS P l Θ Q (⟨i, deps, 2⟩ :: ms) C ρ Γ N := fun a b h' ha hp hm => by
  rw [pick_cons (m := ⟨i, deps, 2⟩) ho]
  refine Flow.make rfl hg (fun w hb _ hw K hK => ?_)
  obtain ⟨v, M, w', hr, hR, hq⟩ := h a w ha.sees (oks_append (hm.avail hw) (hp.sat.ext hb).each)
  rw [hr]
  refine hK v w' (hq.keeps.ext fun _ _ h => by simp [owns] at h) ?_
  rw [hd]
  exact k v M hR _ b _ (ha.put hn) hp ⟨⟨rfl, hb, hq⟩, hm, hnew⟩
theorem FlowS.callQ {f : FuncId} {vs : List Value} {Γ1 : List Chunk} (ho : l[i]? = some o) (hg : grd l.toArray ρ o = some true) (hd : o.dst = some d) (hn : Nat.blt d C.n = true) (he : Ent P o ρ f vs) (hc : Does P f vs Γ1 (fun v' _ => v' = v)) (hq : owns Γ1 = []) (hs : ∀ w, oks (avail N deps ++ Γ) w → oks Γ1 w)
    (k : FlowS P l Θ Q ms C ((d, v) :: ρ) Γ N) : FlowS P l Θ Q (⟨i, deps, 3⟩ :: ms) C ρ Γ N := fun a b h' ha hp hm => by
  rw [pick_cons (m := ⟨i, deps, 3⟩) ho]
  refine Flow.call_want rfl (grd_wanted hg ha.sees) f vs.toArray (fun w => he a w ha.sees) v (fun w hb _ hw => ?_) ?_
  · refine (hc w (sat_of_oks hq (hs w (oks_append (hm.avail hw) (hp.sat.ext hb).each)))).mono ?_
    rintro e w' ⟨v', Γ', rfl, rfl, hpost⟩
    exact ⟨rfl, hpost.keeps.ext fun _ _ h => by rw [hq] at h; simp at h⟩
  · rw [hd]; exact k _ b h' (ha.put hn) hp hm
theorem FlowS.callM {R : Value → List Chunk → Prop} {f : FuncId} {vs : List Value} {Γ1 : List Chunk} (ho : l[i]? = some o) (hg : o.guard = none) (hd : o.dst = some d) (hn : Nat.blt d C.n = true) (hnew : N.all (fun m => !Nat.beq m.1 i) = true) (he : Ent P o ρ f vs) (hc : Does P f vs Γ1 R) (hq : owns Γ1 = []) (hs : ∀ w, oks (avail N deps ++ Γ) w → oks Γ1 w)
    (k : ∀ v Γ', R v Γ' → reads Γ' = [] ∧ FlowS P l Θ Q ms C ((d, v) :: ρ) Γ ((i, Γ') :: N)) : FlowS P l Θ Q (⟨i, deps, 4⟩ :: ms) C ρ Γ N := fun a b h' ha hp hm => by
  rw [pick_cons (m := ⟨i, deps, 4⟩) ho]
  refine Flow.callMake rfl hg f vs.toArray (fun w => he a w ha.sees) (fun w hb _ hw => ?_)
  refine (hc w (sat_of_oks hq (hs w (oks_append (hm.avail hw) (hp.sat.ext hb).each)))).mono ?_
  rintro e w' ⟨v', Γ', rfl, hR, hpost⟩
  obtain ⟨hr, hk⟩ := k v' Γ' hR
  have hpq := quiet_post hq hpost hr
  refine ⟨v', rfl, hpq.keeps.ext fun _ _ h => by simp [owns] at h, ?_⟩
  rw [hd]
  exact hk _ b _ (ha.put hn) hp ⟨⟨rfl, hb, hpq⟩, hm, hnew⟩
theorem FlowS.up (ho : l[i]? = some o) (hg : o.guard = none) (hd : o.dst = none) (h : Up P o ρ (flat N ++ Γ) Γ') (hΘ : ∀ w, oks Γ' w → oks Θ w) (k : FlowS P l Θ Q ms C ρ Γ' []) : FlowS P l Θ Q (⟨i, deps, 5⟩ :: ms) C ρ Γ N := fun a b h' ha hp hm => by
  rw [pick_cons (m := ⟨i, deps, 5⟩) ho]
  refine Flow.turn rfl hg (fun w hb _ hw ht K hK => ?_)
  have hq := hm.post hp hb hw ht
  obtain ⟨w', hr, hpost⟩ := h a w ha.sees hq.sat
  rw [hr]
  refine hK undef w' (hΘ w' hpost.sat.each) ?_
  rw [hd]
  exact k a w' [] ha (hq.trans hpost) trivial
theorem FlowS.ge {R : Value → List Chunk → Prop} (ho : l[i]? = some o) (hg : o.guard = none) (hd : o.dst = some d) (hn : Nat.blt d C.n = true) (h : Ge P o ρ (flat N ++ Γ) R) (k : ∀ v Γ', R v Γ' → (∀ w, oks Γ' w → oks Θ w) ∧ FlowS P l Θ Q ms C ((d, v) :: ρ) Γ' []) : FlowS P l Θ Q (⟨i, deps, 5⟩ :: ms) C ρ Γ N := fun a b h' ha hp hm => by
  rw [pick_cons (m := ⟨i, deps, 5⟩) ho]
  refine Flow.turn rfl hg (fun w hb _ hw ht K hK => ?_)
  have hq := hm.post hp hb hw ht
  obtain ⟨v, Γ', w', hr, hR, hpost⟩ := h a w ha.sees hq.sat
  obtain ⟨hΘ, hk⟩ := k v Γ' hR
  rw [hr]
  refine hK v w' (hΘ w' hpost.sat.each) ?_
  rw [hd]
  exact hk _ w' [] (ha.put hn) (hq.trans hpost) trivial
theorem FlowS.call {R : Value → List Chunk → Prop} {f : FuncId} {vs : List Value} {Γ1 Δ : List Chunk} (is : List Nat) (ho : l[i]? = some o) (hg : o.guard = none) (hd : o.dst = some d) (hn : Nat.blt d C.n = true) (he : Ent P o ρ f vs) (hpl : pull (flat N ++ Γ) is = some (Γ1, Δ)) (hc : Does P f vs Γ1 R)
    (k : ∀ v Γ', R v Γ' → (∀ w, oks (Γ' ++ Δ) w → oks Θ w) ∧ FlowS P l Θ Q ms C ((d, v) :: ρ) (Γ' ++ Δ) []) : FlowS P l Θ Q (⟨i, deps, 5⟩ :: ms) C ρ Γ N := fun a b h' ha hp hm => by
  rw [pick_cons (m := ⟨i, deps, 5⟩) ho]
  refine Flow.turnCall rfl hg f vs.toArray (fun w => he a w ha.sees) (fun w hb _ hw ht => ?_)
  have hq := hm.post hp hb hw ht
  refine (hc w ((hq.sat.perm (pull_perm hpl)).left)).mono ?_
  rintro e w' ⟨v, Γ', rfl, hR, hpost⟩
  obtain ⟨hΘ, hk⟩ := k v Γ' hR
  have hpost' := hq.trans (Post.at_ hpl hq.sat hpost)
  refine ⟨v, rfl, hΘ w' hpost'.sat.each, ?_⟩
  rw [hd]
  exact hk _ w' [] (ha.put hn) hpost' trivial
end
end Go.Sep
namespace Go.Sep
open Go.RowKit Go.Flow Go.Mem
section
variable {P : Program} {l : List Oper} {Θ Γ Γ' : List Chunk} {Q : Act → World → Prop} {ms : List Meta} {C : Cx} {ρ : Slots} {N : News} {i d : Nat} {deps : List Nat} {o : Oper} {v : Value}
theorem FlowS.mkG {R : Value → List Chunk → Prop} (ho : l[i]? = some o) (hg : grd l.toArray ρ o = some true) (hd : o.dst = some d) (hn : Nat.blt d C.n = true) (hnew : N.all (fun m => !Nat.beq m.1 i) = true) (h : Mk P o ρ (avail N deps ++ Γ) R)
    (k : ∀ v M, R v M → FlowS P l Θ Q ms C ((d, v) :: ρ) Γ ((i, M) :: N)) : FlowS P l Θ Q (⟨i, deps, 2⟩ :: ms) C ρ Γ N := fun a b h' ha hp hm => by
  rw [pick_cons (m := ⟨i, deps, 2⟩) ho]
  simp only [Flow]
  intro w hb _ hw
  unfold ValTo
  rw [if_pos (grd_wanted hg ha.sees)]
  obtain ⟨v, M, w', hr, hR, hq⟩ := h a w ha.sees (oks_append (hm.avail hw) (hp.sat.ext hb).each)
  rw [hr]
  refine ⟨hq.keeps.ext fun _ _ h => by simp [owns] at h, ?_⟩
  rw [hd]
  exact k v M hR _ b _ (ha.put hn) hp ⟨⟨rfl, hb, hq⟩, hm, hnew⟩
theorem FlowS.skipM (ho : l[i]? = some o) (hg : grd l.toArray ρ o = some false) (hd : o.dst = some d) (hn : Nat.blt d C.n = true) (hnew : N.all (fun m => !Nat.beq m.1 i) = true) (k : FlowS P l Θ Q ms C ((d, undef) :: ρ) Γ ((i, []) :: N)) : FlowS P l Θ Q (⟨i, deps, 2⟩ :: ms) C ρ Γ N := fun a b h' ha hp hm => by
  rw [pick_cons (m := ⟨i, deps, 2⟩) ho]
  simp only [Flow]
  intro w hb _ _
  unfold ValTo
  rw [if_neg (by rw [grd_wanted hg ha.sees]; simp)]
  refine ⟨Ext.rfl_ _, ?_⟩
  rw [hd]
  exact k _ b _ (ha.put hn) hp ⟨⟨rfl, hb, Post.refl (sat.nil _)⟩, hm, hnew⟩
end
end Go.Sep
