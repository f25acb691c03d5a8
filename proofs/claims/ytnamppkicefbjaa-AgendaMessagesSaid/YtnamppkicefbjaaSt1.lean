/- The walk of AgendaSteps. Own text (walks printed by sx.py). -/
import Derived.Test.YtnamppkicefbjaaO1
import Derived.Test.YtnamppkicefbjaaR3
namespace Go.Proofs.Ytnamppkicefbjaa
open Go.RowKit Go.Flow Go.Mem Go.Sep
theorem filter_split {α : Type} (p q : α → Bool) (hpq : ∀ x, p x = true → q x = true) : ∀ L : List α, L.Pairwise (fun x y => p y = true → q x = true → p x = true) → L.filter q = L.filter p ++ (L.filter fun x => !p x).filter q
  | [], _ => rfl
  | x :: L, h => by
    obtain ⟨h1, h2⟩ := List.pairwise_cons.1 h
    have ih := filter_split p q hpq L h2
    cases hq : q x with
    | false =>
      have hp : p x = false := by cases hp : p x with
        | false => rfl
        | true => rw [hpq x hp] at hq; cases hq
      simp [hq, hp, ih]
    | true =>
      cases hp : p x with
      | true => simp [hq, hp, ih]
      | false =>
        have hno : ∀ y ∈ L, p y = false := fun y hy => by
          cases hpy : p y with
          | false => rfl
          | true => have := h1 y hy hpy hq; rw [hp] at this; cases this
        have e1 : L.filter p = [] := List.filter_eq_nil_iff.2 fun y hy => by rw [hno y hy]; simp
        have e2 : (L.filter fun x => !p x) = L := List.filter_eq_self.2 fun y hy => by rw [hno y hy]; rfl
        simp [hq, hp, e1, e2]
theorem take_split {L : List En} (hs : SortedE L) (c t t' : Int) (htt : t ≤ t') : L.filter (inTake c t') = L.filter (inTake c t) ++ (L.filter fun x => !inTake c t x).filter (inTake c t') := by
  refine filter_split _ _ (fun x hx => ?_) L (hs.imp fun {x y} hxy hy hx => ?_)
  · simp only [inTake, decide_eq_true_eq] at hx ⊢; omega
  · simp only [inTake, decide_eq_true_eq] at hx hy ⊢
    rcases le_head hxy with h | h <;> omega
theorem rest_split {L : List En} (c t t' : Int) (htt : t ≤ t') : (L.filter fun x => !inTake c t x).filter (fun x => !inTake c t' x) = L.filter fun x => !inTake c t' x := by
  rw [List.filter_filter]
  refine List.filter_congr fun x _ => ?_
  cases h : inTake c t' x with
  | true => simp
  | false =>
    have : inTake c t x = false := by
      simp only [inTake, decide_eq_false_iff_not] at h ⊢; omega
    simp [this]
theorem none_before {L : List En} (hr : ∀ e ∈ L, 0 ≤ e.t) (c : Int) : L.filter (inTake c (-1)) = [] ∧ (L.filter fun x => !inTake c (-1) x) = L := by
  have : ∀ e ∈ L, inTake c (-1) e = false := fun e he => by have := hr e he; simp only [inTake, decide_eq_false_iff_not]; omega
  exact ⟨List.filter_eq_nil_iff.2 fun y hy => by rw [this y hy]; simp, List.filter_eq_self.2 fun y hy => by rw [this y hy]; rfl⟩
theorem inTake_bare (c t : Int) (e : En) : inTake c t e.bare = inTake c t e := rfl
/-- What both agendas hold behind component c. -/
structure Both (L Lb : List En) (c : Nat) : Prop where
  sorted : SortedE L
  eq : L.map En.bare = Lb.map En.bare
  rng : ∀ e ∈ L, 0 ≤ e.t ∧ e.t ≤ 11 ∧ (c : Int) ≤ e.c ∧ e.c ≤ 2
  args : ∀ e ∈ L, e.args.length ≤ 4
  len : L.length ≤ 40
theorem Both.lenB {L Lb : List En} {c : Nat} (h : Both L Lb c) : Lb.length ≤ 40 := by have := congrArg List.length h.eq; simp at this; have := h.len; omega
theorem Both.argsB {L Lb : List En} {c : Nat} (h : Both L Lb c) : ∀ e ∈ Lb, e.args.length ≤ 4 := fun e he => by
  have : e.bare ∈ L.map En.bare := by rw [h.eq]; exact List.mem_map.2 ⟨e, he, rfl⟩
  obtain ⟨x, hx, hb⟩ := List.mem_map.1 this
  rw [← (bare_fields hb).2.2.2.2.2.2.2]; exact h.args x hx
theorem Both.start {L Lb l : List En} {k : Nat} (h : Filled L l k) (hk : k ≤ 40) (hs : SortedE L) (he : Lb.map En.bare = L.map En.bare) : Both L Lb 0 := ⟨hs, he.symm, fun e h1 => by have := h.rng e h1; simp; omega, h.argsL, by have := h.lenL; omega⟩
theorem filter_bare {L Lb : List En} (h : L.map En.bare = Lb.map En.bare) (p : En → Bool) (hp : ∀ e : En, p e.bare = p e) : (L.filter p).map En.bare = (Lb.filter p).map En.bare := by
  rw [bare_filter p hp, bare_filter p hp, h]
theorem Both.next {L Lb : List En} {c : Nat} (h : Both L Lb c) : Both (L.filter fun x => !inTake c 11 x) (Lb.filter fun x => !inTake c 11 x) (c + 1) := by
  refine ⟨h.sorted.filter _, filter_bare h.eq _ (fun _ => rfl), fun e he => ?_, fun e he => h.args e (List.mem_filter.1 he).1, Nat.le_trans (List.length_filter_le _ _) h.len⟩
  obtain ⟨h1, h2⟩ := List.mem_filter.1 he
  have h3 := h.rng e h1
  simp [inTake] at h2
  have : e.c ≠ c := by omega
  omega
theorem Both.done {L Lb : List En} (h : Both L Lb 3) : L = [] ∧ Lb = [] := by
  have h1 : L = [] := List.eq_nil_iff_forall_not_mem.2 fun e he => by have := h.rng e he; omega
  refine ⟨h1, ?_⟩
  have := h.eq
  rw [h1] at this
  simpa using this.symm
theorem argsO_both {Γ : List Chunk} {M N : List En} (i j : Nat) (hi : Γ[i]? = some (argsO M)) (hj : Γ[j]? = some (argsO N)) : (∀ w, oks Γ w → (argsO (M ++ N)).holds w) ∧ ∀ g ∈ (argsO (M ++ N)).reads, g ∈ reads Γ := by
  constructor
  · intro w hw e he
    rcases List.mem_append.1 he with h | h
    · exact hw _ (List.mem_of_getElem? hi) e h
    · exact hw _ (List.mem_of_getElem? hj) e h
  · intro g hg
    obtain ⟨e, he, hg2⟩ := List.mem_flatMap.1 hg
    rcases List.mem_append.1 he with h | h
    · exact reads_at i hi (List.mem_flatMap.2 ⟨e, h, hg2⟩)
    · exact reads_at j hj (List.mem_flatMap.2 ⟨e, h, hg2⟩)
theorem get_bare {M N : List En} (h : M.map En.bare = N.map En.bare) {i : Nat} {x y : En} (hx : M[i]? = some x) (hy : N[i]? = some y) : x.bare = y.bare := by
  have h1 : (M.map En.bare)[i]? = (N.map En.bare)[i]? := by rw [h]
  simpa [hx, hy] using h1
theorem step_list {L R M : List En} {c : Int} {t : Nat} (hs : SortedE L) (hN : R.map En.bare = (L.filter (inTake c ((t : Int) - 1))).map En.bare) (hM : M.map En.bare = ((L.filter fun x => !inTake c ((t : Int) - 1) x).filter (inTake c t)).map En.bare) : (R ++ M).map En.bare = (L.filter (inTake c (((t + 1 : Nat) : Int) - 1))).map En.bare := by
  rw [show (((t + 1 : Nat) : Int) - 1) = (t : Int) by omega, take_split hs c ((t : Int) - 1) t (by omega), List.map_append, List.map_append, hN, hM]
theorem list_len {M L : List En} {p : En → Bool} (h : M.map En.bare = (L.filter p).map En.bare) : M.length ≤ L.length := by
  have := congrArg List.length h
  simp only [List.length_map] at this
  rw [this]; exact List.length_filter_le _ _
theorem list_args {M L : List En} {p : En → Bool} (h : M.map En.bare = (L.filter p).map En.bare) (ha : ∀ e ∈ L, e.args.length ≤ 4) : ∀ e ∈ M, e.args.length ≤ 4 := fun e he => by
  have : e.bare ∈ (L.filter p).map En.bare := by rw [← h]; exact List.mem_map.2 ⟨e, he, rfl⟩
  obtain ⟨x, hx, hb⟩ := List.mem_map.1 this
  rw [← (bare_fields hb).2.2.2.2.2.2.2]; exact ha x (List.mem_filter.1 hx).1
set_option maxHeartbeats 2000000 in
set_option maxRecDepth 100000 in
theorem steps_fn (A : Option Addr) (cap : Nat) (ops : List Opr) (hok : ∀ o ∈ ops, o.ok) (hlo : ops.length ≤ 9223372036854775807) :
    Does Try.prog 5 [.slice A ops.length cap] [ros Opr.cells A ops, argsS (ops.map Opr.ar)] (fun v _ => v = .bool true) := by
  refine Does.enter Try.func5 rfl Try.ntmps5 rfl (fun w0 => ?_)
  refine To.seq ?_
  refine To.reg ?_
  refine To.rd rfl rfl rfl (Rd.assign rfl rfl) ?_
  refine To.nil ?_
  refine To.thenN ?_
  refine To.seq ?_
  refine To.seq ?_
  refine To.reg ?_
  refine To.callV rfl rfl rfl (Ent.fn rfl rfl ca11) (awake_fn) rfl (oks_nil _) ?_
  refine To.rd rfl rfl rfl (Rd.not rfl rfl) ?_
  refine To.nil ?_
  refine To.thenN ?_
  refine To.condF rfl ?_
  refine To.skip ?_
  refine To.thenN ?_
  refine To.seq ?_
  refine To.reg ?_
  refine To.rd rfl rfl rfl (Rd.move rfl rfl) ?_
  refine To.call [0, 0] rfl rfl rfl (Ent.fn rfl rfl ca12) rfl (fill_fn A cap ops hok hlo) ?_
  rintro _ _ ⟨a, v0, L0, l, A5, q5, rfl, rfl, hF⟩
  refine To.as [agc a v0 L0, rows En.rcells 30 8 A5 q5 l, argsS (l.map En.ar)] rfl ?_
  refine To.rd rfl rfl rfl (Rd.move rfl rfl) ?_
  refine To.rd rfl rfl rfl (Rd.extract rfl rfl rfl) ?_
  refine To.rd rfl rfl rfl (Rd.extract rfl rfl rfl) ?_
  refine To.rd rfl rfl rfl (Rd.assign rfl rfl) ?_
  refine To.rd rfl rfl rfl (Rd.assign rfl rfl) ?_
  refine To.nil ?_
  refine To.thenN ?_
  refine To.seq ?_
  refine To.reg ?_
  refine To.rd rfl rfl rfl (Rd.move rfl rfl) ?_
  refine To.call [0] rfl rfl rfl (Ent.fn rfl rfl ca19) rfl (copy_fn a v0 L0 (by have := hF.lenL; omega) (fun e he => by have := hF.argsL e he; omega)) ?_
  rintro _ _ ⟨b, vb0, Lb0, rfl, rfl, hcp⟩
  refine To.as [agc b vb0 Lb0, agc a v0 L0, rows En.rcells 30 8 A5 q5 l, argsS (l.map En.ar)] rfl ?_
  refine To.rd rfl rfl rfl (Rd.assign rfl rfl) ?_
  refine To.nil ?_
  refine To.thenN ?_
  refine To.seq ?_
  refine To.seq ?_
  refine To.reg ?_
  refine To.rd rfl rfl rfl (Rd.move rfl rfl) ?_
  refine To.nil ?_
  refine To.thenN ?_
  refine To.block ?_
  refine To.know (p := SortedE L0) (fun w hs => (hs.each (agc a v0 L0) (by simp) : Ag w 0 a v0 L0).sorted) (fun hs0 => ?_)
  refine To.sub [(3, .pointer (some ⟨a, 0, none⟩)), (5, .pointer (some ⟨b, 0, none⟩)), (20, .int .i64 ((0 : Nat) : Int))] ⟨rfl, rfl, rfl, trivial⟩ ?_
  refine To.only [1, 0] rfl ?_
  refine To.loop (fun m ρ Γ => ∃ (c : Nat) (v : Value) (L : List En) (vb : Value) (Lb : List En), ρ = [(3, .pointer (some ⟨a, 0, none⟩)), (5, .pointer (some ⟨b, 0, none⟩)), (20, .int .i64 ((c : Nat) : Int))] ∧ Γ = [agc a v L, agc b vb Lb] ∧ m = 3 - c ∧ (c ≤ 3) ∧ (Both L Lb c)) (3 - 0) ⟨0, v0, L0, vb0, Lb0, rfl, rfl, rfl, (by omega), (Both.start hF (by omega) hs0 hcp)⟩ ?_
  rintro m _ _ ⟨c, v, L, vb, Lb, rfl, rfl, rfl, hc, hB⟩
  refine To.seq ?_
  refine To.reg ?_
  refine To.rd rfl rfl rfl (Rd.lss rfl rfl rfl) ?_
  refine To.nil ?_
  refine To.thenN ?_
  refine To.seq ?_
  refine To.condP rfl (fun c21 => ?_) (fun c21 => ?_)
  ·
    refine To.skip ?_
    refine To.thenN ?_
    refine To.seq ?_
    refine To.block ?_
    refine To.seq ?_
    refine To.reg ?_
    refine To.rd rfl rfl rfl (Rd.move rfl rfl) ?_
    refine To.rd rfl rfl rfl (Rd.assign rfl rfl) ?_
    refine To.nil ?_
    refine To.thenN ?_
    refine To.seq ?_
    refine To.reg ?_
    refine To.rd rfl rfl rfl (Rd.assign rfl rfl) ?_
    refine To.nil ?_
    refine To.thenN ?_
    refine To.seq ?_
    refine To.seq ?_
    refine To.reg ?_
    refine To.rd rfl rfl rfl (Rd.move rfl rfl) ?_
    refine To.nil ?_
    refine To.thenN ?_
    refine To.block ?_
    refine To.nilRow En.icells 35 7 ?_
    refine To.free (c := argsO ([] : List En)) rfl rfl (fun w e he => by simp at he) ?_
    have hnb := none_before (fun e he => (hB.rng e he).1) ((c : Nat) : Int)
    refine To.sub [(3, .pointer (some ⟨a, 0, none⟩)), (5, .pointer (some ⟨b, 0, none⟩)), (20, .int .i64 ((c : Nat) : Int)), (6, .int .i64 ((c : Nat) : Int)), (7, .slice none ([] : List En).length 0), (23, .int .i64 ((0 : Nat) : Int))] ⟨rfl, rfl, rfl, rfl, rfl, rfl, trivial⟩ ?_
    refine To.only [2, 2, 1, 0] rfl ?_
    refine To.as [agc a v (L.filter fun x => !inTake ((c : Nat) : Int) (((0 : Nat) : Int) - 1) x), agc b vb Lb, rows En.icells 35 7 none 0 ([] : List En), argsO ([] : List En)] (by rw [show (((0 : Nat) : Int) - 1) = -1 by rfl, hnb.2]) ?_
    refine To.loop (fun m ρ Γ => ∃ (t : Nat) (R : List En) (v2 : Value) (A7 : Option Addr) (q7 : Nat), ρ = [(3, .pointer (some ⟨a, 0, none⟩)), (5, .pointer (some ⟨b, 0, none⟩)), (20, .int .i64 ((c : Nat) : Int)), (6, .int .i64 ((c : Nat) : Int)), (7, .slice A7 R.length q7), (23, .int .i64 ((t : Nat) : Int))] ∧ Γ = [agc a v2 (L.filter fun x => !inTake ((c : Nat) : Int) (((t : Nat) : Int) - 1) x), agc b vb Lb, rows En.icells 35 7 A7 q7 R, argsO R] ∧ m = 12 - t ∧ (t ≤ 12) ∧ (R.map En.bare = (L.filter (inTake ((c : Nat) : Int) (((t : Nat) : Int) - 1))).map En.bare)) (12 - 0) ⟨0, ([] : List En), v, none, 0, rfl, rfl, rfl, (by omega), (by rw [show (((0 : Nat) : Int) - 1) = -1 by rfl, hnb.1])⟩ ?_
    rintro m _ _ ⟨t, R, v2, A7, q7, rfl, rfl, rfl, ht, hN⟩
    have hRl := list_len hN
    have hBl := hB.len
    refine To.seq ?_
    refine To.reg ?_
    refine To.rd rfl rfl rfl (Rd.lss rfl rfl rfl) ?_
    refine To.nil ?_
    refine To.thenN ?_
    refine To.seq ?_
    refine To.condP rfl (fun c24 => ?_) (fun c24 => ?_)
    ·
      refine To.skip ?_
      refine To.thenN ?_
      refine To.seq ?_
      refine To.block ?_
      refine To.seq ?_
      refine To.reg ?_
      refine To.rd rfl rfl rfl (Rd.move rfl rfl) ?_
      refine To.rd rfl rfl rfl (Rd.assign rfl rfl) ?_
      refine To.nil ?_
      refine To.thenN ?_
      refine To.reg ?_
      refine To.rd rfl rfl rfl (Rd.move rfl rfl) ?_
      refine To.rd rfl rfl rfl (Rd.move rfl rfl) ?_
      refine To.rd rfl rfl rfl (Rd.move rfl rfl) ?_
      refine To.rd rfl rfl rfl (Rd.move rfl rfl) ?_
      refine To.call [0] rfl rfl rfl (Ent.fn rfl rfl ca13) rfl (take_fn a v2 (L.filter fun x => !inTake ((c : Nat) : Int) (((t : Nat) : Int) - 1) x) ((t : Nat) : Int) ((c : Nat) : Int) (Nat.le_trans (List.length_filter_le _ _) (by have := hB.len; omega)) (fun e he => by have := hB.args e (List.mem_filter.1 he).1; omega)) ?_
      rintro _ _ ⟨Am, qm, M, v3, rfl, rfl, hM⟩
      refine To.as [agc a v3 ((L.filter fun x => !inTake ((c : Nat) : Int) (((t : Nat) : Int) - 1) x).filter fun x => !inTake ((c : Nat) : Int) ((t : Nat) : Int) x), rows En.icells 35 7 Am qm M, argsO M, agc b vb Lb, rows En.icells 35 7 A7 q7 R, argsO R] rfl ?_
      have hMl : M.length ≤ 40 := Nat.le_trans (list_len hM) (Nat.le_trans (List.length_filter_le _ _) hB.len)
      refine To.ge rfl rfl rfl (Ge.appendL encIt (i := 4) (m := M) rfl s31 rfl rfl rfl (src_row (i := 1) rfl) (by first | omega | (simp only [List.length_append, List.length_cons, List.length_nil]; omega)) (by first | omega | (simp only [List.length_append, List.length_cons, List.length_nil]; omega))) ?_
      rintro _ _ ⟨A31, q31, rfl, rfl⟩
      refine To.as [agc a v3 ((L.filter fun x => !inTake ((c : Nat) : Int) (((t : Nat) : Int) - 1) x).filter fun x => !inTake ((c : Nat) : Int) ((t : Nat) : Int) x), rows En.icells 35 7 Am qm M, argsO M, agc b vb Lb, rows En.icells 35 7 A31 q31 (R ++ M), argsO R] rfl ?_
      refine To.rd rfl rfl rfl (Rd.assign rfl rfl) ?_
      refine To.nil ?_
      refine To.blockN ?_
      refine To.thenN ?_
      refine To.reg ?_
      refine To.rd rfl rfl rfl (Rd.inc rfl rfl rfl (by omega)) ?_
      refine To.rd rfl rfl rfl (Rd.move rfl rfl) ?_
      refine To.nil ?_
      refine To.thenN ?_
      refine To.derive (argsO (R ++ M)) rfl (argsO_both 5 2 rfl rfl).2 (argsO_both 5 2 rfl rfl).1 ?_
      refine To.sub [(3, .pointer (some ⟨a, 0, none⟩)), (5, .pointer (some ⟨b, 0, none⟩)), (20, .int .i64 ((c : Nat) : Int)), (6, .int .i64 ((c : Nat) : Int)), (7, .slice A31 (R ++ M).length q31), (23, .int .i64 (((t + 1) : Nat) : Int))] ⟨rfl, rfl, rfl, rfl, rfl, rfl, trivial⟩ ?_
      refine To.only [1, 3, 3, 0] rfl ?_
      refine To.as [agc a v3 (L.filter fun x => !inTake ((c : Nat) : Int) ((((t + 1) : Nat) : Int) - 1) x), agc b vb Lb, rows En.icells 35 7 A31 q31 (R ++ M), argsO (R ++ M)] (by rw [rest_split _ _ _ (by omega), show (((t + 1 : Nat) : Int) - 1) = (t : Int) by omega]) ?_
      refine To.again (12 - (t + 1)) (by omega) ⟨t + 1, R ++ M, v3, A31, q31, rfl, rfl, rfl, (by omega), (step_list hB.sorted hN hM)⟩
    ·
      obtain rfl : t = 12 := by omega
      refine To.as [agc a v2 (L.filter fun x => !inTake ((c : Nat) : Int) 11 x), agc b vb Lb, rows En.icells 35 7 A7 q7 R, argsO R] (by rw [show (((12 : Nat) : Int) - 1) = 11 by rfl]) ?_
      rw [show (((12 : Nat) : Int) - 1) = 11 by rfl] at hN
      refine To.exit ?_
      refine To.thenX ?_
      refine To.thenX ?_
      refine To.blockX ?_
      refine To.thenN ?_
      refine To.seq ?_
      refine To.reg ?_
      refine To.rd rfl rfl rfl (Rd.move rfl rfl) ?_
      refine To.rd rfl rfl rfl (Rd.move rfl rfl) ?_
      refine To.call [1] rfl rfl rfl (Ent.fn rfl rfl ca13) rfl (take_fn b vb Lb 11 ((c : Nat) : Int) (by have := hB.lenB; omega) (fun e he => by have := hB.argsB e he; omega)) ?_
      rintro _ _ ⟨Ab, qb, Mb, vb2, rfl, rfl, hMb⟩
      refine To.as [agc b vb2 (Lb.filter fun x => !inTake ((c : Nat) : Int) 11 x), rows En.icells 35 7 Ab qb Mb, argsO Mb, agc a v2 (L.filter fun x => !inTake ((c : Nat) : Int) 11 x), rows En.icells 35 7 A7 q7 R, argsO R] rfl ?_
      refine To.rd rfl rfl rfl (Rd.assign rfl rfl) ?_
      refine To.nil ?_
      refine To.thenN ?_
      refine To.seq ?_
      refine To.reg ?_
      refine To.rd rfl rfl rfl (Rd.move rfl rfl) ?_
      refine To.rd rfl rfl rfl (Rd.len rfl rfl Try.underlying31) ?_
      refine To.rd rfl rfl rfl (Rd.move rfl rfl) ?_
      refine To.rd rfl rfl rfl (Rd.len rfl rfl Try.underlying31) ?_
      refine To.rd rfl rfl rfl (Rd.neq rfl rfl rfl) ?_
      refine To.nil ?_
      refine To.thenN ?_
      refine To.condP rfl (fun c40 => ?_) (fun c40 => ?_)
      ·
        exfalso
        have hRM : R.map En.bare = Mb.map En.bare := by rw [hN, hMb]; exact filter_bare hB.eq _ (fun _ => rfl)
        have hlen : R.length = Mb.length := by simpa using congrArg List.length hRM
        omega
      ·
        refine To.seq ?_
        refine To.reg ?_
        refine To.rd rfl rfl rfl (Rd.move rfl rfl) ?_
        refine To.rd rfl rfl rfl (Rd.len rfl rfl Try.underlying31) ?_
        refine To.rd rfl rfl rfl (Rd.move rfl rfl) ?_
        refine To.nil ?_
        refine To.thenN ?_
        refine To.block ?_
        have hRl : R.length ≤ 40 := by have := list_len hN; have := hB.len; omega
        have hRM : R.map En.bare = Mb.map En.bare := by rw [hN, hMb]; exact filter_bare hB.eq _ (fun _ => rfl)
        have hlen : R.length = Mb.length := by simpa using congrArg List.length hRM
        refine To.sub [(3, .pointer (some ⟨a, 0, none⟩)), (5, .pointer (some ⟨b, 0, none⟩)), (20, .int .i64 ((c : Nat) : Int)), (7, .slice A7 R.length q7), (9, .slice Ab Mb.length qb), (42, .int .i64 ((R.length : Nat) : Int)), (43, .int .i64 ((0 : Nat) : Int))] ⟨rfl, rfl, rfl, rfl, rfl, rfl, rfl, trivial⟩ ?_
        refine To.only [3, 0, 2, 2, 0, 0] rfl ?_
        refine To.loop (fun m ρ Γ => ∃ (i : Nat), ρ = [(3, .pointer (some ⟨a, 0, none⟩)), (5, .pointer (some ⟨b, 0, none⟩)), (20, .int .i64 ((c : Nat) : Int)), (7, .slice A7 R.length q7), (9, .slice Ab Mb.length qb), (42, .int .i64 ((R.length : Nat) : Int)), (43, .int .i64 ((i : Nat) : Int))] ∧ Γ = [agc a v2 (L.filter fun x => !inTake ((c : Nat) : Int) 11 x), agc b vb2 (Lb.filter fun x => !inTake ((c : Nat) : Int) 11 x), rows En.icells 35 7 A7 q7 R, argsO R, rows En.icells 35 7 Ab qb Mb, argsO Mb] ∧ m = R.length - i ∧ (i ≤ R.length)) (R.length - 0) ⟨0, rfl, rfl, rfl, (Nat.zero_le _)⟩ ?_
        rintro m _ _ ⟨i, rfl, rfl, rfl, hi⟩
        refine To.seq ?_
        refine To.reg ?_
        refine To.rd rfl rfl rfl (Rd.lss rfl rfl rfl) ?_
        refine To.nil ?_
        refine To.thenN ?_
        refine To.seq ?_
        refine To.condP rfl (fun c44 => ?_) (fun c44 => ?_)
        ·
          obtain ⟨x, hx⟩ : ∃ y, R[i]? = some y := ⟨R[i]'(by omega), List.getElem?_eq_getElem _⟩
          obtain ⟨y, hy⟩ : ∃ y, Mb[i]? = some y := ⟨Mb[i]'(by omega), List.getElem?_eq_getElem _⟩
          have hxy := bare_fields (get_bare hRM hx hy)
          have hax := list_args hN hB.args x (List.mem_of_getElem? hx)
          refine To.skip ?_
          refine To.thenN ?_
          refine To.seq ?_
          refine To.block ?_
          refine To.seq ?_
          refine To.reg ?_
          refine To.rd rfl rfl rfl (Rd.move rfl rfl) ?_
          refine To.rd rfl rfl rfl (Rd.assign rfl rfl) ?_
          refine To.nil ?_
          refine To.thenN ?_
          refine To.seq ?_
          refine To.flow [] [⟨0, [], 0⟩, ⟨1, [], 0⟩, ⟨5, [], 0⟩, ⟨6, [], 0⟩, ⟨2, [], 1⟩, ⟨3, [], 0⟩, ⟨4, [], 1⟩, ⟨7, [], 1⟩, ⟨8, [], 0⟩, ⟨9, [], 1⟩, ⟨10, [], 0⟩, ⟨11, [], 0⟩, ⟨12, [], 0⟩, ⟨13, [], 0⟩, ⟨17, [], 0⟩, ⟨18, [], 0⟩, ⟨14, [], 1⟩, ⟨15, [], 0⟩, ⟨16, [], 1⟩, ⟨19, [], 1⟩, ⟨20, [], 0⟩, ⟨21, [], 1⟩, ⟨22, [], 0⟩, ⟨23, [], 0⟩, ⟨24, [], 0⟩, ⟨25, [], 0⟩, ⟨26, [], 0⟩, ⟨30, [], 0⟩, ⟨31, [], 0⟩, ⟨27, [], 1⟩, ⟨28, [], 0⟩, ⟨29, [], 1⟩, ⟨32, [], 1⟩, ⟨33, [], 0⟩, ⟨34, [], 1⟩, ⟨35, [], 0⟩, ⟨36, [], 0⟩, ⟨37, [], 0⟩, ⟨38, [], 0⟩, ⟨39, [], 0⟩, ⟨43, [], 0⟩, ⟨44, [], 0⟩, ⟨40, [], 1⟩, ⟨41, [], 0⟩, ⟨42, [], 1⟩, ⟨45, [], 1⟩, ⟨46, [], 0⟩, ⟨47, [], 1⟩, ⟨48, [], 0⟩, ⟨49, [], 0⟩, ⟨50, [], 0⟩, ⟨51, [], 0⟩, ⟨52, [], 0⟩, ⟨56, [], 0⟩, ⟨57, [], 0⟩, ⟨53, [], 1⟩, ⟨54, [], 0⟩, ⟨55, [], 1⟩, ⟨58, [], 1⟩, ⟨59, [], 0⟩, ⟨60, [], 1⟩, ⟨61, [], 3⟩, ⟨62, [], 0⟩, ⟨63, [], 0⟩] mixed (by kernel_rfl) (oks_nil _) ?_
          refine FlowS.free rfl rfl rfl rfl (Rd.move rfl rfl) ?_
          refine FlowS.free rfl rfl rfl rfl (Rd.move rfl rfl) ?_
          refine FlowS.free rfl rfl rfl rfl (Rd.move rfl rfl) ?_
          refine FlowS.free rfl rfl rfl rfl (Rd.move rfl rfl) ?_
          refine FlowS.rd rfl rfl rfl rfl (Rd.indexRows (i := 2) (j := i) rfl rfl rfl s31 rfl hx) ?_
          refine FlowS.free rfl rfl rfl rfl (Rd.field rfl rfl fl35_0) ?_
          refine FlowS.rd rfl rfl rfl rfl (Rd.load (i := 2) rfl rfl c33 rfl (gives_at (f := 0) (rows_gives encIt hx) rfl)) ?_
          refine FlowS.rd rfl rfl rfl rfl (Rd.indexRows (i := 4) (j := i) rfl rfl rfl s31 rfl hy) ?_
          refine FlowS.free rfl rfl rfl rfl (Rd.field rfl rfl fl35_0) ?_
          refine FlowS.rd rfl rfl rfl rfl (Rd.load (i := 4) rfl rfl c33 rfl (gives_at (f := 0) (rows_gives encIt hy) rfl)) ?_
          refine FlowS.free rfl rfl rfl rfl (Rd.neq rfl rfl rfl) ?_
          refine FlowS.rdP rfl rfl rfl rfl (Rd.move rfl rfl) (fun g57 => ?_) (fun g57 => ?_)
          ·
            exact absurd hxy.2.1 g57
          ·
            refine FlowS.free rfl rfl rfl rfl (Rd.move rfl rfl) ?_
            refine FlowS.free rfl rfl rfl rfl (Rd.move rfl rfl) ?_
            refine FlowS.free rfl rfl rfl rfl (Rd.move rfl rfl) ?_
            refine FlowS.free rfl rfl rfl rfl (Rd.move rfl rfl) ?_
            refine FlowS.rd rfl rfl rfl rfl (Rd.indexRows (i := 2) (j := i) rfl rfl rfl s31 rfl hx) ?_
            refine FlowS.free rfl rfl rfl rfl (Rd.field rfl rfl fl35_3) ?_
            refine FlowS.rd rfl rfl rfl rfl (Rd.load (i := 2) rfl rfl c3 rfl (gives_at (rows_gives encIt hx) rfl)) ?_
            refine FlowS.rd rfl rfl rfl rfl (Rd.indexRows (i := 4) (j := i) rfl rfl rfl s31 rfl hy) ?_
            refine FlowS.free rfl rfl rfl rfl (Rd.field rfl rfl fl35_3) ?_
            refine FlowS.rd rfl rfl rfl rfl (Rd.load (i := 4) rfl rfl c3 rfl (gives_at (rows_gives encIt hy) rfl)) ?_
            refine FlowS.free rfl rfl rfl rfl (Rd.neq rfl rfl rfl) ?_
            refine FlowS.free rfl rfl rfl rfl (Rd.pickF rfl rfl rfl) ?_
            refine FlowS.rdP rfl rfl rfl rfl (Rd.move rfl rfl) (fun g70 => ?_) (fun g70 => ?_)
            ·
              exact absurd hxy.2.2.2.2.1 g70
            ·
              refine FlowS.free rfl rfl rfl rfl (Rd.move rfl rfl) ?_
              refine FlowS.free rfl rfl rfl rfl (Rd.move rfl rfl) ?_
              refine FlowS.free rfl rfl rfl rfl (Rd.move rfl rfl) ?_
              refine FlowS.free rfl rfl rfl rfl (Rd.move rfl rfl) ?_
              refine FlowS.rd rfl rfl rfl rfl (Rd.indexRows (i := 2) (j := i) rfl rfl rfl s31 rfl hx) ?_
              refine FlowS.free rfl rfl rfl rfl (Rd.field rfl rfl fl35_2) ?_
              refine FlowS.rd rfl rfl rfl rfl (Rd.load (i := 2) rfl rfl c3 rfl (gives_at (rows_gives encIt hx) rfl)) ?_
              refine FlowS.rd rfl rfl rfl rfl (Rd.indexRows (i := 4) (j := i) rfl rfl rfl s31 rfl hy) ?_
              refine FlowS.free rfl rfl rfl rfl (Rd.field rfl rfl fl35_2) ?_
              refine FlowS.rd rfl rfl rfl rfl (Rd.load (i := 4) rfl rfl c3 rfl (gives_at (rows_gives encIt hy) rfl)) ?_
              refine FlowS.free rfl rfl rfl rfl (Rd.neq rfl rfl rfl) ?_
              refine FlowS.free rfl rfl rfl rfl (Rd.pickF rfl rfl rfl) ?_
              refine FlowS.rdP rfl rfl rfl rfl (Rd.move rfl rfl) (fun g83 => ?_) (fun g83 => ?_)
              ·
                exact absurd hxy.2.2.2.1 g83
              ·
                refine FlowS.free rfl rfl rfl rfl (Rd.move rfl rfl) ?_
                refine FlowS.free rfl rfl rfl rfl (Rd.move rfl rfl) ?_
                refine FlowS.free rfl rfl rfl rfl (Rd.move rfl rfl) ?_
                refine FlowS.free rfl rfl rfl rfl (Rd.move rfl rfl) ?_
                refine FlowS.rd rfl rfl rfl rfl (Rd.indexRows (i := 2) (j := i) rfl rfl rfl s31 rfl hx) ?_
                refine FlowS.free rfl rfl rfl rfl (Rd.field rfl rfl fl35_5) ?_
                refine FlowS.rd rfl rfl rfl rfl (Rd.load (i := 2) rfl rfl c3 rfl (gives_at (rows_gives encIt hx) rfl)) ?_
                refine FlowS.rd rfl rfl rfl rfl (Rd.indexRows (i := 4) (j := i) rfl rfl rfl s31 rfl hy) ?_
                refine FlowS.free rfl rfl rfl rfl (Rd.field rfl rfl fl35_5) ?_
                refine FlowS.rd rfl rfl rfl rfl (Rd.load (i := 4) rfl rfl c3 rfl (gives_at (rows_gives encIt hy) rfl)) ?_
                refine FlowS.free rfl rfl rfl rfl (Rd.neq rfl rfl rfl) ?_
                refine FlowS.free rfl rfl rfl rfl (Rd.pickF rfl rfl rfl) ?_
                refine FlowS.rdP rfl rfl rfl rfl (Rd.move rfl rfl) (fun g96 => ?_) (fun g96 => ?_)
                ·
                  exact absurd hxy.2.2.2.2.2.2.1 g96
                ·
                  refine FlowS.free rfl rfl rfl rfl (Rd.move rfl rfl) ?_
                  refine FlowS.free rfl rfl rfl rfl (Rd.move rfl rfl) ?_
                  refine FlowS.free rfl rfl rfl rfl (Rd.move rfl rfl) ?_
                  refine FlowS.free rfl rfl rfl rfl (Rd.move rfl rfl) ?_
                  refine FlowS.rd rfl rfl rfl rfl (Rd.indexRows (i := 2) (j := i) rfl rfl rfl s31 rfl hx) ?_
                  refine FlowS.free rfl rfl rfl rfl (Rd.field rfl rfl fl35_6) ?_
                  refine FlowS.rd rfl rfl rfl rfl (Rd.load (i := 2) rfl rfl c28 rfl (gives_at (rows_gives encIt hx) rfl)) ?_
                  refine FlowS.rd rfl rfl rfl rfl (Rd.indexRows (i := 4) (j := i) rfl rfl rfl s31 rfl hy) ?_
                  refine FlowS.free rfl rfl rfl rfl (Rd.field rfl rfl fl35_6) ?_
                  refine FlowS.rd rfl rfl rfl rfl (Rd.load (i := 4) rfl rfl c28 rfl (gives_at (rows_gives encIt hy) rfl)) ?_
                  refine FlowS.callQ rfl rfl rfl rfl (Ent.fn rfl rfl ca20) (args_fn x.A y.A x.cap y.cap x.args y.args (by omega)) rfl (oks_cons (oks_args 3 rfl (List.mem_of_getElem? hx)) (oks_cons (oks_args 5 rfl (List.mem_of_getElem? hy)) (oks_nil _))) ?_
                  refine FlowS.free rfl rfl rfl rfl (Rd.not rfl rfl) ?_
                  refine FlowS.free rfl rfl rfl rfl (Rd.pickF rfl rfl rfl) ?_
                  refine FlowS.fin ?_
                  refine To.as [agc a v2 (L.filter fun x => !inTake ((c : Nat) : Int) 11 x), agc b vb2 (Lb.filter fun x => !inTake ((c : Nat) : Int) 11 x), rows En.icells 35 7 A7 q7 R, argsO R, rows En.icells 35 7 Ab qb Mb, argsO Mb] rfl ?_
                  refine To.sub [(3, .pointer (some ⟨a, 0, none⟩)), (5, .pointer (some ⟨b, 0, none⟩)), (20, .int .i64 ((c : Nat) : Int)), (7, .slice A7 R.length q7), (9, .slice Ab Mb.length qb), (42, .int .i64 ((R.length : Nat) : Int)), (43, .int .i64 ((i : Nat) : Int)), (44, .bool (decide (((i : Nat) : Int) < ((R.length : Nat) : Int)))), (45, .int .i64 ((i : Nat) : Int)), (109, .bool (!(decide (x.args = y.args))))] ⟨rfl, rfl, rfl, rfl, rfl, rfl, rfl, rfl, rfl, rfl, trivial⟩ ?_
                  refine To.thenN ?_
                  refine To.cond rfl (fun c109 => ?_) (fun c109 => ?_)
                  ·
                    simp [hxy.2.2.2.2.2.2.2] at c109
                  ·
                    refine To.skip ?_
                    refine To.blockN ?_
                    refine To.thenN ?_
                    refine To.reg ?_
                    refine To.rd rfl rfl rfl (Rd.inc rfl rfl rfl (by omega)) ?_
                    refine To.rd rfl rfl rfl (Rd.move rfl rfl) ?_
                    refine To.nil ?_
                    refine To.thenN ?_
                    refine To.sub [(3, .pointer (some ⟨a, 0, none⟩)), (5, .pointer (some ⟨b, 0, none⟩)), (20, .int .i64 ((c : Nat) : Int)), (7, .slice A7 R.length q7), (9, .slice Ab Mb.length qb), (42, .int .i64 ((R.length : Nat) : Int)), (43, .int .i64 (((i + 1) : Nat) : Int))] ⟨rfl, rfl, rfl, rfl, rfl, rfl, rfl, trivial⟩ ?_
                    refine To.only [0, 0, 0, 0, 0, 0] rfl ?_
                    refine To.again (R.length - (i + 1)) (by omega) ⟨i + 1, rfl, rfl, rfl, (by omega)⟩
        ·
          refine To.exit ?_
          refine To.thenX ?_
          refine To.thenX ?_
          refine To.blockX ?_
          refine To.blockN ?_
          refine To.thenN ?_
          refine To.reg ?_
          refine To.rd rfl rfl rfl (Rd.inc rfl rfl rfl (by omega)) ?_
          refine To.rd rfl rfl rfl (Rd.move rfl rfl) ?_
          refine To.nil ?_
          refine To.thenN ?_
          refine To.sub [(3, .pointer (some ⟨a, 0, none⟩)), (5, .pointer (some ⟨b, 0, none⟩)), (20, .int .i64 (((c + 1) : Nat) : Int))] ⟨rfl, rfl, rfl, trivial⟩ ?_
          refine To.only [0, 0] rfl ?_
          refine To.again (3 - (c + 1)) (by omega) ⟨c + 1, v2, L.filter fun x => !inTake ((c : Nat) : Int) 11 x, vb2, Lb.filter fun x => !inTake ((c : Nat) : Int) 11 x, rfl, rfl, rfl, (by omega), hB.next⟩
  ·
    obtain rfl : c = 3 := by omega
    obtain ⟨rfl, rfl⟩ := hB.done
    refine To.exit ?_
    refine To.thenX ?_
    refine To.thenX ?_
    refine To.blockX ?_
    refine To.thenN ?_
    refine To.seq ?_
    refine To.reg ?_
    refine To.rd rfl rfl rfl (Rd.move rfl rfl) ?_
    refine To.call [0] rfl rfl rfl (Ent.fn rfl rfl ca16) rfl (len_fn a v ([] : List En)) ?_
    rintro _ _ ⟨rfl, rfl⟩
    refine To.as [agc a v ([] : List En), agc b vb ([] : List En)] rfl ?_
    refine To.rd rfl rfl rfl (Rd.eql rfl rfl rfl) ?_
    refine To.rdP rfl rfl rfl (Rd.move rfl rfl) (fun g115 => ?_) (fun g115 => ?_)
    ·
      refine To.rd rfl rfl rfl (Rd.move rfl rfl) ?_
      refine To.call [1] rfl rfl rfl (Ent.fn rfl rfl ca16) rfl (len_fn b vb ([] : List En)) ?_
      rintro _ _ ⟨rfl, rfl⟩
      refine To.as [agc b vb ([] : List En), agc a v ([] : List En)] rfl ?_
      refine To.rd rfl rfl rfl (Rd.eql rfl rfl rfl) ?_
      refine To.rd rfl rfl rfl (Rd.pickT rfl rfl rfl) ?_
      refine To.rd rfl rfl rfl (Rd.assign rfl rfl) ?_
      refine To.nil ?_
      refine To.thenN ?_
      refine To.ret ?_
      refine To.end1 (.inl rfl) Try.results5 rfl ?_
      rfl
    ·
      exact absurd rfl g115
end Go.Proofs.Ytnamppkicefbjaa
