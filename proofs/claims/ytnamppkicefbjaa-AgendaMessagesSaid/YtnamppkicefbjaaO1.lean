/- The walk of AgendaOrders. Own text (walks printed by sx.py). -/
import Derived.Test.YtnamppkicefbjaaS1
namespace Go.Proofs.Ytnamppkicefbjaa
open Go.RowKit Go.Flow Go.Mem Go.Sep
theorem bare_fields {x y : En} (h : x.bare = y.bare) : x.t = y.t ∧ x.s = y.s ∧ x.c = y.c ∧ x.p = y.p ∧ x.n = y.n ∧ x.k = y.k ∧ x.h = y.h ∧ x.args = y.args := by
  obtain ⟨t, s, c, p, n, k, h, args, A, cap⟩ := x
  obtain ⟨t', s', c', p', n', k', h', args', A', cap'⟩ := y
  simpa [En.bare] using h
theorem bare_itm {x y : En} (h : x.bare = y.bare) : x.itm = y.itm := by
  obtain ⟨_, h2⟩ := bare_fields h
  exact (itm_eq x y).2 h2
theorem le_bare (x y : En) : x.bare.le y.bare = x.le y := rfl
theorem rle_bare (x y : En) : x.bare.rle y.bare = x.rle y := rfl
theorem pairwise_bare {M L : List En} (h : M.map En.bare = L.map En.bare) (hL : SortedE L) : SortedE M := by
  have h1 : (L.map En.bare).Pairwise fun x y => x.le y = true := List.pairwise_map.2 (hL.imp fun h => by rw [le_bare]; exact h)
  rw [← h] at h1
  exact (List.pairwise_map.1 h1).imp fun h => by rw [le_bare] at h; exact h
/-- Of the entries that are left. -/
structure Left (L l : List En) (n : Nat) : Prop where
  sorted : SortedE L
  from_ : ∀ e ∈ L, ∃ z ∈ l, z.bare = e.bare
  good : ∀ e ∈ L, Good e
  args : ∀ e ∈ L, e.args.length ≤ 4
  count : L.length + n = l.length
theorem Left.start {L l : List En} {k : Nat} (h : Filled L l k) (hs : SortedE L) : Left L l 0 := ⟨hs, fun e he => by
    have : e.bare ∈ l.map En.bare := h.same.perm.mem_iff.1 (List.mem_map.2 ⟨e, he, rfl⟩)
    obtain ⟨z, hz, h2⟩ := List.mem_map.1 this
    exact ⟨z, hz, h2⟩, h.same.gL, h.argsL, by rw [h.same.len]; rfl⟩
/-- What is taken. -/
structure Took (M l : List En) (c T : Int) : Prop where
  sorted : SortedE M
  all : ∀ x ∈ M, (∃ z ∈ l, z.bare = x.bare) ∧ Good x ∧ x.args.length ≤ 4 ∧ x.c = c ∧ x.t ≤ T
theorem Left.took {L l M : List En} {n : Nat} {c T : Int} (h : Left L l n) (hM : M.map En.bare = (L.filter (inTake c T)).map En.bare) : Took M l c T := by
  refine ⟨pairwise_bare hM (h.sorted.filter _), fun x hx => ?_⟩
  have : x.bare ∈ (L.filter (inTake c T)).map En.bare := by rw [← hM]; exact List.mem_map.2 ⟨x, hx, rfl⟩
  obtain ⟨e, he, hb⟩ := List.mem_map.1 this
  obtain ⟨he1, he2⟩ := List.mem_filter.1 he
  obtain ⟨f1, f2, f3, f4, f5, f6, f7, f8⟩ := bare_fields hb
  obtain ⟨z, hz, hz2⟩ := h.from_ e he1
  simp only [inTake, decide_eq_true_eq] at he2
  refine ⟨⟨z, hz, hz2.trans hb⟩, ?_, by rw [← f8]; exact h.args e he1, by omega, by omega⟩
  have := h.good e he1
  unfold Good at *
  rw [← f2]; exact this
theorem filter_len {α : Type} (p : α → Bool) (L : List α) : (L.filter p).length + (L.filter fun x => !p x).length = L.length := by
  have := (filter_perm p L).length_eq
  simpa using this
theorem Left.rest {L l M : List En} {n : Nat} {c T : Int} (h : Left L l n) (hM : M.map En.bare = (L.filter (inTake c T)).map En.bare) : Left (L.filter fun x => !inTake c T x) l (n + M.length) := by
  refine ⟨h.sorted.filter _, fun e he => h.from_ e (List.mem_filter.1 he).1, fun e he => h.good e (List.mem_filter.1 he).1, fun e he => h.args e (List.mem_filter.1 he).1, ?_⟩
  have h1 := congrArg List.length hM
  simp only [List.length_map] at h1
  have h2 := filter_len (inTake c T) L
  have h3 := h.count
  omega
noncomputable def okY (T : Int) (i : Nat) (lst x y : En) : Bool := decide (x.itm = y.itm) && (decide (y.t ≤ T) && (decide ((i : Int) = 0) || !bef y lst))
theorem itm1 (x y : En) : ([x].map En.itm = [y].map En.itm) ↔ x.itm = y.itm := by simp
theorem no_step {l : List En} {T : Int} {i j : Nat} {lst x y : En} (hy : l[j]? = some y) (hno : ∀ j' < j, ∀ w, l[j']? = some w → okY T i lst x w = false) (hb : okY T i lst x y = false) : ∀ j' < j + 1, ∀ w, l[j']? = some w → okY T i lst x w = false := fun j' h w hw => by
  rcases Nat.lt_succ_iff_lt_or_eq.1 h with h1 | h1
  · exact hno j' h1 w hw
  · rw [h1, hy] at hw; injection hw with hw; rw [← hw]; exact hb
/-- The one taken last, as the statement holds it: with a tick that is no later. -/
def LastOk (M : List En) (i : Nat) (lst : En) : Prop := 0 < i → ∃ u, M[i - 1]? = some u ∧ lst.t ≤ u.t ∧ lst.s = u.s ∧ lst.c = u.c ∧ lst.p = u.p ∧ lst.n = u.n ∧ lst.k = u.k ∧ lst.h = u.h
theorem rle_tick {a b : En} (ht : a.t ≤ b.t) (h1 : a.s = b.s) (h3 : a.p = b.p) (h4 : a.n = b.n) (h5 : a.k = b.k) (h6 : a.h = b.h) : a.rle b = true := by
  unfold En.rle En.rkey
  rw [h1, h3, h4, h5, h6]
  unfold lexLe
  rcases Int.lt_or_eq_of_le ht with h | h
  · simp [h]
  · rw [h]
    have := lexLe_total [rs b.s, pl0 b.s b.p b.n b.h, pl1 b.s b.n, pl2 b.s b.k] _ rfl
    simp at this
    simp [this]
theorem found {M l : List En} {c T : Int} (h : Took M l c T) {i : Nat} {x lst : En} (hx : M[i]? = some x) (hl : LastOk M i lst) : ∃ z ∈ l, z.bare = x.bare ∧ okY T i lst x z = true := by
  obtain ⟨⟨z, hz, hb⟩, hg, _, hc, ht⟩ := h.all x (List.mem_of_getElem? hx)
  refine ⟨z, hz, hb, ?_⟩
  obtain ⟨f1, f2, f3, f4, f5, f6, f7, f8⟩ := bare_fields hb
  unfold okY
  rw [decide_eq_true (bare_itm hb).symm, decide_eq_true (by omega : z.t ≤ T)]
  rcases Nat.eq_zero_or_pos i with h0 | h0
  · simp [h0]
  · obtain ⟨u, hu, g1, g2, g3, g4, g5, g6, g7⟩ := hl h0
    have hle : u.le x = true := by
      obtain ⟨a1, a2⟩ := List.getElem?_eq_some_iff.1 hu
      obtain ⟨b1, b2⟩ := List.getElem?_eq_some_iff.1 hx
      have := List.pairwise_iff_getElem.1 h.sorted (i - 1) i a1 b1 (by omega)
      rw [a2, b2] at this; exact this
    obtain ⟨_, hgu, _, hcu, _⟩ := h.all u (List.mem_of_getElem? hu)
    rw [le_rle hgu hg (by omega)] at hle
    have hlu : lst.rle u = true := rle_tick g1 g2 g4 g5 g6 g7
    have hlx := rle_trans hlu hle
    have hlz : lst.rle z = true := by rw [← rle_bare, hb, rle_bare]; exact hlx
    rw [bef_rle, hlz]; simp
theorem first {l : List En} (hs : SortedR l) {z : En} (hz : z ∈ l) {j : Nat} {y : En} (hy : l[j]? = some y) (hno : ∀ j' < j, ∀ w, l[j']? = some w → w ≠ z) : y.t ≤ z.t := by
  obtain ⟨k, hk⟩ := List.getElem?_of_mem hz
  have hjk : j ≤ k := Nat.le_of_not_lt fun h => hno k h z hk rfl
  rcases Nat.eq_or_lt_of_le hjk with h | h
  · rw [← h, hy] at hk; injection hk with hk; rw [hk]; exact Int.le_refl _
  · obtain ⟨a1, a2⟩ := List.getElem?_eq_some_iff.1 hy
    obtain ⟨b1, b2⟩ := List.getElem?_eq_some_iff.1 hk
    have := List.pairwise_iff_getElem.1 hs j k a1 b1 h
    rw [a2, b2] at this
    unfold En.rle En.rkey lexLe at this
    simp at this
    omega
theorem last_step {M l : List En} {c T : Int} (h : Took M l c T) (hs : SortedR l) {i j : Nat} {x y lst : En} (hx : M[i]? = some x) (hl : LastOk M i lst) (hy : l[j]? = some y) (hno : ∀ j' < j, ∀ w, l[j']? = some w → okY T i lst x w = false) : LastOk M (i + 1) ⟨y.t, x.s, x.c, x.p, x.n, x.k, x.h, [], none, 0⟩ := fun _ => by
  obtain ⟨z, hz, hb, hok⟩ := found h hx hl
  refine ⟨x, by simpa using hx, ?_, rfl, rfl, rfl, rfl, rfl, rfl⟩
  have := first hs hz hy fun j' h' w hw e => by have := hno j' h' w hw; rw [e, hok] at this; cases this
  rw [← (bare_fields hb).1]; exact this
theorem oks_S1 {Γ : List Chunk} {A : Option Addr} {xs : List Int} (h : ∀ w, oks Γ w → (ro A (ints xs)).holds w) : ∀ w, oks Γ w → (argsS [(A, xs)]).holds w := fun w hw p hp => by
  rw [List.mem_singleton.1 hp]; exact h w hw
theorem good_s {x : En} (h : Good x) : 4 ≤ x.s ∧ x.s ≤ 6 := by unfold Good at h; omega
set_option maxHeartbeats 2000000 in
set_option maxRecDepth 100000 in
theorem orders_fn (A : Option Addr) (cap : Nat) (ops : List Opr) (tick : Int) (hok : ∀ o ∈ ops, o.ok) (hlo : ops.length ≤ 9223372036854775807) (htk : 0 ≤ tick ∧ tick < 256) :
    Does Try.prog 3 [.slice A ops.length cap, .int .u8 tick] [ros Opr.cells A ops, argsS (ops.map Opr.ar)] (fun v _ => v = .bool true) := by
  have hlo2 := hlo
  refine Does.enter Try.func3 rfl Try.ntmps3 rfl (fun w0 => ?_)
  refine To.seq ?_
  refine To.reg ?_
  refine To.rd rfl rfl rfl (Rd.assign rfl rfl) ?_
  refine To.nil ?_
  refine To.thenN ?_
  refine To.seq ?_
  refine To.seq ?_
  refine To.reg ?_
  refine To.callV rfl rfl rfl (Ent.fn rfl rfl ca11) (awake_fn) rfl (oks_nil _) ?_
  refine To.rd rfl rfl rfl (Rd.not rfl rfl) ?_
  refine To.nil ?_
  refine To.thenN ?_
  refine To.condF rfl ?_
  refine To.skip ?_
  refine To.thenN ?_
  refine To.seq ?_
  refine To.reg ?_
  refine To.rd rfl rfl rfl (Rd.move rfl rfl) ?_
  refine To.call [0, 0] rfl rfl rfl (Ent.fn rfl rfl ca12) rfl (fill_fn A cap ops hok hlo) ?_
  rintro _ _ ⟨a, v0, L0, l, A5, q5, rfl, rfl, hF⟩
  refine To.as [agc a v0 L0, rows En.rcells 30 8 A5 q5 l, argsS (l.map En.ar)] rfl ?_
  refine To.rd rfl rfl rfl (Rd.move rfl rfl) ?_
  refine To.rd rfl rfl rfl (Rd.extract rfl rfl rfl) ?_
  refine To.rd rfl rfl rfl (Rd.extract rfl rfl rfl) ?_
  refine To.rd rfl rfl rfl (Rd.assign rfl rfl) ?_
  refine To.rd rfl rfl rfl (Rd.assign rfl rfl) ?_
  refine To.nil ?_
  refine To.thenN ?_
  refine To.seq ?_
  refine To.reg ?_
  refine To.rd rfl rfl rfl (Rd.assign rfl rfl) ?_
  refine To.nil ?_
  refine To.thenN ?_
  refine To.seq ?_
  refine To.seq ?_
  refine To.reg ?_
  refine To.rd rfl rfl rfl (Rd.move rfl rfl) ?_
  refine To.nil ?_
  refine To.thenN ?_
  refine To.block ?_
  refine To.know (p := SortedE L0) (fun w hs => (hs.each (agc a v0 L0) (by simp) : Ag w 0 a v0 L0).sorted) (fun hs0 => ?_)
  refine To.sub [(1, .int .u8 tick), (5, .pointer (some ⟨a, 0, none⟩)), (6, .slice A5 l.length q5), (7, .int .i64 ((0 : Nat) : Int)), (23, .int .i64 ((0 : Nat) : Int))] ⟨rfl, rfl, rfl, rfl, rfl, trivial⟩ ?_
  refine To.only [0, 0, 0] rfl ?_
  refine To.loop (fun m ρ Γ => ∃ (c : Nat) (n : Nat) (v : Value) (L : List En), ρ = [(1, .int .u8 tick), (5, .pointer (some ⟨a, 0, none⟩)), (6, .slice A5 l.length q5), (7, .int .i64 ((n : Nat) : Int)), (23, .int .i64 ((c : Nat) : Int))] ∧ Γ = [agc a v L, rows En.rcells 30 8 A5 q5 l, argsS (l.map En.ar)] ∧ m = 3 - c ∧ (c ≤ 3) ∧ (Left L l n)) (3 - 0) ⟨0, 0, v0, L0, rfl, rfl, rfl, (by omega), (Left.start hF hs0)⟩ ?_
  rintro m _ _ ⟨c, n, v, L, rfl, rfl, rfl, hc, hL⟩
  refine To.seq ?_
  refine To.reg ?_
  refine To.rd rfl rfl rfl (Rd.lss rfl rfl rfl) ?_
  refine To.nil ?_
  refine To.thenN ?_
  refine To.seq ?_
  refine To.condP rfl (fun c24 => ?_) (fun c24 => ?_)
  ·
    have hcnt := hL.count
    have hfl := hF.len
    refine To.skip ?_
    refine To.thenN ?_
    refine To.seq ?_
    refine To.block ?_
    refine To.seq ?_
    refine To.reg ?_
    refine To.rd rfl rfl rfl (Rd.move rfl rfl) ?_
    refine To.rd rfl rfl rfl (Rd.assign rfl rfl) ?_
    refine To.nil ?_
    refine To.thenN ?_
    refine To.seq ?_
    refine To.reg ?_
    refine To.alloc rfl rfl rfl rfl z30 (fun b9 => ?_)
    refine To.nil ?_
    refine To.thenN ?_
    refine To.seq ?_
    refine To.reg ?_
    refine To.rd rfl rfl rfl (Rd.move rfl rfl) ?_
    refine To.rd rfl rfl rfl (Rd.move rfl rfl) ?_
    refine To.rd rfl rfl rfl (Rd.rem rfl rfl rfl (by omega) (by omega)) ?_
    refine To.rd rfl rfl rfl (Rd.conv rfl rfl Try.underlying5 Try.underlying3 (IntWalk.i64_in _ (by omega))) ?_
    refine To.rd rfl rfl rfl (Rd.move rfl rfl) ?_
    refine To.call [1] rfl rfl rfl (Ent.fn rfl rfl ca13) rfl (take_fn a v L (tick % 14) ((c : Nat) : Int) (by have := hL.count; have := hF.len; omega) (fun e he => by have := hL.args e he; omega)) ?_
    rintro _ _ ⟨Am, qm, M, v1, rfl, rfl, hM⟩
    refine To.as [agc a v1 (L.filter fun x => !inTake ((c : Nat) : Int) (tick % 14) x), rows En.icells 35 7 Am qm M, argsO M, box b9 [.int .i64 0, .int .i64 0, .int .i64 0, .int .i64 0, .int .i64 0, .int .i64 0, .int .i64 0, .slice none 0 0] 30, rows En.rcells 30 8 A5 q5 l, argsS (l.map En.ar)] rfl ?_
    refine To.rd rfl rfl rfl (Rd.len rfl rfl Try.underlying31) ?_
    refine To.rd rfl rfl rfl (Rd.move rfl rfl) ?_
    refine To.nil ?_
    refine To.thenN ?_
    refine To.block ?_
    have hT := hL.took hM
    have hMl : M.length ≤ 40 := by have := congrArg List.length hM; simp only [List.length_map] at this; have := List.length_filter_le (inTake ((c : Nat) : Int) (tick % 14)) L; have := hL.count; have := hF.len; omega
    refine To.sub [(1, .int .u8 tick), (5, .pointer (some ⟨a, 0, none⟩)), (6, .slice A5 l.length q5), (7, .int .i64 ((n + 0 : Nat) : Int)), (8, .int .i64 ((c : Nat) : Int)), (23, .int .i64 ((c : Nat) : Int)), (9, .pointer (some ⟨b9, 0, none⟩)), (31, .slice Am M.length qm), (32, .int .i64 ((M.length : Nat) : Int)), (33, .int .i64 ((0 : Nat) : Int))] ⟨rfl, rfl, rfl, rfl, rfl, rfl, rfl, rfl, rfl, rfl, trivial⟩ ?_
    refine To.only [0, 3, 3, 0, 0, 0] rfl ?_
    refine To.as [agc a v1 (L.filter fun x => !inTake ((c : Nat) : Int) (tick % 14) x), rows En.rcells 30 8 A5 q5 l, argsS (l.map En.ar), rows En.icells 35 7 Am qm M, argsO M, box b9 [.int .i64 (En.mk 0 0 0 0 0 0 0 [] none 0).t, .int .i64 (En.mk 0 0 0 0 0 0 0 [] none 0).s, .int .i64 (En.mk 0 0 0 0 0 0 0 [] none 0).c, .int .i64 (En.mk 0 0 0 0 0 0 0 [] none 0).p, .int .i64 (En.mk 0 0 0 0 0 0 0 [] none 0).n, .int .i64 (En.mk 0 0 0 0 0 0 0 [] none 0).k, .int .i64 (En.mk 0 0 0 0 0 0 0 [] none 0).h, .slice (En.mk 0 0 0 0 0 0 0 [] none 0).A (En.mk 0 0 0 0 0 0 0 [] none 0).args.length (En.mk 0 0 0 0 0 0 0 [] none 0).cap] 30] rfl ?_
    refine To.loop (fun m ρ Γ => ∃ (i : Nat) (lst : En), ρ = [(1, .int .u8 tick), (5, .pointer (some ⟨a, 0, none⟩)), (6, .slice A5 l.length q5), (7, .int .i64 ((n + i : Nat) : Int)), (8, .int .i64 ((c : Nat) : Int)), (23, .int .i64 ((c : Nat) : Int)), (9, .pointer (some ⟨b9, 0, none⟩)), (31, .slice Am M.length qm), (32, .int .i64 ((M.length : Nat) : Int)), (33, .int .i64 ((i : Nat) : Int))] ∧ Γ = [agc a v1 (L.filter fun x => !inTake ((c : Nat) : Int) (tick % 14) x), rows En.rcells 30 8 A5 q5 l, argsS (l.map En.ar), rows En.icells 35 7 Am qm M, argsO M, box b9 [.int .i64 lst.t, .int .i64 lst.s, .int .i64 lst.c, .int .i64 lst.p, .int .i64 lst.n, .int .i64 lst.k, .int .i64 lst.h, .slice lst.A lst.args.length lst.cap] 30] ∧ m = M.length - i ∧ (i ≤ M.length) ∧ (LastOk M i lst)) (M.length - 0) ⟨0, (En.mk 0 0 0 0 0 0 0 [] none 0), rfl, rfl, rfl, (Nat.zero_le _), (fun h => absurd h (by omega))⟩ ?_
    rintro m _ _ ⟨i, lst, rfl, rfl, rfl, hi, hlst⟩
    refine To.seq ?_
    refine To.reg ?_
    refine To.rd rfl rfl rfl (Rd.lss rfl rfl rfl) ?_
    refine To.nil ?_
    refine To.thenN ?_
    refine To.seq ?_
    refine To.condP rfl (fun c34 => ?_) (fun c34 => ?_)
    ·
      obtain ⟨x, hx⟩ : ∃ y, M[i]? = some y := ⟨M[i]'(by omega), List.getElem?_eq_getElem _⟩
      obtain ⟨hzz, hgx, hax, hcx, htx⟩ := hT.all x (List.mem_of_getElem? hx)
      have hsx := good_s hgx
      refine To.skip ?_
      refine To.thenN ?_
      refine To.seq ?_
      refine To.block ?_
      refine To.seq ?_
      refine To.reg ?_
      refine To.rd rfl rfl rfl (Rd.move rfl rfl) ?_
      refine To.rd rfl rfl rfl (Rd.indexRows (i := 3) (j := i) rfl rfl rfl s31 rfl hx) ?_
      refine To.rd rfl rfl rfl (Rd.loadS (i := 3) rfl rfl r35 rfl (rows_gives encIt hx) (encIt.len _)) ?_
      refine To.alloc rfl rfl rfl rfl z35 (fun b11 => ?_)
      refine To.rd rfl rfl rfl (Rd.assign rfl rfl) ?_
      refine To.up rfl rfl (Up.storeS (i := 0) rfl rfl rfl r35 rfl rfl rfl (box_takesAll rfl)) ?_
      refine To.nil ?_
      refine To.thenN ?_
      refine To.seq ?_
      refine To.reg ?_
      refine To.rd rfl rfl rfl (Rd.assign rfl rfl) ?_
      refine To.nil ?_
      refine To.thenN ?_
      refine To.seq ?_
      refine To.reg ?_
      refine To.rd rfl rfl rfl (Rd.field rfl rfl fl35_0) ?_
      refine To.rd rfl rfl rfl (Rd.load (i := 0) rfl rfl c33 rfl (box_gives1 rfl)) ?_
      refine To.rd rfl rfl rfl (Rd.conv rfl rfl Try.underlying33 Try.underlying3 (IntWalk.i64_in _ (by omega))) ?_
      refine To.rd rfl rfl rfl (Rd.field rfl rfl fl35_1) ?_
      refine To.rd rfl rfl rfl (Rd.load (i := 0) rfl rfl c3 rfl (box_gives1 rfl)) ?_
      refine To.rd rfl rfl rfl (Rd.field rfl rfl fl35_2) ?_
      refine To.rd rfl rfl rfl (Rd.load (i := 0) rfl rfl c3 rfl (box_gives1 rfl)) ?_
      refine To.rd rfl rfl rfl (Rd.field rfl rfl fl35_3) ?_
      refine To.rd rfl rfl rfl (Rd.load (i := 0) rfl rfl c3 rfl (box_gives1 rfl)) ?_
      refine To.rd rfl rfl rfl (Rd.field rfl rfl fl35_4) ?_
      refine To.rd rfl rfl rfl (Rd.load (i := 0) rfl rfl c3 rfl (box_gives1 rfl)) ?_
      refine To.rd rfl rfl rfl (Rd.field rfl rfl fl35_5) ?_
      refine To.rd rfl rfl rfl (Rd.load (i := 0) rfl rfl c3 rfl (box_gives1 rfl)) ?_
      refine To.rd rfl rfl rfl (Rd.build (vs := [(1, .int .i64 x.s), (2, .int .i64 x.c), (3, .int .i64 x.p), (4, .int .i64 x.n), (5, .int .i64 x.k), (6, .int .i64 x.h)]) (cells := [.int .i64 0, .int .i64 x.s, .int .i64 x.c, .int .i64 x.p, .int .i64 x.n, .int .i64 x.k, .int .i64 x.h, .slice none 0 0]) rfl rfl rfl (by kernel_rfl)) ?_
      refine To.alloc rfl rfl rfl rfl z30 (fun b13 => ?_)
      refine To.up rfl rfl (Up.storeS (i := 0) rfl rfl rfl r30 rfl rfl rfl (box_takesAll rfl)) ?_
      refine To.nil ?_
      refine To.sub [(1, .int .u8 tick), (5, .pointer (some ⟨a, 0, none⟩)), (6, .slice A5 l.length q5), (7, .int .i64 ((n + i : Nat) : Int)), (8, .int .i64 ((c : Nat) : Int)), (23, .int .i64 ((c : Nat) : Int)), (9, .pointer (some ⟨b9, 0, none⟩)), (31, .slice Am M.length qm), (32, .int .i64 ((M.length : Nat) : Int)), (33, .int .i64 ((i : Nat) : Int)), (34, .bool (decide (((i : Nat) : Int) < ((M.length : Nat) : Int)))), (35, .int .i64 ((i : Nat) : Int)), (36, .pointer (some ⟨blk Am, ofs Am + i * 7, none⟩)), (37, .agg (En.icells x).toArray), (11, .pointer (some ⟨b11, 0, none⟩)), (10, .int .i64 ((i : Nat) : Int)), (12, .bool false), (13, .pointer (some ⟨b13, 0, none⟩))] ⟨rfl, rfl, rfl, rfl, rfl, rfl, rfl, rfl, rfl, rfl, rfl, rfl, rfl, rfl, rfl, rfl, rfl, rfl, trivial⟩ ?_
      refine To.thenN ?_
      refine To.seq ?_
      refine To.seq ?_
      refine To.reg ?_
      refine To.rd rfl rfl rfl (Rd.move rfl rfl) ?_
      refine To.rd rfl rfl rfl (Rd.len rfl rfl Try.underlying25) ?_
      refine To.rd rfl rfl rfl (Rd.move rfl rfl) ?_
      refine To.nil ?_
      refine To.thenN ?_
      refine To.block ?_
      refine To.sub [(1, .int .u8 tick), (5, .pointer (some ⟨a, 0, none⟩)), (6, .slice A5 l.length q5), (7, .int .i64 ((n + i : Nat) : Int)), (8, .int .i64 ((c : Nat) : Int)), (23, .int .i64 ((c : Nat) : Int)), (9, .pointer (some ⟨b9, 0, none⟩)), (10, .int .i64 ((i : Nat) : Int)), (11, .pointer (some ⟨b11, 0, none⟩)), (12, .bool false), (13, .pointer (some ⟨b13, 0, none⟩)), (31, .slice Am M.length qm), (32, .int .i64 ((M.length : Nat) : Int)), (33, .int .i64 ((i : Nat) : Int)), (52, .slice A5 l.length q5), (53, .int .i64 ((l.length : Nat) : Int)), (54, .int .i64 ((0 : Nat) : Int))] ⟨rfl, rfl, rfl, rfl, rfl, rfl, rfl, rfl, rfl, rfl, rfl, rfl, rfl, rfl, rfl, rfl, rfl, trivial⟩ ?_
      refine To.only [2, 2, 2, 2, 2, 2, 1, 0] rfl ?_
      refine To.as [agc a v1 (L.filter fun x => !inTake ((c : Nat) : Int) (tick % 14) x), rows En.rcells 30 8 A5 q5 l, argsS (l.map En.ar), rows En.icells 35 7 Am qm M, argsO M, box b9 [.int .i64 lst.t, .int .i64 lst.s, .int .i64 lst.c, .int .i64 lst.p, .int .i64 lst.n, .int .i64 lst.k, .int .i64 lst.h, .slice lst.A lst.args.length lst.cap] 30, box b11 [.int .u8 x.s, .int .i64 x.c, .int .i64 x.p, .int .i64 x.n, .int .i64 x.k, .int .i64 x.h, .slice x.A x.args.length x.cap] 35, box b13 [.int .i64 0, .int .i64 x.s, .int .i64 x.c, .int .i64 x.p, .int .i64 x.n, .int .i64 x.k, .int .i64 x.h, .slice none 0 0] 30] rfl ?_
      refine To.loop (fun m ρ Γ => ∃ (j : Nat), ρ = [(1, .int .u8 tick), (5, .pointer (some ⟨a, 0, none⟩)), (6, .slice A5 l.length q5), (7, .int .i64 ((n + i : Nat) : Int)), (8, .int .i64 ((c : Nat) : Int)), (23, .int .i64 ((c : Nat) : Int)), (9, .pointer (some ⟨b9, 0, none⟩)), (10, .int .i64 ((i : Nat) : Int)), (11, .pointer (some ⟨b11, 0, none⟩)), (12, .bool false), (13, .pointer (some ⟨b13, 0, none⟩)), (31, .slice Am M.length qm), (32, .int .i64 ((M.length : Nat) : Int)), (33, .int .i64 ((i : Nat) : Int)), (52, .slice A5 l.length q5), (53, .int .i64 ((l.length : Nat) : Int)), (54, .int .i64 ((j : Nat) : Int))] ∧ Γ = [agc a v1 (L.filter fun x => !inTake ((c : Nat) : Int) (tick % 14) x), rows En.rcells 30 8 A5 q5 l, argsS (l.map En.ar), rows En.icells 35 7 Am qm M, argsO M, box b9 [.int .i64 lst.t, .int .i64 lst.s, .int .i64 lst.c, .int .i64 lst.p, .int .i64 lst.n, .int .i64 lst.k, .int .i64 lst.h, .slice lst.A lst.args.length lst.cap] 30, box b11 [.int .u8 x.s, .int .i64 x.c, .int .i64 x.p, .int .i64 x.n, .int .i64 x.k, .int .i64 x.h, .slice x.A x.args.length x.cap] 35, box b13 [.int .i64 0, .int .i64 x.s, .int .i64 x.c, .int .i64 x.p, .int .i64 x.n, .int .i64 x.k, .int .i64 x.h, .slice none 0 0] 30] ∧ m = l.length - j ∧ (j ≤ l.length) ∧ (∀ j' < j, ∀ w, l[j']? = some w → okY (tick % 14) i lst x w = false)) (l.length - 0) ⟨0, rfl, rfl, rfl, (Nat.zero_le _), (fun j' h => absurd h (by omega))⟩ ?_
      rintro m _ _ ⟨j, rfl, rfl, rfl, hj, hno⟩
      refine To.seq ?_
      refine To.reg ?_
      refine To.rd rfl rfl rfl (Rd.lss rfl rfl rfl) ?_
      refine To.nil ?_
      refine To.thenN ?_
      refine To.seq ?_
      refine To.condP rfl (fun c55 => ?_) (fun c55 => ?_)
      ·
        obtain ⟨y, hy⟩ : ∃ y, l[j]? = some y := ⟨l[j]'(by omega), List.getElem?_eq_getElem _⟩
        refine To.skip ?_
        refine To.thenN ?_
        refine To.seq ?_
        refine To.block ?_
        refine To.seq ?_
        refine To.reg ?_
        refine To.rd rfl rfl rfl (Rd.indexRows (i := 1) (j := j) rfl rfl rfl s25 rfl hy) ?_
        refine To.rd rfl rfl rfl (Rd.loadS (i := 1) rfl rfl r30 rfl (rows_gives encR hy) (encR.len _)) ?_
        refine To.alloc rfl rfl rfl rfl z30 (fun b15 => ?_)
        refine To.up rfl rfl (Up.storeS (i := 0) rfl rfl rfl r30 rfl rfl rfl (box_takesAll rfl)) ?_
        refine To.nil ?_
        refine To.thenN ?_
        refine To.seq ?_
        refine To.reg ?_
        refine To.meet (T := Bool) (fun t => ([(1, .int .u8 tick), (5, .pointer (some ⟨a, 0, none⟩)), (6, .slice A5 l.length q5), (7, .int .i64 ((n + i : Nat) : Int)), (8, .int .i64 ((c : Nat) : Int)), (23, .int .i64 ((c : Nat) : Int)), (9, .pointer (some ⟨b9, 0, none⟩)), (10, .int .i64 ((i : Nat) : Int)), (11, .pointer (some ⟨b11, 0, none⟩)), (12, .bool false), (13, .pointer (some ⟨b13, 0, none⟩)), (31, .slice Am M.length qm), (32, .int .i64 ((M.length : Nat) : Int)), (33, .int .i64 ((i : Nat) : Int)), (52, .slice A5 l.length q5), (53, .int .i64 ((l.length : Nat) : Int)), (54, .int .i64 ((j : Nat) : Int)), (15, .pointer (some ⟨b15, 0, none⟩)), (80, .bool t)], [agc a v1 (L.filter fun x => !inTake ((c : Nat) : Int) (tick % 14) x), rows En.rcells 30 8 A5 q5 l, argsS (l.map En.ar), rows En.icells 35 7 Am qm M, argsO M, box b9 [.int .i64 lst.t, .int .i64 lst.s, .int .i64 lst.c, .int .i64 lst.p, .int .i64 lst.n, .int .i64 lst.k, .int .i64 lst.h, .slice lst.A lst.args.length lst.cap] 30, box b11 [.int .u8 x.s, .int .i64 x.c, .int .i64 x.p, .int .i64 x.n, .int .i64 x.k, .int .i64 x.h, .slice x.A x.args.length x.cap] 35, box b13 [.int .i64 0, .int .i64 x.s, .int .i64 x.c, .int .i64 x.p, .int .i64 x.n, .int .i64 x.k, .int .i64 x.h, .slice none 0 0] 30, box b15 [.int .i64 y.t, .int .i64 y.s, .int .i64 y.c, .int .i64 y.p, .int .i64 y.n, .int .i64 y.k, .int .i64 y.h, .slice y.A y.args.length y.cap] 30])) (fun t => t = okY (tick % 14) i lst x y) ?_ (fun t ht => ?_)
        ·
          refine To.rd rfl rfl rfl (Rd.loadS (i := 7) rfl rfl r35 rfl box_whole rfl) ?_
          refine To.mk rfl rfl rfl (Mk.sliceN (us := [.int .u8 x.s, .int .i64 x.c, .int .i64 x.p, .int .i64 x.n, .int .i64 x.k, .int .i64 x.h, .slice x.A x.args.length x.cap]) rfl s31 rfl rfl rfl rfl rfl rfl) ?_
          rintro _ _ ⟨b59, rfl, rfl⟩
          refine To.as [row 35 7 (some ⟨b59, 0, none⟩) 1 1 [.int .u8 x.s, .int .i64 x.c, .int .i64 x.p, .int .i64 x.n, .int .i64 x.k, .int .i64 x.h, .slice x.A x.args.length x.cap], box b15 [.int .i64 y.t, .int .i64 y.s, .int .i64 y.c, .int .i64 y.p, .int .i64 y.n, .int .i64 y.k, .int .i64 y.h, .slice y.A y.args.length y.cap] 30, agc a v1 (L.filter fun x => !inTake ((c : Nat) : Int) (tick % 14) x), rows En.rcells 30 8 A5 q5 l, argsS (l.map En.ar), rows En.icells 35 7 Am qm M, argsO M, box b9 [.int .i64 lst.t, .int .i64 lst.s, .int .i64 lst.c, .int .i64 lst.p, .int .i64 lst.n, .int .i64 lst.k, .int .i64 lst.h, .slice lst.A lst.args.length lst.cap] 30, box b11 [.int .u8 x.s, .int .i64 x.c, .int .i64 x.p, .int .i64 x.n, .int .i64 x.k, .int .i64 x.h, .slice x.A x.args.length x.cap] 35, box b13 [.int .i64 0, .int .i64 x.s, .int .i64 x.c, .int .i64 x.p, .int .i64 x.n, .int .i64 x.k, .int .i64 x.h, .slice none 0 0] 30] rfl ?_
          refine To.rd rfl rfl rfl (Rd.loadS (i := 1) rfl rfl r30 rfl box_whole rfl) ?_
          refine To.mk rfl rfl rfl (Mk.sliceN (us := [.int .i64 y.t, .int .i64 y.s, .int .i64 y.c, .int .i64 y.p, .int .i64 y.n, .int .i64 y.k, .int .i64 y.h, .slice y.A y.args.length y.cap]) rfl s25 rfl rfl rfl rfl rfl rfl) ?_
          rintro _ _ ⟨b61, rfl, rfl⟩
          refine To.as [row 30 8 (some ⟨b61, 0, none⟩) 1 1 [.int .i64 y.t, .int .i64 y.s, .int .i64 y.c, .int .i64 y.p, .int .i64 y.n, .int .i64 y.k, .int .i64 y.h, .slice y.A y.args.length y.cap], row 35 7 (some ⟨b59, 0, none⟩) 1 1 [.int .u8 x.s, .int .i64 x.c, .int .i64 x.p, .int .i64 x.n, .int .i64 x.k, .int .i64 x.h, .slice x.A x.args.length x.cap], box b15 [.int .i64 y.t, .int .i64 y.s, .int .i64 y.c, .int .i64 y.p, .int .i64 y.n, .int .i64 y.k, .int .i64 y.h, .slice y.A y.args.length y.cap] 30, agc a v1 (L.filter fun x => !inTake ((c : Nat) : Int) (tick % 14) x), rows En.rcells 30 8 A5 q5 l, argsS (l.map En.ar), rows En.icells 35 7 Am qm M, argsO M, box b9 [.int .i64 lst.t, .int .i64 lst.s, .int .i64 lst.c, .int .i64 lst.p, .int .i64 lst.n, .int .i64 lst.k, .int .i64 lst.h, .slice lst.A lst.args.length lst.cap] 30, box b11 [.int .u8 x.s, .int .i64 x.c, .int .i64 x.p, .int .i64 x.n, .int .i64 x.k, .int .i64 x.h, .slice x.A x.args.length x.cap] 35, box b13 [.int .i64 0, .int .i64 x.s, .int .i64 x.c, .int .i64 x.p, .int .i64 x.n, .int .i64 x.k, .int .i64 x.h, .slice none 0 0] 30] rfl ?_
          refine To.callV rfl rfl rfl (Ent.fn rfl rfl ca14) (same_fn _ _ 1 1 [x] [y] (by simp; have := good_s (hF.same.gl y (List.mem_of_getElem? hy)); omega) (by simp; omega) (by simp) (by simp)) rfl (oks_cons (oks_row 1 rfl) (oks_cons (oks_row 0 rfl) (oks_cons (oks_S1 (oks_args 7 rfl (List.mem_of_getElem? hx))) (oks_cons (oks_S1 (oks_S 5 rfl (mem_at hy En.ar))) (oks_nil _))))) ?_
          refine To.rdP rfl rfl rfl (Rd.move rfl rfl) (fun g63 => ?_) (fun g63 => ?_)
          ·
            refine To.rd rfl rfl rfl (Rd.field rfl rfl fl30_0) ?_
            refine To.rd rfl rfl rfl (Rd.load (i := 2) rfl rfl c3 rfl (box_gives1 rfl)) ?_
            refine To.rd rfl rfl rfl (Rd.move rfl rfl) ?_
            refine To.rd rfl rfl rfl (Rd.rem rfl rfl rfl (by omega) (by omega)) ?_
            refine To.rd rfl rfl rfl (Rd.conv rfl rfl Try.underlying5 Try.underlying3 (IntWalk.i64_in _ (by omega))) ?_
            refine To.rd rfl rfl rfl (Rd.leq rfl rfl rfl) ?_
            refine To.rd rfl rfl rfl (Rd.pickT rfl rfl rfl) ?_
            refine To.rdP rfl rfl rfl (Rd.move rfl rfl) (fun g71 => ?_) (fun g71 => ?_)
            ·
              refine To.rd rfl rfl rfl (Rd.move rfl rfl) ?_
              refine To.rd rfl rfl rfl (Rd.eql rfl rfl rfl) ?_
              refine To.rdP rfl rfl rfl (Rd.move rfl rfl) (fun g74 => ?_) (fun g74 => ?_)
              ·
                refine To.sk rfl rfl rfl ?_
                refine To.sk rfl rfl rfl ?_
                refine To.sk rfl rfl rfl ?_
                refine To.sk rfl rfl rfl ?_
                refine To.rd rfl rfl rfl (Rd.pickT rfl rfl rfl) ?_
                refine To.rd rfl rfl rfl (Rd.pickT rfl rfl rfl) ?_
                refine To.nil (To.thenN ?_)
                refine To.only [3, 3, 3, 3, 3, 3, 3, 3, 2] rfl ?_
                refine To.here true (by rw [itm1] at g63; (try (have g74a : ¬ i = 0 := by omega)); (try (have g74b : i = 0 := by omega)); simp [okY, *]) ⟨rfl, rfl, rfl, rfl, rfl, rfl, rfl, rfl, rfl, rfl, rfl, rfl, rfl, rfl, rfl, rfl, rfl, rfl, rfl, trivial⟩ rfl
              ·
                refine To.rd rfl rfl rfl (Rd.loadS (i := 2) rfl rfl r30 rfl box_whole rfl) ?_
                refine To.rd rfl rfl rfl (Rd.loadS (i := 8) rfl rfl r30 rfl box_whole rfl) ?_
                refine To.callV rfl rfl rfl (Ent.fn rfl rfl ca15) (before_fn y lst) rfl (oks_nil _) ?_
                refine To.rd rfl rfl rfl (Rd.not rfl rfl) ?_
                refine To.rd rfl rfl rfl (Rd.pickF rfl rfl rfl) ?_
                refine To.rd rfl rfl rfl (Rd.pickT rfl rfl rfl) ?_
                refine To.nil (To.thenN ?_)
                refine To.only [3, 3, 3, 3, 3, 3, 3, 3, 2] rfl ?_
                refine To.here (!(bef y lst)) (by rw [itm1] at g63; (try (have g74a : ¬ i = 0 := by omega)); (try (have g74b : i = 0 := by omega)); simp [okY, *]) ⟨rfl, rfl, rfl, rfl, rfl, rfl, rfl, rfl, rfl, rfl, rfl, rfl, rfl, rfl, rfl, rfl, rfl, rfl, rfl, trivial⟩ rfl
            ·
              refine To.sk rfl rfl rfl ?_
              refine To.sk rfl rfl rfl ?_
              refine To.sk rfl rfl rfl ?_
              refine To.sk rfl rfl rfl ?_
              refine To.sk rfl rfl rfl ?_
              refine To.sk rfl rfl rfl ?_
              refine To.sk rfl rfl rfl ?_
              refine To.sk rfl rfl rfl ?_
              refine To.rd rfl rfl rfl (Rd.pickF rfl rfl rfl) ?_
              refine To.nil (To.thenN ?_)
              refine To.only [3, 3, 3, 3, 3, 3, 3, 3, 2] rfl ?_
              refine To.here false (by rw [itm1] at g63; (try (have g74a : ¬ i = 0 := by omega)); (try (have g74b : i = 0 := by omega)); simp [okY, *]) ⟨rfl, rfl, rfl, rfl, rfl, rfl, rfl, rfl, rfl, rfl, rfl, rfl, rfl, rfl, rfl, rfl, rfl, rfl, rfl, trivial⟩ rfl
          ·
            refine To.sk rfl rfl rfl ?_
            refine To.sk rfl rfl rfl ?_
            refine To.sk rfl rfl rfl ?_
            refine To.sk rfl rfl rfl ?_
            refine To.sk rfl rfl rfl ?_
            refine To.sk rfl rfl rfl ?_
            refine To.rd rfl rfl rfl (Rd.pickF rfl rfl rfl) ?_
            refine To.rd rfl rfl rfl (Rd.move rfl rfl) ?_
            refine To.sk rfl rfl rfl ?_
            refine To.sk rfl rfl rfl ?_
            refine To.sk rfl rfl rfl ?_
            refine To.sk rfl rfl rfl ?_
            refine To.sk rfl rfl rfl ?_
            refine To.sk rfl rfl rfl ?_
            refine To.sk rfl rfl rfl ?_
            refine To.sk rfl rfl rfl ?_
            refine To.rd rfl rfl rfl (Rd.pickF rfl rfl rfl) ?_
            refine To.nil (To.thenN ?_)
            refine To.only [3, 3, 3, 3, 3, 3, 3, 3, 2] rfl ?_
            refine To.here false (by rw [itm1] at g63; (try (have g74a : ¬ i = 0 := by omega)); (try (have g74b : i = 0 := by omega)); simp [okY, *]) ⟨rfl, rfl, rfl, rfl, rfl, rfl, rfl, rfl, rfl, rfl, rfl, rfl, rfl, rfl, rfl, rfl, rfl, rfl, rfl, trivial⟩ rfl
        show To _ [(1, .int .u8 tick), (5, .pointer (some ⟨a, 0, none⟩)), (6, .slice A5 l.length q5), (7, .int .i64 ((n + i : Nat) : Int)), (8, .int .i64 ((c : Nat) : Int)), (23, .int .i64 ((c : Nat) : Int)), (9, .pointer (some ⟨b9, 0, none⟩)), (10, .int .i64 ((i : Nat) : Int)), (11, .pointer (some ⟨b11, 0, none⟩)), (12, .bool false), (13, .pointer (some ⟨b13, 0, none⟩)), (31, .slice Am M.length qm), (32, .int .i64 ((M.length : Nat) : Int)), (33, .int .i64 ((i : Nat) : Int)), (52, .slice A5 l.length q5), (53, .int .i64 ((l.length : Nat) : Int)), (54, .int .i64 ((j : Nat) : Int)), (15, .pointer (some ⟨b15, 0, none⟩)), (80, .bool t)] [agc a v1 (L.filter fun x => !inTake ((c : Nat) : Int) (tick % 14) x), rows En.rcells 30 8 A5 q5 l, argsS (l.map En.ar), rows En.icells 35 7 Am qm M, argsO M, box b9 [.int .i64 lst.t, .int .i64 lst.s, .int .i64 lst.c, .int .i64 lst.p, .int .i64 lst.n, .int .i64 lst.k, .int .i64 lst.h, .slice lst.A lst.args.length lst.cap] 30, box b11 [.int .u8 x.s, .int .i64 x.c, .int .i64 x.p, .int .i64 x.n, .int .i64 x.k, .int .i64 x.h, .slice x.A x.args.length x.cap] 35, box b13 [.int .i64 0, .int .i64 x.s, .int .i64 x.c, .int .i64 x.p, .int .i64 x.n, .int .i64 x.k, .int .i64 x.h, .slice none 0 0] 30, box b15 [.int .i64 y.t, .int .i64 y.s, .int .i64 y.c, .int .i64 y.p, .int .i64 y.n, .int .i64 y.k, .int .i64 y.h, .slice y.A y.args.length y.cap] 30] _
        refine To.cond rfl (fun c80 => ?_) (fun c80 => ?_)
        ·
          refine To.seq ?_
          refine To.flow [box b15 [.int .i64 y.t, .int .i64 y.s, .int .i64 y.c, .int .i64 y.p, .int .i64 y.n, .int .i64 y.k, .int .i64 y.h, .slice y.A y.args.length y.cap] 30] [⟨0, [], 0⟩, ⟨2, [], 0⟩, ⟨1, [], 1⟩, ⟨3, [], 0⟩, ⟨4, [], 5⟩] mixed (by kernel_rfl) (oks_cons (oks_at 8 rfl) (oks_nil _)) ?_
          refine FlowS.free rfl rfl rfl rfl (Rd.field rfl rfl fl30_0) ?_
          refine FlowS.free rfl rfl rfl rfl (Rd.assign rfl rfl) ?_
          refine FlowS.rd rfl rfl rfl rfl (Rd.load (i := 8) rfl rfl c3 rfl (box_gives1 rfl)) ?_
          refine FlowS.free rfl rfl rfl rfl (Rd.field rfl rfl fl30_0) ?_
          refine FlowS.up (Γ' := [agc a v1 (L.filter fun x => !inTake ((c : Nat) : Int) (tick % 14) x), rows En.rcells 30 8 A5 q5 l, argsS (l.map En.ar), rows En.icells 35 7 Am qm M, argsO M, box b9 [.int .i64 lst.t, .int .i64 lst.s, .int .i64 lst.c, .int .i64 lst.p, .int .i64 lst.n, .int .i64 lst.k, .int .i64 lst.h, .slice lst.A lst.args.length lst.cap] 30, box b11 [.int .u8 x.s, .int .i64 x.c, .int .i64 x.p, .int .i64 x.n, .int .i64 x.k, .int .i64 x.h, .slice x.A x.args.length x.cap] 35, box b13 [.int .i64 y.t, .int .i64 x.s, .int .i64 x.c, .int .i64 x.p, .int .i64 x.n, .int .i64 x.k, .int .i64 x.h, .slice none 0 0] 30, box b15 [.int .i64 y.t, .int .i64 y.s, .int .i64 y.c, .int .i64 y.p, .int .i64 y.n, .int .i64 y.k, .int .i64 y.h, .slice y.A y.args.length y.cap] 30]) rfl rfl rfl (Up.store (i := 7) rfl rfl rfl c3 rfl rfl (box_takes1 rfl)) (oks_cons (oks_at 8 rfl) (oks_nil _)) ?_
          refine FlowS.fin ?_
          refine To.as [agc a v1 (L.filter fun x => !inTake ((c : Nat) : Int) (tick % 14) x), rows En.rcells 30 8 A5 q5 l, argsS (l.map En.ar), rows En.icells 35 7 Am qm M, argsO M, box b9 [.int .i64 lst.t, .int .i64 lst.s, .int .i64 lst.c, .int .i64 lst.p, .int .i64 lst.n, .int .i64 lst.k, .int .i64 lst.h, .slice lst.A lst.args.length lst.cap] 30, box b11 [.int .u8 x.s, .int .i64 x.c, .int .i64 x.p, .int .i64 x.n, .int .i64 x.k, .int .i64 x.h, .slice x.A x.args.length x.cap] 35, box b13 [.int .i64 y.t, .int .i64 x.s, .int .i64 x.c, .int .i64 x.p, .int .i64 x.n, .int .i64 x.k, .int .i64 x.h, .slice none 0 0] 30, box b15 [.int .i64 y.t, .int .i64 y.s, .int .i64 y.c, .int .i64 y.p, .int .i64 y.n, .int .i64 y.k, .int .i64 y.h, .slice y.A y.args.length y.cap] 30] rfl ?_
          refine To.thenN ?_
          refine To.exit ?_
          refine To.blockY rfl ?_
          refine To.thenX ?_
          refine To.thenX ?_
          refine To.blockX ?_
          refine To.thenN ?_
          refine To.seq ?_
          refine To.seq ?_
          refine To.reg ?_
          refine To.rd rfl rfl rfl (Rd.move rfl rfl) ?_
          refine To.rd rfl rfl rfl (Rd.not rfl rfl) ?_
          refine To.rd rfl rfl rfl (Rd.move rfl rfl) ?_
          refine To.rd rfl rfl rfl (Rd.field rfl rfl fl35_1) ?_
          refine To.rd rfl rfl rfl (Rd.load (i := 6) rfl rfl c3 rfl (box_gives1 rfl)) ?_
          refine To.rd rfl rfl rfl (Rd.move rfl rfl) ?_
          refine To.rd rfl rfl rfl (Rd.neq rfl rfl rfl) ?_
          refine To.rd rfl rfl rfl (Rd.pickF rfl rfl rfl) ?_
          refine To.nil ?_
          refine To.thenN ?_
          refine To.condP rfl (fun c92 => ?_) (fun c92 => ?_)
          ·
            exact absurd hcx c92
          ·
            refine To.skip ?_
            refine To.thenN ?_
            refine To.seq ?_
            refine To.reg ?_
            refine To.rd rfl rfl rfl (Rd.loadS (i := 7) rfl rfl r30 rfl box_whole rfl) ?_
            refine To.up rfl rfl (Up.storeS (i := 5) rfl rfl rfl r30 rfl rfl rfl (box_takesAll rfl)) ?_
            refine To.nil ?_
            refine To.thenN ?_
            refine To.reg ?_
            refine To.rd rfl rfl rfl (Rd.move rfl rfl) ?_
            refine To.rd rfl rfl rfl (Rd.inc rfl rfl rfl (by omega)) ?_
            refine To.rd rfl rfl rfl (Rd.assign rfl rfl) ?_
            refine To.nil ?_
            refine To.blockN ?_
            refine To.thenN ?_
            refine To.reg ?_
            refine To.rd rfl rfl rfl (Rd.inc rfl rfl rfl (by omega)) ?_
            refine To.rd rfl rfl rfl (Rd.move rfl rfl) ?_
            refine To.nil ?_
            refine To.thenN ?_
            refine To.sub [(1, .int .u8 tick), (5, .pointer (some ⟨a, 0, none⟩)), (6, .slice A5 l.length q5), (7, .int .i64 ((n + (i + 1) : Nat) : Int)), (8, .int .i64 ((c : Nat) : Int)), (23, .int .i64 ((c : Nat) : Int)), (9, .pointer (some ⟨b9, 0, none⟩)), (31, .slice Am M.length qm), (32, .int .i64 ((M.length : Nat) : Int)), (33, .int .i64 (((i + 1) : Nat) : Int))] ⟨rfl, rfl, rfl, rfl, rfl, rfl, rfl, rfl, rfl, rfl, trivial⟩ ?_
            refine To.only [0, 0, 0, 0, 0, 0] rfl ?_
            refine To.as [agc a v1 (L.filter fun x => !inTake ((c : Nat) : Int) (tick % 14) x), rows En.rcells 30 8 A5 q5 l, argsS (l.map En.ar), rows En.icells 35 7 Am qm M, argsO M, box b9 [.int .i64 (En.mk y.t x.s x.c x.p x.n x.k x.h [] none 0).t, .int .i64 (En.mk y.t x.s x.c x.p x.n x.k x.h [] none 0).s, .int .i64 (En.mk y.t x.s x.c x.p x.n x.k x.h [] none 0).c, .int .i64 (En.mk y.t x.s x.c x.p x.n x.k x.h [] none 0).p, .int .i64 (En.mk y.t x.s x.c x.p x.n x.k x.h [] none 0).n, .int .i64 (En.mk y.t x.s x.c x.p x.n x.k x.h [] none 0).k, .int .i64 (En.mk y.t x.s x.c x.p x.n x.k x.h [] none 0).h, .slice (En.mk y.t x.s x.c x.p x.n x.k x.h [] none 0).A (En.mk y.t x.s x.c x.p x.n x.k x.h [] none 0).args.length (En.mk y.t x.s x.c x.p x.n x.k x.h [] none 0).cap] 30] rfl ?_
            refine To.again (M.length - (i + 1)) (by omega) ⟨i + 1, (En.mk y.t x.s x.c x.p x.n x.k x.h [] none 0), rfl, rfl, rfl, (by omega), (last_step hT hF.same.sl hx hlst hy hno)⟩
        ·
          refine To.skip ?_
          refine To.blockN ?_
          refine To.thenN ?_
          refine To.reg ?_
          refine To.rd rfl rfl rfl (Rd.inc rfl rfl rfl (by omega)) ?_
          refine To.rd rfl rfl rfl (Rd.move rfl rfl) ?_
          refine To.nil ?_
          refine To.thenN ?_
          refine To.sub [(1, .int .u8 tick), (5, .pointer (some ⟨a, 0, none⟩)), (6, .slice A5 l.length q5), (7, .int .i64 ((n + i : Nat) : Int)), (8, .int .i64 ((c : Nat) : Int)), (23, .int .i64 ((c : Nat) : Int)), (9, .pointer (some ⟨b9, 0, none⟩)), (10, .int .i64 ((i : Nat) : Int)), (11, .pointer (some ⟨b11, 0, none⟩)), (12, .bool false), (13, .pointer (some ⟨b13, 0, none⟩)), (31, .slice Am M.length qm), (32, .int .i64 ((M.length : Nat) : Int)), (33, .int .i64 ((i : Nat) : Int)), (52, .slice A5 l.length q5), (53, .int .i64 ((l.length : Nat) : Int)), (54, .int .i64 (((j + 1) : Nat) : Int))] ⟨rfl, rfl, rfl, rfl, rfl, rfl, rfl, rfl, rfl, rfl, rfl, rfl, rfl, rfl, rfl, rfl, rfl, trivial⟩ ?_
          refine To.only [0, 0, 0, 0, 0, 0, 0, 0] rfl ?_
          refine To.again (l.length - (j + 1)) (by omega) ⟨j + 1, rfl, rfl, rfl, (by omega), (no_step hy hno (by rw [← ht]; exact c80))⟩
      ·
        obtain ⟨z, hz, _, hok⟩ := found hT hx hlst
        obtain ⟨k, hk⟩ := List.getElem?_of_mem hz
        have hkl := (List.getElem?_eq_some_iff.1 hk).1
        have := hno k (by omega) z hk
        rw [hok] at this; cases this
    ·
      obtain rfl : i = M.length := by omega
      refine To.exit ?_
      refine To.thenX ?_
      refine To.thenX ?_
      refine To.blockX ?_
      refine To.blockN ?_
      refine To.thenN ?_
      refine To.reg ?_
      refine To.rd rfl rfl rfl (Rd.inc rfl rfl rfl (by omega)) ?_
      refine To.rd rfl rfl rfl (Rd.move rfl rfl) ?_
      refine To.nil ?_
      refine To.thenN ?_
      refine To.sub [(1, .int .u8 tick), (5, .pointer (some ⟨a, 0, none⟩)), (6, .slice A5 l.length q5), (7, .int .i64 (((n + M.length) : Nat) : Int)), (23, .int .i64 (((c + 1) : Nat) : Int))] ⟨rfl, rfl, rfl, rfl, rfl, trivial⟩ ?_
      refine To.only [0, 0, 0] rfl ?_
      refine To.again (3 - (c + 1)) (by omega) ⟨c + 1, n + M.length, v1, L.filter fun x => !inTake ((c : Nat) : Int) (tick % 14) x, rfl, rfl, rfl, (by omega), (hL.rest hM)⟩
  ·
    have hcnt := hL.count
    have hfl := hF.len
    refine To.exit ?_
    refine To.thenX ?_
    refine To.thenX ?_
    refine To.blockX ?_
    refine To.thenN ?_
    refine To.seq ?_
    refine To.reg ?_
    refine To.rd rfl rfl rfl (Rd.move rfl rfl) ?_
    refine To.call [0] rfl rfl rfl (Ent.fn rfl rfl ca16) rfl (len_fn a v L) ?_
    rintro _ _ ⟨rfl, rfl⟩
    refine To.as [agc a v L, rows En.rcells 30 8 A5 q5 l, argsS (l.map En.ar)] rfl ?_
    refine To.rd rfl rfl rfl (Rd.move rfl rfl) ?_
    refine To.rd rfl rfl rfl (Rd.add64 rfl rfl rfl (by omega)) ?_
    refine To.rd rfl rfl rfl (Rd.move rfl rfl) ?_
    refine To.rd rfl rfl rfl (Rd.len rfl rfl Try.underlying25) ?_
    refine To.rd rfl rfl rfl (Rd.eql rfl rfl rfl) ?_
    refine To.rd rfl rfl rfl (Rd.assign rfl rfl) ?_
    refine To.nil ?_
    refine To.thenN ?_
    refine To.ret ?_
    refine To.end1 (.inl rfl) Try.results3 rfl ?_
    have := hL.count
    obtain rfl : c = 3 := by omega
    rw [decide_eq_true (by omega)]
end Go.Proofs.Ytnamppkicefbjaa
