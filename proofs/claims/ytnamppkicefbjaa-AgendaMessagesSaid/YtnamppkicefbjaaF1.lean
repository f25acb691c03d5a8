/- The walks of fill and same. Own text (walks printed by sx.py). -/
import Derived.Test.YtnamppkicefbjaaM1
namespace Go.Proofs.Ytnamppkicefbjaa
open Go.RowKit Go.Flow Go.Mem Go.Sep
/-- Lists of arguments that only are read. -/
def argsS (l : List (Option Addr × List Int)) : Chunk where
  owns := []
  reads := l.flatMap fun p => rblks p.1 (ints p.2)
  holds w := ∀ p ∈ l, Src w p.1 (ints p.2)
  loc w w' h hw p hp := (ro p.1 (ints p.2)).loc w w' (fun g hg => h g (.inr (List.mem_flatMap.2 ⟨p, hp, by simpa [ro] using hg⟩))) (hw p hp)
  lt w hw g hg := by
    simp only [List.not_mem_nil, false_or] at hg
    obtain ⟨p, hp, hg⟩ := List.mem_flatMap.1 hg
    exact (ro p.1 (ints p.2)).lt w (hw p hp) g (.inr hg)
def Opr.ar (o : Opr) : Option Addr × List Int := (o.A, o.args)
def En.ar (e : En) : Option Addr × List Int := (e.A, e.args)
theorem oks_S {Γ : List Chunk} {l : List (Option Addr × List Int)} (i : Nat) (h : Γ[i]? = some (argsS l)) {A : Option Addr} {xs : List Int} (hp : (A, xs) ∈ l) : ∀ w, oks Γ w → (ro A (ints xs)).holds w := fun w hw => hw _ (List.mem_of_getElem? h) _ hp
theorem oks_Sr {Γ : List Chunk} {l : List (Option Addr × List Int)} (i : Nat) (h : Γ[i]? = some (argsS l)) {A : Option Addr} {xs : List Int} (hp : (A, xs) ∈ l) : ∀ w, oks Γ w → (ros encI A xs).holds w := fun w hw => by
  have := oks_S i h hp w hw
  rw [← ints_flat] at this; exact this
theorem mem_at {α β : Type} {l : List α} {i : Nat} {y : α} (h : l[i]? = some y) (f : α → β) : f y ∈ l.map f := List.mem_map.2 ⟨y, List.mem_of_getElem? h, rfl⟩
theorem addE_fn (a : Nat) (v : Value) (L : List En) (x : En) (hlen : L.length ≤ 100000000) (hal : x.args.length ≤ 1000000000000) :
    Does Try.prog 18 [.pointer (some ⟨a, 0, none⟩), .int .i64 x.t, .agg x.icells.toArray] [agc a v L, ro x.A (ints x.args)] (fun u Γ' => ∃ L' v', u = .int .i64 (errE x.t x.s x.c x.p x.n x.k x.h) ∧ Γ' = [agc a v' L'] ∧ (errE x.t x.s x.c x.p x.n x.k x.h = 0 → ∃ A cap, L' = insE { x with A := A, cap := cap } L) ∧ (errE x.t x.s x.c x.p x.n x.k x.h ≠ 0 → L' = L)) := by
  cases hv : validE x.t x.s x.c x.p x.n x.k x.h with
  | true =>
    have he : errE x.t x.s x.c x.p x.n x.k x.h = 0 := by unfold errE; rw [hv]; rfl
    refine (add_fn a v L x hlen hal hv).mono ?_
    rintro u Γ' ⟨A, cap, v', rfl, rfl⟩
    exact ⟨_, v', by rw [he], rfl, fun _ => ⟨A, cap, rfl⟩, fun h => (h he).elim⟩
  | false =>
    have he : errE x.t x.s x.c x.p x.n x.k x.h = 1 := by unfold errE; rw [hv]; rfl
    intro w hs
    refine (add_no a _ _ _ _ _ _ _ x.A x.args.length x.cap w hv).mono ?_
    rintro e w' ⟨rfl, hx⟩
    exact ⟨_, _, rfl, ⟨L, v, by rw [he], rfl, fun h => by rw [he] at h; omega, fun _ => rfl⟩, ((Post.refl hs).ext hx).perm (List.Perm.refl _) |>.drop (Γ' := [agc a v L])⟩
theorem valid_good {x : En} (h : errE x.t x.s x.c x.p x.n x.k x.h = 0) : Good x := by
  unfold errE validE at h
  unfold Good
  split at h
  · rename_i h1; simp only [decide_eq_true_eq] at h1; omega
  · omega
theorem mS_range {s : Int} (h : 0 ≤ s ∧ s < 256) : 0 ≤ mS s ∧ mS s < 256 := by unfold mS; split <;> omega
/-- What fill has laid so far. -/
structure Filled (L l : List En) (n : Nat) : Prop where
  same : Same L l
  len : l.length ≤ n
  argsL : ∀ e ∈ L, e.args.length ≤ 4
  argsl : ∀ e ∈ l, e.args.length ≤ 4
  rng : ∀ e ∈ L, 0 ≤ e.t ∧ e.t ≤ 11 ∧ 0 ≤ e.c ∧ e.c ≤ 2
theorem Filled.lenL {L l : List En} {n : Nat} (h : Filled L l n) : L.length ≤ n := by rw [h.same.len]; exact h.len
theorem Filled.add {L l : List En} {n : Nat} {x x' : En} (h : Filled L l n) (hg : Good x) (hb : x'.bare = x.bare) (ha : x.args.length ≤ 4) (hr : 0 ≤ x.t ∧ x.t ≤ 11 ∧ 0 ≤ x.c ∧ x.c ≤ 2) : Filled (insE x' L) (insW x l) (n + 1) := by
  refine ⟨h.same.add hg hb, ?_, fun e he => ?_, fun e he => ?_, fun e he => ?_⟩
  · rw [(insW_perm x l).length_eq]; simp; exact h.len
  · rcases List.mem_cons.1 ((insE_perm x' L).mem_iff.1 he) with rfl | h1
    · have : e.args = x.args := (congrArg En.args hb : e.bare.args = x.bare.args)
      rw [this]; exact ha
    · exact h.argsL e h1
  · rcases List.mem_cons.1 ((insW_perm x l).mem_iff.1 he) with rfl | h1
    · exact ha
    · exact h.argsl e h1
  · rcases List.mem_cons.1 ((insE_perm x' L).mem_iff.1 he) with rfl | h1
    · have h2 : e.t = x.t := (congrArg En.t hb : e.bare.t = x.bare.t)
      have h3 : e.c = x.c := (congrArg En.c hb : e.bare.c = x.bare.c)
      rw [h2, h3]; exact hr
    · exact h.rng e h1
theorem Filled.up {L l : List En} {n : Nat} (h : Filled L l n) : Filled L l (n + 1) := ⟨h.same, Nat.le_succ_of_le h.len, h.argsL, h.argsl, h.rng⟩
theorem argsS_ins {Γ : List Chunk} {x : En} {l : List En} (i j : Nat) (hi : Γ[i]? = some (ro x.A (ints x.args))) (hj : Γ[j]? = some (argsS (l.map En.ar))) : (∀ w, oks Γ w → (argsS ((insW x l).map En.ar)).holds w) ∧ ∀ g ∈ (argsS ((insW x l).map En.ar)).reads, g ∈ reads Γ := by
  constructor
  · intro w hw p hp
    obtain ⟨e, he, rfl⟩ := List.mem_map.1 hp
    rcases List.mem_cons.1 ((insW_perm x l).mem_iff.1 he) with rfl | h
    · exact hw _ (List.mem_of_getElem? hi)
    · exact hw _ (List.mem_of_getElem? hj) _ (List.mem_map.2 ⟨e, h, rfl⟩)
  · intro g hg
    obtain ⟨p, hp, hg2⟩ := List.mem_flatMap.1 hg
    obtain ⟨e, he, rfl⟩ := List.mem_map.1 hp
    rcases List.mem_cons.1 ((insW_perm x l).mem_iff.1 he) with rfl | h
    · exact reads_at i hi hg2
    · exact reads_at j hj (List.mem_flatMap.2 ⟨_, List.mem_map.2 ⟨e, h, rfl⟩, hg2⟩)
set_option maxHeartbeats 2000000 in
set_option maxRecDepth 100000 in
theorem fill_fn (A : Option Addr) (cap : Nat) (ops : List Opr) (hok : ∀ o ∈ ops, o.ok) (hlo : ops.length ≤ 9223372036854775807) :
    Does Try.prog 12 [.slice A ops.length cap] [ros Opr.cells A ops, argsS (ops.map Opr.ar)] (fun u Γ' => ∃ a v L l A5 q5, u = .tuple #[.pointer (some ⟨a, 0, none⟩), .slice A5 l.length q5] ∧ Γ' = [agc a v L, rows En.rcells 30 8 A5 q5 l, argsS (l.map En.ar)] ∧ Filled L l 40) := by
  refine Does.enter Try.func12 rfl Try.ntmps12 rfl (fun w0 => ?_)
  refine To.seq ?_
  refine To.reg ?_
  refine To.rd rfl rfl rfl (Rd.assign rfl rfl) ?_
  refine To.rd rfl rfl rfl (Rd.assign rfl rfl) ?_
  refine To.nil ?_
  refine To.thenN ?_
  refine To.seq ?_
  refine To.reg ?_
  refine To.callQ rfl rfl rfl (Ent.fn rfl rfl ca17) (new_fn) rfl (oks_nil _) ?_
  rintro _ _ ⟨a, rfl, rfl⟩
  refine ⟨rfl, ?_⟩
  refine To.as [agc a (.slice none 0 0) [], ros Opr.cells A ops, argsS (ops.map Opr.ar)] rfl ?_
  refine To.rd rfl rfl rfl (Rd.assign rfl rfl) ?_
  refine To.nil ?_
  refine To.thenN ?_
  refine To.seq ?_
  refine To.reg ?_
  refine To.rd rfl rfl rfl (Rd.assign rfl rfl) ?_
  refine To.nil ?_
  refine To.thenN ?_
  refine To.seq ?_
  refine To.seq ?_
  refine To.nilRow En.rcells 30 8 ?_
  refine To.free (c := argsS (([] : List En).map En.ar)) rfl rfl (fun w p hp => by simp at hp) ?_
  refine To.reg ?_
  refine To.rd rfl rfl rfl (Rd.move rfl rfl) ?_
  refine To.rd rfl rfl rfl (Rd.len rfl rfl Try.underlying22) ?_
  refine To.rd rfl rfl rfl (Rd.move rfl rfl) ?_
  refine To.nil ?_
  refine To.thenN ?_
  refine To.block ?_
  refine To.sub [(4, .pointer (some ⟨a, 0, none⟩)), (5, .slice none ([] : List En).length 0), (10, .slice A ops.length cap), (11, .int .i64 ((ops.length : Nat) : Int)), (12, .int .i64 ((0 : Nat) : Int))] ⟨rfl, rfl, rfl, rfl, rfl, trivial⟩ ?_
  refine To.only [2, 1, 0, 0, 0] rfl ?_
  refine To.loop (fun m ρ Γ => ∃ (i : Nat) (L : List En) (l : List En) (v : Value) (A5 : Option Addr) (q5 : Nat), ρ = [(4, .pointer (some ⟨a, 0, none⟩)), (5, .slice A5 l.length q5), (10, .slice A ops.length cap), (11, .int .i64 ((ops.length : Nat) : Int)), (12, .int .i64 ((i : Nat) : Int))] ∧ Γ = [agc a v L, rows En.rcells 30 8 A5 q5 l, argsS (l.map En.ar), ros Opr.cells A ops, argsS (ops.map Opr.ar)] ∧ m = ops.length - i ∧ (i ≤ ops.length) ∧ (i ≤ 40) ∧ (Filled L l i)) (ops.length - 0) ⟨0, ([] : List En), ([] : List En), .slice none 0 0, none, 0, rfl, rfl, rfl, (Nat.zero_le _), (Nat.zero_le _), ⟨Same.nil, by simp, by simp, by simp, by simp⟩⟩ ?_
  rintro m _ _ ⟨i, L, l, v, A5, q5, rfl, rfl, rfl, hi, h40, hF⟩
  refine To.seq ?_
  refine To.reg ?_
  refine To.rd rfl rfl rfl (Rd.lss rfl rfl rfl) ?_
  refine To.nil ?_
  refine To.thenN ?_
  refine To.seq ?_
  refine To.condP rfl (fun c13 => ?_) (fun c13 => ?_)
  ·
    obtain ⟨o, hy⟩ : ∃ y, ops[i]? = some y := ⟨ops[i]'(by omega), List.getElem?_eq_getElem _⟩
    have hoo := hok o (List.mem_of_getElem? hy)
    refine To.skip ?_
    refine To.thenN ?_
    refine To.seq ?_
    refine To.block ?_
    refine To.seq ?_
    refine To.reg ?_
    refine To.rd rfl rfl rfl (Rd.move rfl rfl) ?_
    refine To.rd rfl rfl rfl (Rd.indexRos encO (i := 3) (j := i) rfl rfl rfl s22 rfl hy) ?_
    refine To.rd rfl rfl rfl (Rd.loadS (i := 3) rfl rfl r56 rfl (ros_gives encO hy) (encO.len _)) ?_
    refine To.alloc rfl rfl rfl rfl z56 (fun b7 => ?_)
    refine To.rd rfl rfl rfl (Rd.assign rfl rfl) ?_
    refine To.up rfl rfl (Up.storeS (i := 0) rfl rfl rfl r56 rfl rfl rfl (box_takesAll rfl)) ?_
    refine To.nil ?_
    refine To.thenN ?_
    refine To.seq ?_
    refine To.seq ?_
    refine To.reg ?_
    refine To.rd rfl rfl rfl (Rd.move rfl rfl) ?_
    refine To.rd rfl rfl rfl (Rd.eql rfl rfl rfl) ?_
    refine To.nil ?_
    refine To.thenN ?_
    refine To.condP rfl (fun c18 => ?_) (fun c18 => ?_)
    ·
      refine To.exit ?_
      refine To.thenX ?_
      refine To.blockY rfl ?_
      refine To.thenX ?_
      refine To.thenX ?_
      refine To.blockX ?_
      refine To.thenN ?_
      refine To.seq ?_
      refine To.reg ?_
      refine To.rd rfl rfl rfl (Rd.move rfl rfl) ?_
      refine To.rd rfl rfl rfl (Rd.move rfl rfl) ?_
      refine To.rd rfl rfl rfl (Rd.assign rfl rfl) ?_
      refine To.rd rfl rfl rfl (Rd.assign rfl rfl) ?_
      refine To.nil ?_
      refine To.thenN ?_
      refine To.ret ?_
      refine To.only [1, 1, 1] rfl ?_
      refine To.end2 (.inl rfl) Try.results12 rfl rfl ?_
      exact ⟨a, v, L, l, A5, q5, rfl, rfl, ⟨hF.same, by have := hF.len; omega, hF.argsL, hF.argsl, hF.rng⟩⟩
    ·
      refine To.skip ?_
      refine To.thenN ?_
      refine To.seq ?_
      refine To.reg ?_
      refine To.rd rfl rfl rfl (Rd.loadS (i := 0) rfl rfl r56 rfl box_whole rfl) ?_
      refine To.callQ rfl rfl rfl (Ent.fn rfl rfl ca31) (made_fn o (hok o (List.mem_of_getElem? hy))) rfl (oks_cons (oks_Sr 5 rfl (mem_at hy Opr.ar)) (oks_nil _)) ?_
      rintro _ _ ⟨A1, q1, rfl, rfl⟩
      refine ⟨rfl, ?_⟩
      refine To.as [rows encI 2 1 A1 q1 (o.args.take 4), box b7 [.int .u8 o.dd, .int .u8 o.src, .int .u8 o.tick, .int .u8 o.cm, .int .i8 o.p, .int .i8 o.n, .int .i8 o.k, .int .i8 o.h, .slice o.A o.args.length o.cap] 56, agc a v L, rows En.rcells 30 8 A5 q5 l, argsS (l.map En.ar), ros Opr.cells A ops, argsS (ops.map Opr.ar)] rfl ?_
      refine To.alloc rfl rfl rfl rfl z30 (fun b8 => ?_)
      refine To.up rfl rfl (Up.storeS (i := 0) rfl rfl rfl r30 rfl rfl rfl (box_takesAll rfl)) ?_
      refine To.nil ?_
      refine To.thenN ?_
      refine To.seq ?_
      refine To.front 1 rfl ?_
      refine To.layRow ?_
      refine To.as [ro A1 (ints (o.en A1 q1).args), box b8 [.int .i64 ((o.en A1 q1).t), .int .i64 ((o.en A1 q1).s), .int .i64 ((o.en A1 q1).c), .int .i64 ((o.en A1 q1).p), .int .i64 ((o.en A1 q1).n), .int .i64 ((o.en A1 q1).k), .int .i64 ((o.en A1 q1).h), .slice ((o.en A1 q1).A) ((o.en A1 q1).args.length) ((o.en A1 q1).cap)] 30, box b7 [.int .u8 o.dd, .int .u8 o.src, .int .u8 o.tick, .int .u8 o.cm, .int .i8 o.p, .int .i8 o.n, .int .i8 o.k, .int .i8 o.h, .slice o.A o.args.length o.cap] 56, agc a v L, rows En.rcells 30 8 A5 q5 l, argsS (l.map En.ar), ros Opr.cells A ops, argsS (ops.map Opr.ar)] (by rw [ros, ints_flat]; rfl) ?_
      refine To.dup 0 rfl rfl ?_
      refine To.flow [] [⟨0, [], 0⟩, ⟨1, [], 0⟩, ⟨3, [], 1⟩, ⟨4, [], 3⟩, ⟨2, [], 1⟩, ⟨5, [], 5⟩, ⟨6, [], 0⟩] mixed (by kernel_rfl) (oks_nil _) ?_
      refine FlowS.free rfl rfl rfl rfl (Rd.move rfl rfl) ?_
      refine FlowS.free rfl rfl rfl rfl (Rd.field rfl rfl fl30_0) ?_
      refine FlowS.rd rfl rfl rfl rfl (Rd.loadS (i := 2) rfl rfl r30 rfl box_whole rfl) ?_
      refine FlowS.callQ rfl rfl rfl rfl (Ent.fn rfl rfl ca24) (item_fn (o.en A1 q1) (mS_range hoo.h1)) rfl (oks_nil _) ?_
      refine FlowS.rd rfl rfl rfl rfl (Rd.load (i := 2) rfl rfl c3 rfl (box_gives1 rfl)) ?_
      refine FlowS.call [4, 0] rfl rfl rfl rfl (Ent.fn rfl rfl ca18) rfl (addE_fn a v L (o.en A1 q1) (by have := hF.lenL; omega) (by show (o.args.take 4).length ≤ _; simp; omega)) ?_
      rintro _ _ ⟨L2, v2, rfl, rfl, hyes, hno⟩
      refine ⟨oks_nil _, ?_⟩
      refine FlowS.free rfl rfl rfl rfl (Rd.eql rfl rfl rfl) ?_
      refine FlowS.fin ?_
      refine To.as [agc a v2 L2, ro A1 (ints (o.en A1 q1).args), box b8 [.int .i64 ((o.en A1 q1).t), .int .i64 ((o.en A1 q1).s), .int .i64 ((o.en A1 q1).c), .int .i64 ((o.en A1 q1).p), .int .i64 ((o.en A1 q1).n), .int .i64 ((o.en A1 q1).k), .int .i64 ((o.en A1 q1).h), .slice ((o.en A1 q1).A) ((o.en A1 q1).args.length) ((o.en A1 q1).cap)] 30, box b7 [.int .u8 o.dd, .int .u8 o.src, .int .u8 o.tick, .int .u8 o.cm, .int .i8 o.p, .int .i8 o.n, .int .i8 o.k, .int .i8 o.h, .slice o.A o.args.length o.cap] 56, rows En.rcells 30 8 A5 q5 l, argsS (l.map En.ar), ros Opr.cells A ops, argsS (ops.map Opr.ar)] rfl ?_
      refine To.thenN ?_
      refine To.condP rfl (fun c27 => ?_) (fun c27 => ?_)
      ·
        have hF2 : Filled L2 (insW (o.en A1 q1) l) (i + 1) := by
          obtain ⟨A, cap, rfl⟩ := hyes c27
          exact hF.add (valid_good c27) rfl (List.length_take_le _ _) (by have := hoo.h2; have := hoo.h3; show 0 ≤ o.tick % 12 ∧ o.tick % 12 ≤ 11 ∧ 0 ≤ o.cm % 3 ∧ o.cm % 3 ≤ 2; omega)
        refine To.reg ?_
        refine To.rd rfl rfl rfl (Rd.move rfl rfl) ?_
        refine To.rd rfl rfl rfl (Rd.loadS (i := 2) rfl rfl r30 rfl box_whole rfl) ?_
        refine To.callQ rfl rfl rfl (Ent.fn rfl rfl ca32) (radd_fn A5 q5 l (o.en A1 q1) (by have := hF.len; omega)) rfl (oks_cons (oks_row 4 rfl) (oks_nil _)) ?_
        rintro _ _ ⟨A6, q6, rfl, rfl⟩
        refine ⟨rfl, ?_⟩
        refine To.as [rows En.rcells 30 8 A6 q6 (insW (o.en A1 q1) l), agc a v2 L2, ro A1 (ints (o.en A1 q1).args), box b8 [.int .i64 ((o.en A1 q1).t), .int .i64 ((o.en A1 q1).s), .int .i64 ((o.en A1 q1).c), .int .i64 ((o.en A1 q1).p), .int .i64 ((o.en A1 q1).n), .int .i64 ((o.en A1 q1).k), .int .i64 ((o.en A1 q1).h), .slice ((o.en A1 q1).A) ((o.en A1 q1).args.length) ((o.en A1 q1).cap)] 30, box b7 [.int .u8 o.dd, .int .u8 o.src, .int .u8 o.tick, .int .u8 o.cm, .int .i8 o.p, .int .i8 o.n, .int .i8 o.k, .int .i8 o.h, .slice o.A o.args.length o.cap] 56, rows En.rcells 30 8 A5 q5 l, argsS (l.map En.ar), ros Opr.cells A ops, argsS (ops.map Opr.ar)] rfl ?_
        refine To.rd rfl rfl rfl (Rd.assign rfl rfl) ?_
        refine To.nil ?_
        refine To.blockN ?_
        refine To.thenN ?_
        refine To.reg ?_
        refine To.rd rfl rfl rfl (Rd.inc rfl rfl rfl (by omega)) ?_
        refine To.rd rfl rfl rfl (Rd.move rfl rfl) ?_
        refine To.nil ?_
        refine To.thenN ?_
        refine To.derive (argsS ((insW (o.en A1 q1) l).map En.ar)) rfl (argsS_ins 2 6 rfl rfl).2 (argsS_ins 2 6 rfl rfl).1 ?_
        refine To.sub [(4, .pointer (some ⟨a, 0, none⟩)), (5, .slice A6 (insW (o.en A1 q1) l).length q6), (10, .slice A ops.length cap), (11, .int .i64 ((ops.length : Nat) : Int)), (12, .int .i64 (((i + 1) : Nat) : Int))] ⟨rfl, rfl, rfl, rfl, rfl, trivial⟩ ?_
        refine To.only [2, 1, 0, 5, 5] rfl ?_
        refine To.again (ops.length - (i + 1)) (by omega) ⟨i + 1, L2, insW (o.en A1 q1) l, v2, A6, q6, rfl, rfl, rfl, (by omega), (by omega), hF2⟩
      ·
        have hF2 : Filled L2 l (i + 1) := by rw [hno c27]; exact hF.up
        refine To.skip ?_
        refine To.blockN ?_
        refine To.thenN ?_
        refine To.reg ?_
        refine To.rd rfl rfl rfl (Rd.inc rfl rfl rfl (by omega)) ?_
        refine To.rd rfl rfl rfl (Rd.move rfl rfl) ?_
        refine To.nil ?_
        refine To.thenN ?_
        refine To.sub [(4, .pointer (some ⟨a, 0, none⟩)), (5, .slice A5 l.length q5), (10, .slice A ops.length cap), (11, .int .i64 ((ops.length : Nat) : Int)), (12, .int .i64 (((i + 1) : Nat) : Int))] ⟨rfl, rfl, rfl, rfl, rfl, trivial⟩ ?_
        refine To.only [0, 3, 3, 3, 3] rfl ?_
        refine To.again (ops.length - (i + 1)) (by omega) ⟨i + 1, L2, l, v2, A5, q5, rfl, rfl, rfl, (by omega), (by omega), hF2⟩
  ·
    refine To.exit ?_
    refine To.thenX ?_
    refine To.thenX ?_
    refine To.blockX ?_
    refine To.thenN ?_
    refine To.seq ?_
    refine To.reg ?_
    refine To.rd rfl rfl rfl (Rd.move rfl rfl) ?_
    refine To.rd rfl rfl rfl (Rd.move rfl rfl) ?_
    refine To.rd rfl rfl rfl (Rd.assign rfl rfl) ?_
    refine To.rd rfl rfl rfl (Rd.assign rfl rfl) ?_
    refine To.nil ?_
    refine To.thenN ?_
    refine To.ret ?_
    refine To.only [0, 0, 0] rfl ?_
    refine To.end2 (.inl rfl) Try.results12 rfl rfl ?_
    exact ⟨a, v, L, l, A5, q5, rfl, rfl, ⟨hF.same, by have := hF.len; omega, hF.argsL, hF.argsl, hF.rng⟩⟩
end Go.Proofs.Ytnamppkicefbjaa
