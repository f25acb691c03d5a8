/- The walk of step. Own text (walks printed by sx.py). -/
import Derived.Test.YtnamppkicefbjaaN1
namespace Go.Proofs.Ytnamppkicefbjaa
open Go.RowKit Go.Flow Go.Mem Go.Sep
theorem Filled.filter {L l : List En} {n : Nat} (h : Filled L l n) (p : En → Bool) (hp : ∀ e : En, p e.bare = p e) : Filled (L.filter p) (l.filter p) n :=
  ⟨h.same.filter p hp, Nat.le_trans (List.length_filter_le _ _) h.len, fun e he => h.argsL e (List.mem_filter.1 he).1, fun e he => h.argsl e (List.mem_filter.1 he).1, fun e he => h.rng e (List.mem_filter.1 he).1⟩
theorem Filled.bare {L L' l : List En} {n : Nat} (h : Filled L l n) (hb : L'.map En.bare = L.map En.bare) : Filled L' l n := by
  have key : ∀ e ∈ L', ∃ x ∈ L, x.bare = e.bare := fun e he => by
    have : e.bare ∈ L.map En.bare := by rw [← hb]; exact List.mem_map.2 ⟨e, he, rfl⟩
    obtain ⟨x, hx, h1⟩ := List.mem_map.1 this
    exact ⟨x, hx, h1⟩
  refine ⟨⟨h.same.sl, fun e he => ?_, h.same.gl, fun c => ?_, by rw [hb]; exact h.same.perm⟩, h.len, fun e he => ?_, h.argsl, fun e he => ?_⟩
  · obtain ⟨x, hx, h1⟩ := key e he
    have := h.same.gL x hx
    unfold Good at *
    rw [← (bare_fields h1).2.1]; exact this
  · rw [← h.same.eq c]; exact filter_bare hb _ (fun _ => rfl)
  · obtain ⟨x, hx, h1⟩ := key e he
    rw [← (bare_fields h1).2.2.2.2.2.2.2]; exact h.argsL x hx
  · obtain ⟨x, hx, h1⟩ := key e he
    obtain ⟨f1, _, f3, _⟩ := bare_fields h1
    rw [← f1, ← f3]; exact h.rng x hx
/-- What step leaves. -/
def StepPost (b3 b4 n : Nat) (u : Value) (Γ' : List Chunk) : Prop := ∃ a Av cv L l A5 q5, u = .bool true ∧ Γ' = [box b3 [.pointer (some ⟨a, 0, none⟩)] 24, box b4 [.slice A5 l.length q5] 25, agc a (.slice Av L.length cv) L, rows En.rcells 30 8 A5 q5 l, argsS (l.map En.ar)] ∧ Filled L l (n + 1)
theorem StepPost.mk {b3 b4 n : Nat} {u : Value} {a : Nat} {Av : Option Addr} {cv : Nat} {L l : List En} {A5 : Option Addr} {q5 : Nat} (hu : u = .bool true) (hF : Filled L l (n + 1)) : StepPost b3 b4 n u [box b3 [.pointer (some ⟨a, 0, none⟩)] 24, box b4 [.slice A5 l.length q5] 25, agc a (.slice Av L.length cv) L, rows En.rcells 30 8 A5 q5 l, argsS (l.map En.ar)] := ⟨a, Av, cv, L, l, A5, q5, hu, rfl, hF⟩
theorem agc_form {C : Cx} {ρ : Slots} {K : Act → World → Prop} {Γ : List Chunk} {a : Nat} {v : Value} {L : List En} (i : Nat) (hi : Γ[i]? = some (agc a v L)) (k : ∀ A cap, v = .slice A L.length cap → To C ρ Γ K) : To C ρ Γ K := by
  refine To.know (p := ∃ A cap, v = .slice A L.length cap) (fun w hs => ?_) (fun ⟨A, cap, h⟩ => k A cap h)
  have hA : Ag w 0 a v L := hs.each _ (List.mem_of_getElem? hi)
  obtain ⟨A, cap, h, _⟩ := own_form hA.row
  exact ⟨A, cap, h⟩
theorem argsSS {Γ : List Chunk} {l N : List En} (i : Nat) (hi : Γ[i]? = some (argsS (l.map En.ar))) (h : ∀ e ∈ N, e ∈ l) : (∀ w, oks Γ w → (argsS (N.map En.ar)).holds w) ∧ ∀ g ∈ (argsS (N.map En.ar)).reads, g ∈ reads Γ :=
  ⟨oks_SS i hi h, fun g hg => by
    obtain ⟨p, hp, hg2⟩ := List.mem_flatMap.1 hg
    obtain ⟨e, he, rfl⟩ := List.mem_map.1 hp
    exact reads_at i hi (List.mem_flatMap.2 ⟨_, List.mem_map.2 ⟨e, h e he, rfl⟩, hg2⟩)⟩
theorem errE_iff (x : En) : errE x.t x.s x.c x.p x.n x.k x.h = if validE x.t x.s x.c x.p x.n x.k x.h = true then 0 else 1 := rfl
set_option maxHeartbeats 2000000 in
set_option maxRecDepth 100000 in
theorem step_fn (b3 b4 a : Nat) (v : Value) (L l : List En) (A5 : Option Addr) (q5 n : Nat) (o : Opr) (ho : o.ok) (hF : Filled L l n) (hn : n ≤ 1000) :
    Does Try.prog 26 [.pointer (some ⟨b3, 0, none⟩), .pointer (some ⟨b4, 0, none⟩), .agg (Opr.cells o).toArray] [box b3 [.pointer (some ⟨a, 0, none⟩)] 24, box b4 [.slice A5 l.length q5] 25, agc a v L, rows En.rcells 30 8 A5 q5 l, argsS (l.map En.ar), ros encI o.A o.args] (StepPost b3 b4 n) := by
  have hll := hF.len
  have hLL := hF.lenL
  have ho0 := ho.h0
  have ho2 := ho.h2
  have ho3 := ho.h3
  refine Does.enter Try.func26 rfl Try.ntmps26 rfl (fun w0 => ?_)
  refine To.seq ?_
  refine To.reg ?_
  refine To.boxed rfl rfl rfl rfl rfl rfl (fun b5 => ?_)
  refine To.rd rfl rfl rfl (Rd.assign rfl rfl) ?_
  refine To.nil ?_
  refine To.thenN ?_
  refine To.seq ?_
  refine To.seq ?_
  refine To.reg ?_
  refine To.rd rfl rfl rfl (Rd.field rfl rfl fl56_0) ?_
  refine To.rd rfl rfl rfl (Rd.load (i := 0) rfl rfl c5 rfl (box_gives1 rfl)) ?_
  refine To.rd rfl rfl rfl (Rd.rem rfl rfl rfl (by omega) (by omega)) ?_
  refine To.nil ?_
  refine To.thenN ?_
  refine To.block ?_
  refine To.seq ?_
  refine To.reg ?_
  refine To.rd rfl rfl rfl (Rd.eql rfl rfl rfl) ?_
  refine To.rd rfl rfl rfl (Rd.assign rfl rfl) ?_
  refine To.nil ?_
  refine To.thenN ?_
  refine To.condP rfl (fun c21 => ?_) (fun c21 => ?_)
  ·
    refine To.seq ?_
    refine To.flow [] [⟨0, [], 0⟩, ⟨1, [], 0⟩, ⟨3, [], 0⟩, ⟨7, [], 0⟩, ⟨2, [], 1⟩, ⟨4, [], 1⟩, ⟨5, [], 0⟩, ⟨6, [], 0⟩, ⟨8, [], 1⟩, ⟨9, [], 0⟩, ⟨10, [], 0⟩, ⟨11, [], 4⟩, ⟨12, [11], 0⟩, ⟨13, [11], 0⟩, ⟨14, [11], 0⟩, ⟨15, [11], 0⟩, ⟨16, [11], 0⟩] mixed (by kernel_rfl) (oks_nil _) ?_
    refine FlowS.free rfl rfl rfl rfl (Rd.move rfl rfl) ?_
    refine FlowS.free rfl rfl rfl rfl (Rd.nilCheck rfl rfl) ?_
    refine FlowS.free rfl rfl rfl rfl (Rd.field rfl rfl fl56_2) ?_
    refine FlowS.free rfl rfl rfl rfl (Rd.field rfl rfl fl56_3) ?_
    refine FlowS.rd rfl rfl rfl rfl (Rd.load (i := 2) rfl rfl c25 rfl (box_gives1 rfl)) ?_
    refine FlowS.rd rfl rfl rfl rfl (Rd.load (i := 0) rfl rfl c5 rfl (box_gives1 rfl)) ?_
    refine FlowS.free rfl rfl rfl rfl (Rd.rem rfl rfl rfl (by omega) (by omega)) ?_
    refine FlowS.free rfl rfl rfl rfl (Rd.conv rfl rfl Try.underlying5 Try.underlying3 (IntWalk.i64_in _ (by omega))) ?_
    refine FlowS.rd rfl rfl rfl rfl (Rd.load (i := 0) rfl rfl c5 rfl (box_gives1 rfl)) ?_
    refine FlowS.free rfl rfl rfl rfl (Rd.rem rfl rfl rfl (by omega) (by omega)) ?_
    refine FlowS.free rfl rfl rfl rfl (Rd.conv rfl rfl Try.underlying5 Try.underlying3 (IntWalk.i64_in _ (by omega))) ?_
    refine FlowS.callM rfl rfl rfl rfl rfl (Ent.fn rfl rfl ca23) (rtake_fn A5 q5 l (o.tick % 14) (o.cm % 4) (by omega)) rfl (oks_cons (oks_row 4 rfl) (oks_nil _)) ?_
    rintro _ _ ⟨A6, q6, A7, q7, rfl, rfl⟩
    refine ⟨rfl, ?_⟩
    refine FlowS.free rfl rfl rfl rfl (Rd.move rfl rfl) ?_
    refine FlowS.free rfl rfl rfl rfl (Rd.extract rfl rfl rfl) ?_
    refine FlowS.free rfl rfl rfl rfl (Rd.extract rfl rfl rfl) ?_
    refine FlowS.free rfl rfl rfl rfl (Rd.assign rfl rfl) ?_
    refine FlowS.free rfl rfl rfl rfl (Rd.assign rfl rfl) ?_
    refine FlowS.fin ?_
    refine To.as [rows En.rcells 30 8 A6 q6 (l.filter (inTake (o.cm % 4) (o.tick % 14))), rows En.rcells 30 8 A7 q7 (l.filter fun x => !inTake (o.cm % 4) (o.tick % 14) x), box b5 [.int .u8 o.dd, .int .u8 o.src, .int .u8 o.tick, .int .u8 o.cm, .int .i8 o.p, .int .i8 o.n, .int .i8 o.k, .int .i8 o.h, .slice o.A o.args.length o.cap] 56, box b3 [.pointer (some ⟨a, 0, none⟩)] 24, box b4 [.slice A5 l.length q5] 25, agc a v L, rows En.rcells 30 8 A5 q5 l, argsS (l.map En.ar), ros encI o.A o.args] rfl ?_
    refine To.sub [(0, .pointer (some ⟨b3, 0, none⟩)), (1, .pointer (some ⟨b4, 0, none⟩)), (2, .agg (Opr.cells o).toArray), (5, .pointer (some ⟨b5, 0, none⟩)), (6, .bool false), (18, .pointer (some ⟨b5, 0, none⟩)), (19, .int .u8 o.dd), (20, .int .u8 (o.dd % 8)), (22, .bool (decide ((o.dd % 8) = 4))), (21, .bool (decide ((o.dd % 8) = 4))), (7, .slice A6 ((l.filter (inTake (o.cm % 4) (o.tick % 14))).length) q6), (8, .slice A7 ((l.filter fun x => !inTake (o.cm % 4) (o.tick % 14) x).length) q7)] ⟨rfl, rfl, rfl, rfl, rfl, rfl, rfl, rfl, rfl, rfl, rfl, rfl, trivial⟩ ?_
    refine To.thenN ?_
    refine To.seq ?_
    refine To.reg ?_
    refine To.rd rfl rfl rfl (Rd.move rfl rfl) ?_
    refine To.rd rfl rfl rfl (Rd.move rfl rfl) ?_
    refine To.rd rfl rfl rfl (Rd.nilCheck rfl rfl) ?_
    refine To.up rfl rfl (Up.store (i := 4) rfl rfl rfl c25 rfl rfl (box_takesAll rfl)) ?_
    refine To.nil ?_
    refine To.thenN ?_
    refine To.seq ?_
    refine To.flow [] [⟨0, [], 0⟩, ⟨1, [], 0⟩, ⟨3, [], 0⟩, ⟨7, [], 0⟩, ⟨12, [], 0⟩, ⟨2, [], 1⟩, ⟨4, [], 1⟩, ⟨5, [], 0⟩, ⟨6, [], 0⟩, ⟨8, [], 1⟩, ⟨9, [], 0⟩, ⟨10, [], 0⟩, ⟨11, [], 5⟩, ⟨13, [], 3⟩, ⟨14, [], 0⟩] mixed (by kernel_rfl) (oks_nil _) ?_
    refine FlowS.free rfl rfl rfl rfl (Rd.move rfl rfl) ?_
    refine FlowS.free rfl rfl rfl rfl (Rd.nilCheck rfl rfl) ?_
    refine FlowS.free rfl rfl rfl rfl (Rd.field rfl rfl fl56_2) ?_
    refine FlowS.free rfl rfl rfl rfl (Rd.field rfl rfl fl56_3) ?_
    refine FlowS.free rfl rfl rfl rfl (Rd.move rfl rfl) ?_
    refine FlowS.rd rfl rfl rfl rfl (Rd.load (i := 3) rfl rfl c24 rfl (box_gives1 rfl)) ?_
    refine FlowS.rd rfl rfl rfl rfl (Rd.load (i := 2) rfl rfl c5 rfl (box_gives1 rfl)) ?_
    refine FlowS.free rfl rfl rfl rfl (Rd.rem rfl rfl rfl (by omega) (by omega)) ?_
    refine FlowS.free rfl rfl rfl rfl (Rd.conv rfl rfl Try.underlying5 Try.underlying3 (IntWalk.i64_in _ (by omega))) ?_
    refine FlowS.rd rfl rfl rfl rfl (Rd.load (i := 2) rfl rfl c5 rfl (box_gives1 rfl)) ?_
    refine FlowS.free rfl rfl rfl rfl (Rd.rem rfl rfl rfl (by omega) (by omega)) ?_
    refine FlowS.free rfl rfl rfl rfl (Rd.conv rfl rfl Try.underlying5 Try.underlying3 (IntWalk.i64_in _ (by omega))) ?_
    refine FlowS.call [5] rfl rfl rfl rfl (Ent.fn rfl rfl ca13) rfl (take_fn a v L (o.tick % 14) (o.cm % 4) (by omega) (fun e he => by have := hF.argsL e he; omega)) ?_
    rintro _ _ ⟨Am, qm, M, v1, rfl, rfl, hM⟩
    refine ⟨oks_nil _, ?_⟩
    refine FlowS.callQ rfl rfl rfl rfl (Ent.fn rfl rfl ca14) (same_fn Am A6 qm q6 M (l.filter (inTake (o.cm % 4) (o.tick % 14))) (fun e he => by have := good_s (hF.same.gl e (List.mem_filter.1 he).1); omega) (fun e he => by have := list_args hM hF.argsL e he; omega) (by have := list_len hM; omega) (by have := List.length_filter_le (inTake (o.cm % 4) (o.tick % 14)) l; omega)) rfl (oks_cons (oks_row 1 rfl) (oks_cons (oks_row 3 rfl) (oks_cons (oks_OS 2 rfl) (oks_cons (oks_SS 9 rfl (fun e he => (List.mem_filter.1 he).1)) (oks_nil _))))) ?_
    refine FlowS.free rfl rfl rfl rfl (Rd.assign rfl rfl) ?_
    refine FlowS.fin ?_
    refine To.as [agc a v1 (L.filter fun x => !inTake (o.cm % 4) (o.tick % 14) x), rows En.icells 35 7 Am qm M, argsO M, rows En.rcells 30 8 A6 q6 (l.filter (inTake (o.cm % 4) (o.tick % 14))), rows En.rcells 30 8 A7 q7 (l.filter fun x => !inTake (o.cm % 4) (o.tick % 14) x), box b5 [.int .u8 o.dd, .int .u8 o.src, .int .u8 o.tick, .int .u8 o.cm, .int .i8 o.p, .int .i8 o.n, .int .i8 o.k, .int .i8 o.h, .slice o.A o.args.length o.cap] 56, box b3 [.pointer (some ⟨a, 0, none⟩)] 24, box b4 [.slice A7 ((l.filter fun x => !inTake (o.cm % 4) (o.tick % 14) x).length) q7] 25, rows En.rcells 30 8 A5 q5 l, argsS (l.map En.ar), ros encI o.A o.args] rfl ?_
    refine To.sub [(0, .pointer (some ⟨b3, 0, none⟩)), (1, .pointer (some ⟨b4, 0, none⟩)), (2, .agg (Opr.cells o).toArray), (5, .pointer (some ⟨b5, 0, none⟩)), (6, .bool (decide (M.map En.itm = (l.filter (inTake (o.cm % 4) (o.tick % 14))).map En.itm))), (18, .pointer (some ⟨b5, 0, none⟩)), (19, .int .u8 o.dd), (20, .int .u8 (o.dd % 8)), (22, .bool (decide ((o.dd % 8) = 4))), (21, .bool (decide ((o.dd % 8) = 4))), (8, .slice A7 ((l.filter fun x => !inTake (o.cm % 4) (o.tick % 14) x).length) q7), (38, .pointer (some ⟨b4, 0, none⟩)), (39, .slice A7 ((l.filter fun x => !inTake (o.cm % 4) (o.tick % 14) x).length) q7), (40, .pointer (some ⟨b4, 0, none⟩))] ⟨rfl, rfl, rfl, rfl, rfl, rfl, rfl, rfl, rfl, rfl, rfl, rfl, rfl, rfl, trivial⟩ ?_
    refine To.thenN ?_
    refine To.ret ?_
    refine To.blockR ?_
    refine To.thenR ?_
    refine agc_form 0 rfl (fun Av cv hv => ?_)
    subst hv
    refine To.derive (argsS ((l.filter fun x => !inTake (o.cm % 4) (o.tick % 14) x).map En.ar)) rfl (argsSS 9 rfl (fun e he => (List.mem_filter.1 he).1)).2 (argsSS 9 rfl (fun e he => (List.mem_filter.1 he).1)).1 ?_
    refine To.only [7, 7, 1, 4, 0] rfl ?_
    refine To.end1 (.inl rfl) Try.results26 rfl ?_
    exact StepPost.mk (by rw [decide_eq_true (itm_of_bare (hM.trans (hF.same.take _ _)))]) ((hF.filter (fun x => !inTake (o.cm % 4) (o.tick % 14) x) (fun _ => rfl)).up)
  ·
    refine To.seq ?_
    refine To.reg ?_
    refine To.rd rfl rfl rfl (Rd.eql rfl rfl rfl) ?_
    refine To.rd rfl rfl rfl (Rd.assign rfl rfl) ?_
    refine To.nil ?_
    refine To.thenN ?_
    refine To.condP rfl (fun c55 => ?_) (fun c55 => ?_)
    ·
      refine To.seq ?_
      refine To.flow [] [⟨0, [], 0⟩, ⟨1, [], 0⟩, ⟨3, [], 0⟩, ⟨2, [], 1⟩, ⟨4, [], 1⟩, ⟨5, [], 0⟩, ⟨6, [], 0⟩, ⟨7, [], 4⟩, ⟨8, [7], 0⟩, ⟨9, [7], 0⟩, ⟨10, [7], 0⟩, ⟨11, [7], 0⟩, ⟨12, [7], 0⟩] mixed (by kernel_rfl) (oks_nil _) ?_
      refine FlowS.free rfl rfl rfl rfl (Rd.move rfl rfl) ?_
      refine FlowS.free rfl rfl rfl rfl (Rd.nilCheck rfl rfl) ?_
      refine FlowS.free rfl rfl rfl rfl (Rd.field rfl rfl fl56_3) ?_
      refine FlowS.rd rfl rfl rfl rfl (Rd.load (i := 2) rfl rfl c25 rfl (box_gives1 rfl)) ?_
      refine FlowS.rd rfl rfl rfl rfl (Rd.load (i := 0) rfl rfl c5 rfl (box_gives1 rfl)) ?_
      refine FlowS.free rfl rfl rfl rfl (Rd.rem rfl rfl rfl (by omega) (by omega)) ?_
      refine FlowS.free rfl rfl rfl rfl (Rd.conv rfl rfl Try.underlying5 Try.underlying3 (IntWalk.i64_in _ (by omega))) ?_
      refine FlowS.callM rfl rfl rfl rfl rfl (Ent.fn rfl rfl ca21) (rcancel_fn A5 q5 l (o.cm % 4) (by omega)) rfl (oks_cons (oks_row 4 rfl) (oks_nil _)) ?_
      rintro _ _ ⟨A7, q7, rfl, rfl⟩
      refine ⟨rfl, ?_⟩
      refine FlowS.free rfl rfl rfl rfl (Rd.move rfl rfl) ?_
      refine FlowS.free rfl rfl rfl rfl (Rd.extract rfl rfl rfl) ?_
      refine FlowS.free rfl rfl rfl rfl (Rd.extract rfl rfl rfl) ?_
      refine FlowS.free rfl rfl rfl rfl (Rd.assign rfl rfl) ?_
      refine FlowS.free rfl rfl rfl rfl (Rd.assign rfl rfl) ?_
      refine FlowS.fin ?_
      refine To.as [rows En.rcells 30 8 A7 q7 (l.filter fun x => !isTimer (o.cm % 4) x), box b5 [.int .u8 o.dd, .int .u8 o.src, .int .u8 o.tick, .int .u8 o.cm, .int .i8 o.p, .int .i8 o.n, .int .i8 o.k, .int .i8 o.h, .slice o.A o.args.length o.cap] 56, box b3 [.pointer (some ⟨a, 0, none⟩)] 24, box b4 [.slice A5 l.length q5] 25, agc a v L, rows En.rcells 30 8 A5 q5 l, argsS (l.map En.ar), ros encI o.A o.args] rfl ?_
      refine To.thenN ?_
      refine To.seq ?_
      refine To.reg ?_
      refine To.rd rfl rfl rfl (Rd.move rfl rfl) ?_
      refine To.rd rfl rfl rfl (Rd.move rfl rfl) ?_
      refine To.rd rfl rfl rfl (Rd.nilCheck rfl rfl) ?_
      refine To.up rfl rfl (Up.store (i := 3) rfl rfl rfl c25 rfl rfl (box_takesAll rfl)) ?_
      refine To.nil ?_
      refine To.thenN ?_
      refine To.seq ?_
      refine To.flow [] [⟨0, [], 0⟩, ⟨1, [], 0⟩, ⟨3, [], 0⟩, ⟨8, [], 0⟩, ⟨2, [], 1⟩, ⟨4, [], 1⟩, ⟨5, [], 0⟩, ⟨6, [], 0⟩, ⟨7, [], 5⟩, ⟨9, [], 0⟩, ⟨10, [], 0⟩] mixed (by kernel_rfl) (oks_nil _) ?_
      refine FlowS.free rfl rfl rfl rfl (Rd.move rfl rfl) ?_
      refine FlowS.free rfl rfl rfl rfl (Rd.nilCheck rfl rfl) ?_
      refine FlowS.free rfl rfl rfl rfl (Rd.field rfl rfl fl56_3) ?_
      refine FlowS.free rfl rfl rfl rfl (Rd.move rfl rfl) ?_
      refine FlowS.rd rfl rfl rfl rfl (Rd.load (i := 2) rfl rfl c24 rfl (box_gives1 rfl)) ?_
      refine FlowS.rd rfl rfl rfl rfl (Rd.load (i := 1) rfl rfl c5 rfl (box_gives1 rfl)) ?_
      refine FlowS.free rfl rfl rfl rfl (Rd.rem rfl rfl rfl (by omega) (by omega)) ?_
      refine FlowS.free rfl rfl rfl rfl (Rd.conv rfl rfl Try.underlying5 Try.underlying3 (IntWalk.i64_in _ (by omega))) ?_
      refine FlowS.call [4] rfl rfl rfl rfl (Ent.fn rfl rfl ca22) rfl (cancel_fn a v L (o.cm % 4) (by omega)) ?_
      rintro _ _ ⟨v1, rfl, rfl⟩
      refine ⟨oks_nil _, ?_⟩
      refine FlowS.free rfl rfl rfl rfl (Rd.eql rfl rfl rfl) ?_
      refine FlowS.free rfl rfl rfl rfl (Rd.assign rfl rfl) ?_
      refine FlowS.fin ?_
      refine To.as [agc a v1 (L.filter fun x => !isTimer (o.cm % 4) x), rows En.rcells 30 8 A7 q7 (l.filter fun x => !isTimer (o.cm % 4) x), box b5 [.int .u8 o.dd, .int .u8 o.src, .int .u8 o.tick, .int .u8 o.cm, .int .i8 o.p, .int .i8 o.n, .int .i8 o.k, .int .i8 o.h, .slice o.A o.args.length o.cap] 56, box b3 [.pointer (some ⟨a, 0, none⟩)] 24, box b4 [.slice A7 ((l.filter fun x => !isTimer (o.cm % 4) x).length) q7] 25, rows En.rcells 30 8 A5 q5 l, argsS (l.map En.ar), ros encI o.A o.args] rfl ?_
      refine To.thenN ?_
      refine To.ret ?_
      refine To.blockR ?_
      refine To.thenR ?_
      refine agc_form 0 rfl (fun Av cv hv => ?_)
      subst hv
      refine To.derive (argsS ((l.filter fun x => !isTimer (o.cm % 4) x).map En.ar)) rfl (argsSS 6 rfl (fun e he => (List.mem_filter.1 he).1)).2 (argsSS 6 rfl (fun e he => (List.mem_filter.1 he).1)).1 ?_
      refine To.only [4, 4, 1, 1, 0] rfl ?_
      refine To.end1 (.inl rfl) Try.results26 rfl ?_
      exact StepPost.mk (by rw [timer_count hF.same]; simp) ((hF.filter (fun x => !isTimer (o.cm % 4) x) (fun _ => rfl)).up)
    ·
      refine To.seq ?_
      refine To.reg ?_
      refine To.rd rfl rfl rfl (Rd.eql rfl rfl rfl) ?_
      refine To.rd rfl rfl rfl (Rd.assign rfl rfl) ?_
      refine To.nil ?_
      refine To.thenN ?_
      refine To.condP rfl (fun c81 => ?_) (fun c81 => ?_)
      ·
        refine To.seq ?_
        refine To.reg ?_
        refine To.rd rfl rfl rfl (Rd.move rfl rfl) ?_
        refine To.rd rfl rfl rfl (Rd.nilCheck rfl rfl) ?_
        refine To.rd rfl rfl rfl (Rd.load (i := 1) rfl rfl c24 rfl (box_gives1 rfl)) ?_
        refine To.call [3] rfl rfl rfl (Ent.fn rfl rfl ca27) rfl (next_fn a v L (by omega)) ?_
        rintro _ _ ⟨rfl, rfl⟩
        refine To.as [agc a v L, box b5 [.int .u8 o.dd, .int .u8 o.src, .int .u8 o.tick, .int .u8 o.cm, .int .i8 o.p, .int .i8 o.n, .int .i8 o.k, .int .i8 o.h, .slice o.A o.args.length o.cap] 56, box b3 [.pointer (some ⟨a, 0, none⟩)] 24, box b4 [.slice A5 l.length q5] 25, rows En.rcells 30 8 A5 q5 l, argsS (l.map En.ar), ros encI o.A o.args] rfl ?_
        refine To.rd rfl rfl rfl (Rd.move rfl rfl) ?_
        refine To.rd rfl rfl rfl (Rd.extract rfl rfl rfl) ?_
        refine To.rd rfl rfl rfl (Rd.extract rfl rfl rfl) ?_
        refine To.rd rfl rfl rfl (Rd.assign rfl rfl) ?_
        refine To.rd rfl rfl rfl (Rd.assign rfl rfl) ?_
        refine To.nil ?_
        refine To.thenN ?_
        refine To.seq ?_
        refine To.reg ?_
        refine To.rd rfl rfl rfl (Rd.move rfl rfl) ?_
        refine To.rd rfl rfl rfl (Rd.nilCheck rfl rfl) ?_
        refine To.rd rfl rfl rfl (Rd.load (i := 3) rfl rfl c25 rfl (box_gives1 rfl)) ?_
        refine To.callV rfl rfl rfl (Ent.fn rfl rfl ca48) (rnext_fn A5 q5 l) rfl (oks_cons (oks_row 4 rfl) (oks_nil _)) ?_
        refine To.rd rfl rfl rfl (Rd.move rfl rfl) ?_
        refine To.rd rfl rfl rfl (Rd.extract rfl rfl rfl) ?_
        refine To.rd rfl rfl rfl (Rd.extract rfl rfl rfl) ?_
        refine To.rd rfl rfl rfl (Rd.assign rfl rfl) ?_
        refine To.rd rfl rfl rfl (Rd.assign rfl rfl) ?_
        refine To.nil ?_
        refine To.thenN ?_
        refine To.seq ?_
        refine To.reg ?_
        refine To.rd rfl rfl rfl (Rd.move rfl rfl) ?_
        refine To.rd rfl rfl rfl (Rd.move rfl rfl) ?_
        refine To.rd rfl rfl rfl (Rd.eql rfl rfl rfl) ?_
        refine To.rdP rfl rfl rfl (Rd.move rfl rfl) (fun g100 => ?_) (fun g100 => ?_)
        ·
          refine To.rd rfl rfl rfl (Rd.move rfl rfl) ?_
          refine To.rd rfl rfl rfl (Rd.move rfl rfl) ?_
          refine To.rd rfl rfl rfl (Rd.eqlB rfl Try.underlying4 rfl rfl) ?_
          refine To.rd rfl rfl rfl (Rd.pickT rfl rfl rfl) ?_
          refine To.rd rfl rfl rfl (Rd.assign rfl rfl) ?_
          refine To.nil ?_
          refine To.thenN ?_
          refine To.ret ?_
          refine To.blockR ?_
          refine To.thenR ?_
          refine agc_form 0 rfl (fun Av cv hv => ?_)
          subst hv
          refine To.dup 5 rfl rfl ?_
          refine To.only [3, 3, 1, 2, 0] rfl ?_
          refine To.end1 (.inl rfl) Try.results26 rfl ?_
          exact StepPost.mk (by rw [next_same hF.same]; simp) hF.up
        ·
          exact absurd (by rw [next_same hF.same]) g100
      ·
        refine To.seq ?_
        refine To.reg ?_
        refine To.rd rfl rfl rfl (Rd.eql rfl rfl rfl) ?_
        refine To.rd rfl rfl rfl (Rd.assign rfl rfl) ?_
        refine To.nil ?_
        refine To.thenN ?_
        refine To.condP rfl (fun c105 => ?_) (fun c105 => ?_)
        ·
          refine To.seq ?_
          refine To.reg ?_
          refine To.rd rfl rfl rfl (Rd.move rfl rfl) ?_
          refine To.rd rfl rfl rfl (Rd.nilCheck rfl rfl) ?_
          refine To.rd rfl rfl rfl (Rd.load (i := 1) rfl rfl c24 rfl (box_gives1 rfl)) ?_
          refine To.rd rfl rfl rfl (Rd.assign rfl rfl) ?_
          refine To.nil ?_
          refine To.thenN ?_
          refine To.seq ?_
          refine To.reg ?_
          refine To.rd rfl rfl rfl (Rd.move rfl rfl) ?_
          refine To.rd rfl rfl rfl (Rd.move rfl rfl) ?_
          refine To.call [3] rfl rfl rfl (Ent.fn rfl rfl ca19) rfl (copy_fn a v L (by omega) (fun e he => by have := hF.argsL e he; omega)) ?_
          rintro _ _ ⟨d, vd, Ld, rfl, rfl, hcp⟩
          refine To.as [agc d vd Ld, agc a v L, box b5 [.int .u8 o.dd, .int .u8 o.src, .int .u8 o.tick, .int .u8 o.cm, .int .i8 o.p, .int .i8 o.n, .int .i8 o.k, .int .i8 o.h, .slice o.A o.args.length o.cap] 56, box b3 [.pointer (some ⟨a, 0, none⟩)] 24, box b4 [.slice A5 l.length q5] 25, rows En.rcells 30 8 A5 q5 l, argsS (l.map En.ar), ros encI o.A o.args] rfl ?_
          refine To.rd rfl rfl rfl (Rd.nilCheck rfl rfl) ?_
          refine To.up rfl rfl (Up.store (i := 3) rfl rfl rfl c24 rfl rfl (box_takesAll rfl)) ?_
          refine To.nil ?_
          refine To.thenN ?_
          refine To.seq ?_
          refine To.reg ?_
          refine To.rd rfl rfl rfl (Rd.move rfl rfl) ?_
          refine To.rd rfl rfl rfl (Rd.field rfl rfl fl56_3) ?_
          refine To.rd rfl rfl rfl (Rd.load (i := 2) rfl rfl c5 rfl (box_gives1 rfl)) ?_
          refine To.rd rfl rfl rfl (Rd.rem rfl rfl rfl (by omega) (by omega)) ?_
          refine To.rd rfl rfl rfl (Rd.conv rfl rfl Try.underlying5 Try.underlying3 (IntWalk.i64_in _ (by omega))) ?_
          refine To.call [1] rfl rfl rfl (Ent.fn rfl rfl ca13) rfl (take_fn a v L 100 (o.cm % 3) (by omega) (fun e he => by have := hF.argsL e he; omega)) ?_
          rintro _ _ ⟨Am, qm, M, v1, rfl, rfl, hM⟩
          refine To.as [agc a v1 (L.filter fun x => !inTake (o.cm % 3) 100 x), rows En.icells 35 7 Am qm M, argsO M, agc d vd Ld, box b5 [.int .u8 o.dd, .int .u8 o.src, .int .u8 o.tick, .int .u8 o.cm, .int .i8 o.p, .int .i8 o.n, .int .i8 o.k, .int .i8 o.h, .slice o.A o.args.length o.cap] 56, box b3 [.pointer (some ⟨d, 0, none⟩)] 24, box b4 [.slice A5 l.length q5] 25, rows En.rcells 30 8 A5 q5 l, argsS (l.map En.ar), ros encI o.A o.args] rfl ?_
          refine To.nil ?_
          refine To.thenN ?_
          refine To.seq ?_
          refine To.reg ?_
          refine To.rd rfl rfl rfl (Rd.move rfl rfl) ?_
          refine To.rd rfl rfl rfl (Rd.nilCheck rfl rfl) ?_
          refine To.rd rfl rfl rfl (Rd.load (i := 5) rfl rfl c24 rfl (box_gives1 rfl)) ?_
          refine To.rd rfl rfl rfl (Rd.neqNil rfl Try.underlying24 rfl rfl) ?_
          refine To.rd rfl rfl rfl (Rd.move rfl rfl) ?_
          refine To.rd rfl rfl rfl (Rd.move rfl rfl) ?_
          refine To.rd rfl rfl rfl (Rd.build (vs := [(0, .int .u8 6), (3, .int .i64 77)]) (cells := [.int .u8 6, .int .i64 0, .int .i64 0, .int .i64 77, .int .i64 0, .int .i64 0, .slice none 0 0]) rfl rfl rfl (by kernel_rfl)) ?_
          refine To.free (c := ro none (ints [])) rfl rfl (fun w => .inl rfl) ?_
          refine To.call [1, 0] rfl rfl rfl (Ent.fn rfl rfl ca18) rfl (add_fn a v1 (L.filter fun x => !inTake (o.cm % 3) 100 x) (En.mk 1 6 0 0 77 0 0 [] none 0) (by have := List.length_filter_le (fun x => !inTake (o.cm % 3) 100 x) L; omega) (by simp) (by decide)) ?_
          rintro _ _ ⟨Ao, qo, vo, rfl, rfl⟩
          refine To.as [agc a vo (insE { En.mk 1 6 0 0 77 0 0 [] none 0 with A := Ao, cap := qo } (L.filter fun x => !inTake (o.cm % 3) 100 x)), rows En.icells 35 7 Am qm M, argsO M, agc d vd Ld, box b5 [.int .u8 o.dd, .int .u8 o.src, .int .u8 o.tick, .int .u8 o.cm, .int .i8 o.p, .int .i8 o.n, .int .i8 o.k, .int .i8 o.h, .slice o.A o.args.length o.cap] 56, box b3 [.pointer (some ⟨d, 0, none⟩)] 24, box b4 [.slice A5 l.length q5] 25, rows En.rcells 30 8 A5 q5 l, argsS (l.map En.ar), ros encI o.A o.args] rfl ?_
          refine To.rd rfl rfl rfl (Rd.eql rfl rfl rfl) ?_
          refine To.rd rfl rfl rfl (Rd.pickT rfl rfl rfl) ?_
          refine To.rd rfl rfl rfl (Rd.assign rfl rfl) ?_
          refine To.nil ?_
          refine To.thenN ?_
          refine To.ret ?_
          refine To.blockR ?_
          refine To.thenR ?_
          refine agc_form 3 rfl (fun Av cv hv => ?_)
          subst hv
          refine To.dup 8 rfl rfl ?_
          refine To.only [6, 6, 4, 5, 0] rfl ?_
          refine To.end1 (.inl rfl) Try.results26 rfl ?_
          exact StepPost.mk (rfl) ((hF.bare hcp).up)
        ·
          refine To.skip ?_
          refine To.blockN ?_
          refine To.thenN ?_
          refine To.seq ?_
          refine To.reg ?_
          refine To.rd rfl rfl rfl (Rd.loadS (i := 0) rfl rfl r56 rfl box_whole rfl) ?_
          refine To.callQ rfl rfl rfl (Ent.fn rfl rfl ca31) (made_fn o ho) rfl (oks_cons (oks_at 6 rfl) (oks_nil _)) ?_
          rintro _ _ ⟨A1, q1, rfl, rfl⟩
          refine ⟨rfl, ?_⟩
          refine To.as [rows encI 2 1 A1 q1 (o.args.take 4), box b5 [.int .u8 o.dd, .int .u8 o.src, .int .u8 o.tick, .int .u8 o.cm, .int .i8 o.p, .int .i8 o.n, .int .i8 o.k, .int .i8 o.h, .slice o.A o.args.length o.cap] 56, box b3 [.pointer (some ⟨a, 0, none⟩)] 24, box b4 [.slice A5 l.length q5] 25, agc a v L, rows En.rcells 30 8 A5 q5 l, argsS (l.map En.ar), ros encI o.A o.args] rfl ?_
          refine To.alloc rfl rfl rfl rfl z30 (fun b16 => ?_)
          refine To.up rfl rfl (Up.storeS (i := 0) rfl rfl rfl r30 rfl rfl rfl (box_takesAll rfl)) ?_
          refine To.nil ?_
          refine To.thenN ?_
          refine To.seq ?_
          refine To.front 1 rfl ?_
          refine To.layRow ?_
          refine To.as [ro A1 (ints (o.en A1 q1).args), box b16 [.int .i64 ((o.en A1 q1).t), .int .i64 ((o.en A1 q1).s), .int .i64 ((o.en A1 q1).c), .int .i64 ((o.en A1 q1).p), .int .i64 ((o.en A1 q1).n), .int .i64 ((o.en A1 q1).k), .int .i64 ((o.en A1 q1).h), .slice ((o.en A1 q1).A) ((o.en A1 q1).args.length) ((o.en A1 q1).cap)] 30, box b5 [.int .u8 o.dd, .int .u8 o.src, .int .u8 o.tick, .int .u8 o.cm, .int .i8 o.p, .int .i8 o.n, .int .i8 o.k, .int .i8 o.h, .slice o.A o.args.length o.cap] 56, box b3 [.pointer (some ⟨a, 0, none⟩)] 24, box b4 [.slice A5 l.length q5] 25, agc a v L, rows En.rcells 30 8 A5 q5 l, argsS (l.map En.ar), ros encI o.A o.args] (by rw [ros, ints_flat]; rfl) ?_
          refine To.dup 0 rfl rfl ?_
          refine To.flow [] [⟨0, [], 0⟩, ⟨1, [], 0⟩, ⟨3, [], 0⟩, ⟨5, [], 1⟩, ⟨6, [], 3⟩, ⟨2, [], 1⟩, ⟨4, [], 1⟩, ⟨7, [], 5⟩, ⟨8, [], 0⟩] mixed (by kernel_rfl) (oks_nil _) ?_
          refine FlowS.free rfl rfl rfl rfl (Rd.move rfl rfl) ?_
          refine FlowS.free rfl rfl rfl rfl (Rd.nilCheck rfl rfl) ?_
          refine FlowS.free rfl rfl rfl rfl (Rd.field rfl rfl fl30_0) ?_
          refine FlowS.rd rfl rfl rfl rfl (Rd.loadS (i := 2) rfl rfl r30 rfl box_whole rfl) ?_
          refine FlowS.callQ rfl rfl rfl rfl (Ent.fn rfl rfl ca24) (item_fn (o.en A1 q1) (mS_range ho.h1)) rfl (oks_nil _) ?_
          refine FlowS.rd rfl rfl rfl rfl (Rd.load (i := 4) rfl rfl c24 rfl (box_gives1 rfl)) ?_
          refine FlowS.rd rfl rfl rfl rfl (Rd.load (i := 2) rfl rfl c3 rfl (box_gives1 rfl)) ?_
          refine FlowS.call [6, 0] rfl rfl rfl rfl (Ent.fn rfl rfl ca18) rfl (addE_fn a v L (o.en A1 q1) (by omega) (by show (o.args.take 4).length ≤ _; simp; omega)) ?_
          rintro _ _ ⟨L2, v2, rfl, rfl, hyes, hno⟩
          refine ⟨oks_nil _, ?_⟩
          refine FlowS.free rfl rfl rfl rfl (Rd.assign rfl rfl) ?_
          refine FlowS.fin ?_
          refine To.as [agc a v2 L2, ro A1 (ints (o.en A1 q1).args), box b16 [.int .i64 ((o.en A1 q1).t), .int .i64 ((o.en A1 q1).s), .int .i64 ((o.en A1 q1).c), .int .i64 ((o.en A1 q1).p), .int .i64 ((o.en A1 q1).n), .int .i64 ((o.en A1 q1).k), .int .i64 ((o.en A1 q1).h), .slice ((o.en A1 q1).A) ((o.en A1 q1).args.length) ((o.en A1 q1).cap)] 30, box b5 [.int .u8 o.dd, .int .u8 o.src, .int .u8 o.tick, .int .u8 o.cm, .int .i8 o.p, .int .i8 o.n, .int .i8 o.k, .int .i8 o.h, .slice o.A o.args.length o.cap] 56, box b3 [.pointer (some ⟨a, 0, none⟩)] 24, box b4 [.slice A5 l.length q5] 25, rows En.rcells 30 8 A5 q5 l, argsS (l.map En.ar), ros encI o.A o.args] rfl ?_
          refine To.thenN ?_
          refine To.seq ?_
          refine To.seq ?_
          refine To.reg ?_
          refine To.rd rfl rfl rfl (Rd.loadS (i := 2) rfl rfl r30 rfl box_whole rfl) ?_
          refine To.callV rfl rfl rfl (Ent.fn rfl rfl ca28) (valid_fn (o.en A1 q1)) rfl (oks_nil _) ?_
          refine To.rd rfl rfl rfl (Rd.not rfl rfl) ?_
          refine To.nil ?_
          refine To.thenN ?_
          refine To.cond rfl (fun c142 => ?_) (fun c142 => ?_)
          ·
            have he : (errE (o.en A1 q1).t (o.en A1 q1).s (o.en A1 q1).c (o.en A1 q1).p (o.en A1 q1).n (o.en A1 q1).k (o.en A1 q1).h) = 1 := by rw [errE_iff, if_neg (by simpa using c142)]
            have hF2 : Filled L2 l (n + 1) := by rw [hno (by omega)]; exact hF.up
            refine To.seq ?_
            refine To.reg ?_
            refine To.rd rfl rfl rfl (Rd.move rfl rfl) ?_
            refine To.rd rfl rfl rfl (Rd.eql rfl rfl rfl) ?_
            refine To.rd rfl rfl rfl (Rd.assign rfl rfl) ?_
            refine To.nil ?_
            refine To.thenN ?_
            refine To.ret ?_
            refine To.thenR ?_
            refine agc_form 0 rfl (fun Av cv hv => ?_)
            subst hv
            refine To.dup 7 rfl rfl ?_
            refine To.only [5, 5, 1, 4, 0] rfl ?_
            refine To.end1 (.inl rfl) Try.results26 rfl ?_
            exact StepPost.mk (by rw [decide_eq_true he]) hF2
          ·
            have he : (errE (o.en A1 q1).t (o.en A1 q1).s (o.en A1 q1).c (o.en A1 q1).p (o.en A1 q1).n (o.en A1 q1).k (o.en A1 q1).h) = 0 := by rw [errE_iff, if_pos (by simpa using c142)]
            have hF2 : Filled L2 (insW (o.en A1 q1) l) (n + 1) := by
              obtain ⟨A, cap, rfl⟩ := hyes he
              exact hF.add (valid_good he) rfl (List.length_take_le _ _) (by have := ho.h2; have := ho.h3; show 0 ≤ o.tick % 12 ∧ o.tick % 12 ≤ 11 ∧ 0 ≤ o.cm % 3 ∧ o.cm % 3 ≤ 2; omega)
            refine To.skip ?_
            refine To.thenN ?_
            refine To.seq ?_
            refine To.flow [] [⟨0, [], 0⟩, ⟨1, [], 0⟩, ⟨2, [], 0⟩, ⟨3, [], 1⟩, ⟨4, [], 1⟩, ⟨5, [], 4⟩, ⟨6, [5], 0⟩, ⟨7, [5], 5⟩] mixed (by kernel_rfl) (oks_nil _) ?_
            refine FlowS.free rfl rfl rfl rfl (Rd.move rfl rfl) ?_
            refine FlowS.free rfl rfl rfl rfl (Rd.move rfl rfl) ?_
            refine FlowS.free rfl rfl rfl rfl (Rd.nilCheck rfl rfl) ?_
            refine FlowS.rd rfl rfl rfl rfl (Rd.load (i := 5) rfl rfl c25 rfl (box_gives1 rfl)) ?_
            refine FlowS.rd rfl rfl rfl rfl (Rd.loadS (i := 2) rfl rfl r30 rfl box_whole rfl) ?_
            refine FlowS.callM rfl rfl rfl rfl rfl (Ent.fn rfl rfl ca32) (radd_fn A5 q5 l (o.en A1 q1) (by omega)) rfl (oks_cons (oks_row 6 rfl) (oks_nil _)) ?_
            rintro _ _ ⟨A6, q6, rfl, rfl⟩
            refine ⟨rfl, ?_⟩
            refine FlowS.free rfl rfl rfl rfl (Rd.nilCheck rfl rfl) ?_
            refine FlowS.up (Γ' := [rows En.rcells 30 8 A6 q6 (insW (o.en A1 q1) l), agc a v2 L2, ro A1 (ints (o.en A1 q1).args), box b16 [.int .i64 ((o.en A1 q1).t), .int .i64 ((o.en A1 q1).s), .int .i64 ((o.en A1 q1).c), .int .i64 ((o.en A1 q1).p), .int .i64 ((o.en A1 q1).n), .int .i64 ((o.en A1 q1).k), .int .i64 ((o.en A1 q1).h), .slice ((o.en A1 q1).A) ((o.en A1 q1).args.length) ((o.en A1 q1).cap)] 30, box b5 [.int .u8 o.dd, .int .u8 o.src, .int .u8 o.tick, .int .u8 o.cm, .int .i8 o.p, .int .i8 o.n, .int .i8 o.k, .int .i8 o.h, .slice o.A o.args.length o.cap] 56, box b3 [.pointer (some ⟨a, 0, none⟩)] 24, box b4 [.slice A6 ((insW (o.en A1 q1) l).length) q6] 25, rows En.rcells 30 8 A5 q5 l, argsS (l.map En.ar), ros encI o.A o.args]) rfl rfl rfl (Up.store (i := 6) rfl rfl rfl c25 rfl rfl (box_takesAll rfl)) (oks_nil _) ?_
            refine FlowS.fin ?_
            refine To.as [rows En.rcells 30 8 A6 q6 (insW (o.en A1 q1) l), agc a v2 L2, ro A1 (ints (o.en A1 q1).args), box b16 [.int .i64 ((o.en A1 q1).t), .int .i64 ((o.en A1 q1).s), .int .i64 ((o.en A1 q1).c), .int .i64 ((o.en A1 q1).p), .int .i64 ((o.en A1 q1).n), .int .i64 ((o.en A1 q1).k), .int .i64 ((o.en A1 q1).h), .slice ((o.en A1 q1).A) ((o.en A1 q1).args.length) ((o.en A1 q1).cap)] 30, box b5 [.int .u8 o.dd, .int .u8 o.src, .int .u8 o.tick, .int .u8 o.cm, .int .i8 o.p, .int .i8 o.n, .int .i8 o.k, .int .i8 o.h, .slice o.A o.args.length o.cap] 56, box b3 [.pointer (some ⟨a, 0, none⟩)] 24, box b4 [.slice A6 ((insW (o.en A1 q1) l).length) q6] 25, rows En.rcells 30 8 A5 q5 l, argsS (l.map En.ar), ros encI o.A o.args] rfl ?_
            refine To.thenN ?_
            refine To.seq ?_
            refine To.reg ?_
            refine To.rd rfl rfl rfl (Rd.move rfl rfl) ?_
            refine To.rd rfl rfl rfl (Rd.eql rfl rfl rfl) ?_
            refine To.rd rfl rfl rfl (Rd.assign rfl rfl) ?_
            refine To.nil ?_
            refine To.thenN ?_
            refine To.ret ?_
            refine agc_form 1 rfl (fun Av cv hv => ?_)
            subst hv
            refine To.derive (argsS ((insW (o.en A1 q1) l).map En.ar)) rfl (argsS_ins 2 8 rfl rfl).2 (argsS_ins 2 8 rfl rfl).1 ?_
            refine To.only [6, 6, 2, 1, 0] rfl ?_
            refine To.end1 (.inl rfl) Try.results26 rfl ?_
            exact StepPost.mk (by rw [decide_eq_true he]) hF2
end Go.Proofs.Ytnamppkicefbjaa
