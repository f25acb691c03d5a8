/- The walk of TraceEvents. Own text (walks printed by sx.py). -/
import Derived.Test.YtneimfacccgaeaaV17
namespace Go.Proofs.Ytneimfacccgaeaa
open Go.RowKit Go.Flow Go.Mem Go.Sep
theorem same_cmp (x y : Ev) : decide (x.cmp y = 0) = x.same y := by
  unfold Ev.same; rw [cmp_val]; exact decide_eq_decide.2 (cmpL_zero _ _)
theorem equal_fn2 (x y : Ev) (hl : x.args.length ≤ 1000000000000) : Does Try.prog 19 [.agg x.cells.toArray, .agg y.cells.toArray] [ros encI x.A x.args, ros encI y.A y.args] (fun v _ => v = .bool (x.same y)) :=
  (equal_fn x y hl).mono fun v _ h => by rw [h, same_cmp]
theorem indep_fn2 (x y : Ev) : Does Try.prog 22 [.agg x.cells.toArray, .agg y.cells.toArray] [] (fun v _ => v = .bool (!(x.dep y))) :=
  (indep_fn x y).mono fun v _ h => by rw [h, ind_dep]
theorem indep_fn3 (x y : Ev) : Does Try.prog 22 [.agg x.cells.toArray, .agg y.cells.toArray] [] (fun v _ => v = .bool (!(y.dep x))) :=
  (indep_fn x y).mono fun v _ h => by rw [h, ind_dep, dep_comm]
theorem dep_self (x : Ev) : x.dep x = true := by rw [dep_iff]; exact .inl rfl
theorem indep_fn1 (x : Ev) : Does Try.prog 22 [.agg x.cells.toArray, .agg x.cells.toArray] [] (fun v _ => v = .bool false) :=
  (indep_fn x x).mono fun v _ h => by rw [h, ind_dep, dep_self]; rfl
theorem less_fn1 (x : Ev) (hl : x.args.length ≤ 1000000000000) : Does Try.prog 20 [.agg x.cells.toArray, .agg x.cells.toArray] [ros encI x.A x.args, ros encI x.A x.args] (fun v _ => v = .bool false) :=
  (less_fn x x hl).mono fun v _ h => by rw [h, cmp_val, cmpL_self]; rfl
theorem less_or {x y : Ev} (h : x.same y = false) : (!(decide (x.cmp y < 0) == decide (y.cmp x < 0))) = true := by
  have h1 : ¬ x.cmp y = 0 := fun e => by rw [← same_cmp, decide_eq_true e] at h; cases h
  have h2 : y.cmp x = - x.cmp y := by rw [cmp_val, cmp_val]; exact cmpL_neg _ _
  by_cases h3 : x.cmp y < 0
  · rw [decide_eq_true h3, decide_eq_false (by omega)]; rfl
  · rw [decide_eq_false h3, decide_eq_true (by omega)]; rfl
set_option maxHeartbeats 2000000 in
set_option maxRecDepth 100000 in
theorem events_fn (a b c : Ev) (ha : a.ok) (hb : b.ok) (hc : c.ok) :
    Does Try.prog 5 [.agg (Ev.cells a).toArray, .agg (Ev.cells b).toArray, .agg (Ev.cells c).toArray] [argsS ([a, b, c].map Ev.ar)] (fun v _ => v = .bool true) := by
  refine Does.enter Try.func5 rfl Try.ntmps5 rfl (fun w0 => ?_)
  refine To.seq ?_
  refine To.reg ?_
  refine To.boxed rfl rfl rfl rfl rfl rfl (fun b3 => ?_)
  refine To.boxed rfl rfl rfl rfl rfl rfl (fun b4 => ?_)
  refine To.boxed rfl rfl rfl rfl rfl rfl (fun b5 => ?_)
  refine To.rd rfl rfl rfl (Rd.assign rfl rfl) ?_
  refine To.nil ?_
  refine To.thenN ?_
  refine To.seq ?_
  refine To.seq ?_
  refine To.reg ?_
  refine To.callV rfl rfl rfl (Ent.fn rfl rfl ca11) (awake_fn) rfl (oks_nil _) ?_
  refine To.rd rfl rfl rfl (Rd.not rfl rfl) ?_
  refine To.nil ?_
  refine To.thenN ?_
  refine To.condF rfl ?_
  refine To.skip ?_
  refine To.thenN ?_
  refine To.seq ?_
  refine To.reg ?_
  refine To.rd rfl rfl rfl (Rd.loadS (i := 2) rfl rfl r37 rfl box_whole rfl) ?_
  refine To.rd rfl rfl rfl (Rd.loadS (i := 1) rfl rfl r37 rfl box_whole rfl) ?_
  refine To.rd rfl rfl rfl (Rd.loadS (i := 0) rfl rfl r37 rfl box_whole rfl) ?_
  refine To.mk rfl rfl rfl (Mk.sliceN (us := [.int .i64 a.t, .int .i64 a.c, .int .u8 a.k, .int .i64 a.p, .int .i64 a.n, .int .i64 a.cp, .int .i64 a.h, .int .i64 a.d, .slice a.A a.args.length a.cap, .int .i64 b.t, .int .i64 b.c, .int .u8 b.k, .int .i64 b.p, .int .i64 b.n, .int .i64 b.cp, .int .i64 b.h, .int .i64 b.d, .slice b.A b.args.length b.cap, .int .i64 c.t, .int .i64 c.c, .int .u8 c.k, .int .i64 c.p, .int .i64 c.n, .int .i64 c.cp, .int .i64 c.h, .int .i64 c.d, .slice c.A c.args.length c.cap]) rfl s22 rfl rfl rfl rfl rfl rfl) ?_
  rintro _ _ ⟨b14, rfl, rfl⟩
  refine To.as [row 37 9 (some ⟨b14, 0, none⟩) 3 3 [.int .i64 a.t, .int .i64 a.c, .int .u8 a.k, .int .i64 a.p, .int .i64 a.n, .int .i64 a.cp, .int .i64 a.h, .int .i64 a.d, .slice a.A a.args.length a.cap, .int .i64 b.t, .int .i64 b.c, .int .u8 b.k, .int .i64 b.p, .int .i64 b.n, .int .i64 b.cp, .int .i64 b.h, .int .i64 b.d, .slice b.A b.args.length b.cap, .int .i64 c.t, .int .i64 c.c, .int .u8 c.k, .int .i64 c.p, .int .i64 c.n, .int .i64 c.cp, .int .i64 c.h, .int .i64 c.d, .slice c.A c.args.length c.cap], box b5 [.int .i64 c.t, .int .i64 c.c, .int .u8 c.k, .int .i64 c.p, .int .i64 c.n, .int .i64 c.cp, .int .i64 c.h, .int .i64 c.d, .slice c.A c.args.length c.cap] 37, box b4 [.int .i64 b.t, .int .i64 b.c, .int .u8 b.k, .int .i64 b.p, .int .i64 b.n, .int .i64 b.cp, .int .i64 b.h, .int .i64 b.d, .slice b.A b.args.length b.cap] 37, box b3 [.int .i64 a.t, .int .i64 a.c, .int .u8 a.k, .int .i64 a.p, .int .i64 a.n, .int .i64 a.cp, .int .i64 a.h, .int .i64 a.d, .slice a.A a.args.length a.cap] 37, argsS ([a, b, c].map Ev.ar)] rfl ?_
  refine To.only [0, 0, 0, 0, 0] rfl ?_
  refine To.as [rows Ev.cells 37 9 (some ⟨b14, 0, none⟩) 3 [a, b, c], box b5 [.int .i64 c.t, .int .i64 c.c, .int .u8 c.k, .int .i64 c.p, .int .i64 c.n, .int .i64 c.cp, .int .i64 c.h, .int .i64 c.d, .slice c.A c.args.length c.cap] 37, box b4 [.int .i64 b.t, .int .i64 b.c, .int .u8 b.k, .int .i64 b.p, .int .i64 b.n, .int .i64 b.cp, .int .i64 b.h, .int .i64 b.d, .slice b.A b.args.length b.cap] 37, box b3 [.int .i64 a.t, .int .i64 a.c, .int .u8 a.k, .int .i64 a.p, .int .i64 a.n, .int .i64 a.cp, .int .i64 a.h, .int .i64 a.d, .slice a.A a.args.length a.cap] 37, argsS ([a, b, c].map Ev.ar)] rfl ?_
  refine To.only [0, 0, 0, 0, 0] rfl ?_
  refine To.layRow ?_
  refine To.callQ rfl rfl rfl (Ent.fn rfl rfl ca12) (few_fn (some ⟨b14, 0, none⟩) 3 [a, b, c] 3 (by decide) (by simp) (by simp; exact ⟨ha.cap, hb.cap, hc.cap⟩)) rfl (oks_cons (oks_at 0 rfl) (oks_nil _)) ?_
  rintro _ _ ⟨Ak, qk, rfl, rfl⟩
  refine ⟨rfl, ?_⟩
  refine To.as [rows Ev.cells 37 9 Ak qk (([a, b, c].take 3).map Ev.cut), ros Ev.cells (some ⟨b14, 0, none⟩) [a, b, c], box b5 [.int .i64 c.t, .int .i64 c.c, .int .u8 c.k, .int .i64 c.p, .int .i64 c.n, .int .i64 c.cp, .int .i64 c.h, .int .i64 c.d, .slice c.A c.args.length c.cap] 37, box b4 [.int .i64 b.t, .int .i64 b.c, .int .u8 b.k, .int .i64 b.p, .int .i64 b.n, .int .i64 b.cp, .int .i64 b.h, .int .i64 b.d, .slice b.A b.args.length b.cap] 37, box b3 [.int .i64 a.t, .int .i64 a.c, .int .u8 a.k, .int .i64 a.p, .int .i64 a.n, .int .i64 a.cp, .int .i64 a.h, .int .i64 a.d, .slice a.A a.args.length a.cap] 37, argsS ([a, b, c].map Ev.ar)] rfl ?_
  refine To.rd rfl rfl rfl (Rd.assign rfl rfl) ?_
  refine To.nil ?_
  refine To.thenN ?_
  refine To.seq ?_
  refine To.as [rows Ev.cells 37 9 Ak qk (([a, b, c].take 3).map Ev.cut), ros Ev.cells (some ⟨b14, 0, none⟩) [a, b, c], box b5 [.int .i64 c.t, .int .i64 c.c, .int .u8 c.k, .int .i64 c.p, .int .i64 c.n, .int .i64 c.cp, .int .i64 c.h, .int .i64 c.d, .slice c.A c.args.length c.cap] 37, box b4 [.int .i64 b.t, .int .i64 b.c, .int .u8 b.k, .int .i64 b.p, .int .i64 b.n, .int .i64 b.cp, .int .i64 b.h, .int .i64 b.d, .slice b.A b.args.length b.cap] 37, box b3 [.int .i64 a.t, .int .i64 a.c, .int .u8 a.k, .int .i64 a.p, .int .i64 a.n, .int .i64 a.cp, .int .i64 a.h, .int .i64 a.d, .slice a.A a.args.length a.cap] 37, argsS ([a, b, c].map Ev.ar)] rfl ?_
  refine To.know (p := (([a, b, c].take 3).map Ev.cut).length ≤ qk) (fun w hw => own_caps 0 rfl hw) (fun hqK => ?_)
  refine To.only [0, 0, 0, 0, 0, 0] rfl ?_
  refine To.layRow ?_
  refine To.derive (argsS ((([a, b, c].take 3).map Ev.cut).map Ev.ar)) rfl (argsS_cut 5 rfl).1 (argsS_cut 5 rfl).2 ?_
  have hKl : (([a, b, c].take 3).map Ev.cut).length ≤ 3 := cut_len
  have hKa : ∀ e ∈ (([a, b, c].take 3).map Ev.cut), e.args.length ≤ 1000000000000 := cut_args
  have hKk : ∀ e ∈ (([a, b, c].take 3).map Ev.cut), 0 ≤ e.k ∧ e.k < 256 := cut_k (by simp; exact ⟨ha, hb, hc⟩)
  obtain ⟨K, hK⟩ : ∃ K, K = (([a, b, c].take 3).map Ev.cut) := ⟨_, rfl⟩
  rw [← hK] at hKl hKa hKk hqK
  rw [← hK]
  obtain ⟨x, y, z, hK3⟩ : ∃ x y z, K = [x, y, z] := ⟨_, _, _, hK⟩
  have h0 : K[0]? = some x := by rw [hK3]; rfl
  have h1 : K[1]? = some y := by rw [hK3]; rfl
  have h2 : K[2]? = some z := by rw [hK3]; rfl
  have hrx := mem_at h0 Ev.ar
  have hry := mem_at h1 Ev.ar
  have hrz := mem_at h2 Ev.ar
  have hlx := hKa x (List.mem_of_getElem? h0)
  have hly := hKa y (List.mem_of_getElem? h1)
  have hlz := hKa z (List.mem_of_getElem? h2)
  have hkx := hKk x (List.mem_of_getElem? h0)
  have hky := hKk y (List.mem_of_getElem? h1)
  clear hK hK3
  refine To.flow [ros Ev.cells Ak K] [⟨0, [], 0⟩, ⟨1, [], 0⟩, ⟨2, [], 0⟩, ⟨3, [], 0⟩, ⟨4, [], 0⟩, ⟨5, [], 0⟩, ⟨6, [], 0⟩, ⟨7, [], 0⟩, ⟨8, [], 0⟩, ⟨9, [], 5⟩, ⟨10, [], 5⟩, ⟨11, [], 5⟩] mixed (by kernel_rfl) (oks_cons (oks_at 1 rfl) (oks_nil _)) ?_
  refine FlowS.free rfl rfl rfl rfl (Rd.move rfl rfl) ?_
  refine FlowS.free rfl rfl rfl rfl (Rd.indexRos encE (i := 0) (j := 0) rfl rfl rfl s22 rfl h0) ?_
  refine FlowS.free rfl rfl rfl rfl (Rd.loadS (i := 0) rfl rfl r37 rfl (ros_gives encE h0) (encE.len _)) ?_
  refine FlowS.free rfl rfl rfl rfl (Rd.move rfl rfl) ?_
  refine FlowS.free rfl rfl rfl rfl (Rd.indexRos encE (i := 0) (j := 1) rfl rfl rfl s22 rfl h1) ?_
  refine FlowS.free rfl rfl rfl rfl (Rd.loadS (i := 0) rfl rfl r37 rfl (ros_gives encE h1) (encE.len _)) ?_
  refine FlowS.free rfl rfl rfl rfl (Rd.move rfl rfl) ?_
  refine FlowS.free rfl rfl rfl rfl (Rd.indexRos encE (i := 0) (j := 2) rfl rfl rfl s22 rfl h2) ?_
  refine FlowS.free rfl rfl rfl rfl (Rd.loadS (i := 0) rfl rfl r37 rfl (ros_gives encE h2) (encE.len _)) ?_
  refine FlowS.up (Γ' := [argsS (K.map Ev.ar), ros Ev.cells Ak K, ros Ev.cells (some ⟨b14, 0, none⟩) [a, b, c], box b5 [.int .i64 c.t, .int .i64 c.c, .int .u8 c.k, .int .i64 c.p, .int .i64 c.n, .int .i64 c.cp, .int .i64 c.h, .int .i64 c.d, .slice c.A c.args.length c.cap] 37, box b4 [.int .i64 b.t, .int .i64 b.c, .int .u8 b.k, .int .i64 b.p, .int .i64 b.n, .int .i64 b.cp, .int .i64 b.h, .int .i64 b.d, .slice b.A b.args.length b.cap] 37, box b3 [.int .i64 x.t, .int .i64 x.c, .int .u8 x.k, .int .i64 x.p, .int .i64 x.n, .int .i64 x.cp, .int .i64 x.h, .int .i64 x.d, .slice x.A x.args.length x.cap] 37, argsS ([a, b, c].map Ev.ar)]) rfl rfl rfl (Up.storeS (i := 5) rfl rfl rfl r37 rfl rfl rfl (box_takesAll rfl)) (oks_cons (oks_at 1 rfl) (oks_nil _)) ?_
  refine FlowS.up (Γ' := [argsS (K.map Ev.ar), ros Ev.cells Ak K, ros Ev.cells (some ⟨b14, 0, none⟩) [a, b, c], box b5 [.int .i64 c.t, .int .i64 c.c, .int .u8 c.k, .int .i64 c.p, .int .i64 c.n, .int .i64 c.cp, .int .i64 c.h, .int .i64 c.d, .slice c.A c.args.length c.cap] 37, box b4 [.int .i64 y.t, .int .i64 y.c, .int .u8 y.k, .int .i64 y.p, .int .i64 y.n, .int .i64 y.cp, .int .i64 y.h, .int .i64 y.d, .slice y.A y.args.length y.cap] 37, box b3 [.int .i64 x.t, .int .i64 x.c, .int .u8 x.k, .int .i64 x.p, .int .i64 x.n, .int .i64 x.cp, .int .i64 x.h, .int .i64 x.d, .slice x.A x.args.length x.cap] 37, argsS ([a, b, c].map Ev.ar)]) rfl rfl rfl (Up.storeS (i := 4) rfl rfl rfl r37 rfl rfl rfl (box_takesAll rfl)) (oks_cons (oks_at 1 rfl) (oks_nil _)) ?_
  refine FlowS.up (Γ' := [argsS (K.map Ev.ar), ros Ev.cells Ak K, ros Ev.cells (some ⟨b14, 0, none⟩) [a, b, c], box b5 [.int .i64 z.t, .int .i64 z.c, .int .u8 z.k, .int .i64 z.p, .int .i64 z.n, .int .i64 z.cp, .int .i64 z.h, .int .i64 z.d, .slice z.A z.args.length z.cap] 37, box b4 [.int .i64 y.t, .int .i64 y.c, .int .u8 y.k, .int .i64 y.p, .int .i64 y.n, .int .i64 y.cp, .int .i64 y.h, .int .i64 y.d, .slice y.A y.args.length y.cap] 37, box b3 [.int .i64 x.t, .int .i64 x.c, .int .u8 x.k, .int .i64 x.p, .int .i64 x.n, .int .i64 x.cp, .int .i64 x.h, .int .i64 x.d, .slice x.A x.args.length x.cap] 37, argsS ([a, b, c].map Ev.ar)]) rfl rfl rfl (Up.storeS (i := 3) rfl rfl rfl r37 rfl rfl rfl (box_takesAll rfl)) (oks_cons (oks_at 1 rfl) (oks_nil _)) ?_
  refine FlowS.fin ?_
  refine To.as [argsS (K.map Ev.ar), ros Ev.cells Ak K, ros Ev.cells (some ⟨b14, 0, none⟩) [a, b, c], box b5 [.int .i64 z.t, .int .i64 z.c, .int .u8 z.k, .int .i64 z.p, .int .i64 z.n, .int .i64 z.cp, .int .i64 z.h, .int .i64 z.d, .slice z.A z.args.length z.cap] 37, box b4 [.int .i64 y.t, .int .i64 y.c, .int .u8 y.k, .int .i64 y.p, .int .i64 y.n, .int .i64 y.cp, .int .i64 y.h, .int .i64 y.d, .slice y.A y.args.length y.cap] 37, box b3 [.int .i64 x.t, .int .i64 x.c, .int .u8 x.k, .int .i64 x.p, .int .i64 x.n, .int .i64 x.cp, .int .i64 x.h, .int .i64 x.d, .slice x.A x.args.length x.cap] 37, argsS ([a, b, c].map Ev.ar)] rfl ?_
  refine To.sub [(0, .agg (Ev.cells a).toArray), (1, .agg (Ev.cells b).toArray), (2, .agg (Ev.cells c).toArray), (3, .pointer (some ⟨b3, 0, none⟩)), (4, .pointer (some ⟨b4, 0, none⟩)), (5, .pointer (some ⟨b5, 0, none⟩)), (6, .bool false), (10, .bool false), (7, .slice Ak K.length qk)] ⟨rfl, rfl, rfl, rfl, rfl, rfl, rfl, rfl, rfl, trivial⟩ ?_
  refine To.thenN ?_
  refine To.seq ?_
  refine To.reg ?_
  refine To.rd rfl rfl rfl (Rd.loadS (i := 5) rfl rfl r37 rfl box_whole rfl) ?_
  refine To.rd rfl rfl rfl (Rd.loadS (i := 4) rfl rfl r37 rfl box_whole rfl) ?_
  refine To.callV rfl rfl rfl (Ent.fn rfl rfl ca18) (same_fn x y hlx) rfl (oks_cons (oks_S 0 rfl hrx) (oks_cons (oks_S 0 rfl hry) (oks_nil _))) ?_
  refine To.rd rfl rfl rfl (Rd.assign rfl rfl) ?_
  refine To.nil ?_
  refine To.thenN ?_
  refine To.seq ?_
  refine To.flow [argsS (K.map Ev.ar), ros Ev.cells Ak K, ros Ev.cells (some ⟨b14, 0, none⟩) [a, b, c], box b5 [.int .i64 z.t, .int .i64 z.c, .int .u8 z.k, .int .i64 z.p, .int .i64 z.n, .int .i64 z.cp, .int .i64 z.h, .int .i64 z.d, .slice z.A z.args.length z.cap] 37, box b4 [.int .i64 y.t, .int .i64 y.c, .int .u8 y.k, .int .i64 y.p, .int .i64 y.n, .int .i64 y.cp, .int .i64 y.h, .int .i64 y.d, .slice y.A y.args.length y.cap] 37, box b3 [.int .i64 x.t, .int .i64 x.c, .int .u8 x.k, .int .i64 x.p, .int .i64 x.n, .int .i64 x.cp, .int .i64 x.h, .int .i64 x.d, .slice x.A x.args.length x.cap] 37, argsS ([a, b, c].map Ev.ar)] [⟨0, [], 0⟩, ⟨1, [], 0⟩, ⟨3, [], 0⟩, ⟨2, [], 3⟩, ⟨4, [], 0⟩, ⟨5, [], 0⟩, ⟨6, [], 0⟩, ⟨7, [], 0⟩, ⟨9, [], 0⟩, ⟨10, [], 0⟩, ⟨8, [], 3⟩, ⟨11, [], 3⟩, ⟨12, [], 0⟩, ⟨13, [], 0⟩, ⟨14, [], 0⟩, ⟨15, [], 0⟩, ⟨16, [], 0⟩, ⟨18, [], 0⟩, ⟨19, [], 0⟩, ⟨17, [], 3⟩, ⟨20, [], 3⟩, ⟨21, [], 0⟩, ⟨22, [], 0⟩, ⟨23, [], 0⟩, ⟨24, [], 0⟩, ⟨25, [], 0⟩, ⟨26, [], 0⟩, ⟨28, [], 0⟩, ⟨29, [], 0⟩, ⟨27, [], 3⟩, ⟨30, [], 3⟩, ⟨31, [], 0⟩, ⟨32, [], 0⟩, ⟨33, [], 0⟩, ⟨34, [], 0⟩, ⟨35, [], 0⟩, ⟨36, [], 3⟩, ⟨37, [], 0⟩, ⟨38, [], 0⟩, ⟨39, [], 0⟩, ⟨40, [], 0⟩, ⟨41, [], 0⟩, ⟨42, [], 3⟩, ⟨43, [], 0⟩, ⟨44, [], 0⟩, ⟨45, [], 0⟩, ⟨46, [], 0⟩, ⟨47, [], 0⟩, ⟨48, [], 0⟩, ⟨49, [], 0⟩, ⟨51, [], 0⟩, ⟨52, [], 0⟩, ⟨50, [], 3⟩, ⟨53, [], 3⟩, ⟨54, [], 0⟩, ⟨55, [], 0⟩, ⟨56, [], 0⟩, ⟨57, [], 0⟩, ⟨58, [], 0⟩, ⟨59, [], 0⟩, ⟨60, [], 3⟩, ⟨61, [], 0⟩, ⟨62, [], 0⟩, ⟨63, [], 0⟩, ⟨64, [], 0⟩, ⟨65, [], 3⟩, ⟨66, [], 0⟩, ⟨67, [], 0⟩, ⟨68, [], 0⟩, ⟨69, [], 0⟩, ⟨70, [], 0⟩, ⟨71, [], 3⟩, ⟨72, [], 0⟩, ⟨73, [], 0⟩, ⟨74, [], 0⟩] mixed (by kernel_rfl) (oks_cons (oks_at 0 rfl) (oks_cons (oks_at 1 rfl) (oks_cons (oks_at 2 rfl) (oks_cons (oks_at 3 rfl) (oks_cons (oks_at 4 rfl) (oks_cons (oks_at 5 rfl) (oks_cons (oks_at 6 rfl) (oks_nil _)))))))) ?_
  refine FlowS.free rfl rfl rfl rfl (Rd.loadS (i := 5) rfl rfl r37 rfl box_whole rfl) ?_
  refine FlowS.free rfl rfl rfl rfl (Rd.loadS (i := 4) rfl rfl r37 rfl box_whole rfl) ?_
  refine FlowS.free rfl rfl rfl rfl (Rd.move rfl rfl) ?_
  refine FlowS.callQ rfl rfl rfl rfl (Ent.fn rfl rfl ca19) (equal_fn2 x y hlx) rfl (oks_cons (oks_S 0 rfl hrx) (oks_cons (oks_S 0 rfl hry) (oks_nil _))) ?_
  refine FlowS.free rfl rfl rfl rfl (Rd.as (v' := .bool true) (congrArg Value.bool (beq_self_eq_true _)) (Rd.eqlB rfl Try.underlying4 rfl rfl)) ?_
  refine FlowS.free rfl rfl rfl rfl (Rd.move rfl rfl) ?_
  refine FlowS.free rfl rfl rfl rfl (Rd.loadS (i := 5) rfl rfl r37 rfl box_whole rfl) ?_
  refine FlowS.free rfl rfl rfl rfl (Rd.loadS (i := 4) rfl rfl r37 rfl box_whole rfl) ?_
  refine FlowS.free rfl rfl rfl rfl (Rd.loadS (i := 5) rfl rfl r37 rfl box_whole rfl) ?_
  refine FlowS.free rfl rfl rfl rfl (Rd.loadS (i := 4) rfl rfl r37 rfl box_whole rfl) ?_
  refine FlowS.callQ rfl rfl rfl rfl (Ent.fn rfl rfl ca20) (less_fn x y hlx) rfl (oks_cons (oks_S 0 rfl hrx) (oks_cons (oks_S 0 rfl hry) (oks_nil _))) ?_
  refine FlowS.callQ rfl rfl rfl rfl (Ent.fn rfl rfl ca21) (rless_fn x y hkx hky hlx) rfl (oks_cons (oks_S 0 rfl hrx) (oks_cons (oks_S 0 rfl hry) (oks_nil _))) ?_
  refine FlowS.free rfl rfl rfl rfl (Rd.as (v' := .bool true) (congrArg Value.bool (beq_self_eq_true _)) (Rd.eqlB rfl Try.underlying4 rfl rfl)) ?_
  refine FlowS.free rfl rfl rfl rfl (Rd.pickT rfl rfl rfl) ?_
  refine FlowS.free rfl rfl rfl rfl (Rd.move rfl rfl) ?_
  refine FlowS.free rfl rfl rfl rfl (Rd.loadS (i := 5) rfl rfl r37 rfl box_whole rfl) ?_
  refine FlowS.free rfl rfl rfl rfl (Rd.loadS (i := 4) rfl rfl r37 rfl box_whole rfl) ?_
  refine FlowS.free rfl rfl rfl rfl (Rd.loadS (i := 5) rfl rfl r37 rfl box_whole rfl) ?_
  refine FlowS.free rfl rfl rfl rfl (Rd.loadS (i := 4) rfl rfl r37 rfl box_whole rfl) ?_
  refine FlowS.callQ rfl rfl rfl rfl (Ent.fn rfl rfl ca22) (indep_fn2 x y) rfl (oks_nil _) ?_
  refine FlowS.callQ rfl rfl rfl rfl (Ent.fn rfl rfl ca23) (dependent_fn x y) rfl (oks_nil _) ?_
  refine FlowS.free rfl rfl rfl rfl (Rd.not rfl rfl) ?_
  refine FlowS.free rfl rfl rfl rfl (Rd.as (v' := .bool true) (congrArg Value.bool (beq_self_eq_true _)) (Rd.eqlB rfl Try.underlying4 rfl rfl)) ?_
  refine FlowS.free rfl rfl rfl rfl (Rd.pickT rfl rfl rfl) ?_
  refine FlowS.free rfl rfl rfl rfl (Rd.move rfl rfl) ?_
  refine FlowS.free rfl rfl rfl rfl (Rd.loadS (i := 5) rfl rfl r37 rfl box_whole rfl) ?_
  refine FlowS.free rfl rfl rfl rfl (Rd.loadS (i := 4) rfl rfl r37 rfl box_whole rfl) ?_
  refine FlowS.free rfl rfl rfl rfl (Rd.loadS (i := 4) rfl rfl r37 rfl box_whole rfl) ?_
  refine FlowS.free rfl rfl rfl rfl (Rd.loadS (i := 5) rfl rfl r37 rfl box_whole rfl) ?_
  refine FlowS.callQ rfl rfl rfl rfl (Ent.fn rfl rfl ca22) (indep_fn2 x y) rfl (oks_nil _) ?_
  refine FlowS.callQ rfl rfl rfl rfl (Ent.fn rfl rfl ca22) (indep_fn3 y x) rfl (oks_nil _) ?_
  refine FlowS.free rfl rfl rfl rfl (Rd.as (v' := .bool true) (congrArg Value.bool (beq_self_eq_true _)) (Rd.eqlB rfl Try.underlying4 rfl rfl)) ?_
  refine FlowS.free rfl rfl rfl rfl (Rd.pickT rfl rfl rfl) ?_
  refine FlowS.free rfl rfl rfl rfl (Rd.move rfl rfl) ?_
  refine FlowS.free rfl rfl rfl rfl (Rd.loadS (i := 5) rfl rfl r37 rfl box_whole rfl) ?_
  refine FlowS.free rfl rfl rfl rfl (Rd.loadS (i := 5) rfl rfl r37 rfl box_whole rfl) ?_
  refine FlowS.callQ rfl rfl rfl rfl (Ent.fn rfl rfl ca22) (indep_fn1 x) rfl (oks_nil _) ?_
  refine FlowS.free rfl rfl rfl rfl (Rd.not rfl rfl) ?_
  refine FlowS.free rfl rfl rfl rfl (Rd.pickT rfl rfl rfl) ?_
  refine FlowS.free rfl rfl rfl rfl (Rd.move rfl rfl) ?_
  refine FlowS.free rfl rfl rfl rfl (Rd.loadS (i := 5) rfl rfl r37 rfl box_whole rfl) ?_
  refine FlowS.free rfl rfl rfl rfl (Rd.loadS (i := 5) rfl rfl r37 rfl box_whole rfl) ?_
  refine FlowS.callQ rfl rfl rfl rfl (Ent.fn rfl rfl ca20) (less_fn1 x hlx) rfl (oks_cons (oks_S 0 rfl hrx) (oks_cons (oks_S 0 rfl hrx) (oks_nil _))) ?_
  refine FlowS.free rfl rfl rfl rfl (Rd.not rfl rfl) ?_
  refine FlowS.free rfl rfl rfl rfl (Rd.pickT rfl rfl rfl) ?_
  refine FlowS.free rfl rfl rfl rfl (Rd.move rfl rfl) ?_
  refine FlowS.free rfl rfl rfl rfl (Rd.move rfl rfl) ?_
  refine FlowS.rdB rfl rfl rfl rfl (Rd.move rfl rfl) (fun g75 => ?_) (fun g75 => ?_)
  ·
    refine FlowS.skip (by decide) rfl rfl rfl rfl ?_
    refine FlowS.skip (by decide) rfl rfl rfl rfl ?_
    refine FlowS.skip (by decide) rfl rfl rfl rfl ?_
    refine FlowS.skip (by decide) rfl rfl rfl rfl ?_
    refine FlowS.skip (by decide) rfl rfl rfl rfl ?_
    refine FlowS.skip (by decide) rfl rfl rfl rfl ?_
    refine FlowS.skip (by decide) rfl rfl rfl rfl ?_
    refine FlowS.free rfl rfl rfl rfl (Rd.pickT rfl rfl rfl) ?_
    refine FlowS.free rfl rfl rfl rfl (Rd.pickT rfl rfl rfl) ?_
    refine FlowS.free rfl rfl rfl rfl (Rd.move rfl rfl) ?_
    refine FlowS.free rfl rfl rfl rfl (Rd.loadS (i := 5) rfl rfl r37 rfl box_whole rfl) ?_
    refine FlowS.free rfl rfl rfl rfl (Rd.loadS (i := 4) rfl rfl r37 rfl box_whole rfl) ?_
    refine FlowS.callQ rfl rfl rfl rfl (Ent.fn rfl rfl ca20) (less_fn x y hlx) rfl (oks_cons (oks_S 0 rfl hrx) (oks_cons (oks_S 0 rfl hry) (oks_nil _))) ?_
    refine FlowS.free rfl rfl rfl rfl (Rd.not rfl rfl) ?_
    refine FlowS.rdB rfl rfl rfl rfl (Rd.move rfl rfl) (fun g90 => ?_) (fun g90 => ?_)
    ·
      refine FlowS.skip (by decide) rfl rfl rfl rfl ?_
      refine FlowS.skip (by decide) rfl rfl rfl rfl ?_
      refine FlowS.skip (by decide) rfl rfl rfl rfl ?_
      refine FlowS.skip (by decide) rfl rfl rfl rfl ?_
      refine FlowS.free rfl rfl rfl rfl (Rd.pickT rfl rfl rfl) ?_
      refine FlowS.free rfl rfl rfl rfl (Rd.move rfl rfl) ?_
      refine FlowS.skip (by decide) rfl rfl rfl rfl ?_
      refine FlowS.skip (by decide) rfl rfl rfl rfl ?_
      refine FlowS.skip (by decide) rfl rfl rfl rfl ?_
      refine FlowS.free rfl rfl rfl rfl (Rd.pickT rfl rfl rfl) ?_
      refine FlowS.free rfl rfl rfl rfl (Rd.pickT rfl rfl rfl) ?_
      refine FlowS.free rfl rfl rfl rfl (Rd.assign rfl rfl) ?_
      refine FlowS.fin ?_
      refine To.as [argsS (K.map Ev.ar), ros Ev.cells Ak K, ros Ev.cells (some ⟨b14, 0, none⟩) [a, b, c], box b5 [.int .i64 z.t, .int .i64 z.c, .int .u8 z.k, .int .i64 z.p, .int .i64 z.n, .int .i64 z.cp, .int .i64 z.h, .int .i64 z.d, .slice z.A z.args.length z.cap] 37, box b4 [.int .i64 y.t, .int .i64 y.c, .int .u8 y.k, .int .i64 y.p, .int .i64 y.n, .int .i64 y.cp, .int .i64 y.h, .int .i64 y.d, .slice y.A y.args.length y.cap] 37, box b3 [.int .i64 x.t, .int .i64 x.c, .int .u8 x.k, .int .i64 x.p, .int .i64 x.n, .int .i64 x.cp, .int .i64 x.h, .int .i64 x.d, .slice x.A x.args.length x.cap] 37, argsS ([a, b, c].map Ev.ar)] rfl ?_
      refine To.sub [(0, .agg (Ev.cells a).toArray), (1, .agg (Ev.cells b).toArray), (2, .agg (Ev.cells c).toArray), (3, .pointer (some ⟨b3, 0, none⟩)), (4, .pointer (some ⟨b4, 0, none⟩)), (5, .pointer (some ⟨b5, 0, none⟩)), (6, .bool true), (10, .bool false), (7, .slice Ak K.length qk), (8, .bool (x.same y))] ⟨rfl, rfl, rfl, rfl, rfl, rfl, rfl, rfl, rfl, rfl, trivial⟩ ?_
      refine To.thenN ?_
      refine To.ret ?_
      refine To.end1 (.inl rfl) Try.results5 rfl ?_
      rfl
    ·
      refine FlowS.free rfl rfl rfl rfl (Rd.loadS (i := 4) rfl rfl r37 rfl box_whole rfl) ?_
      refine FlowS.free rfl rfl rfl rfl (Rd.loadS (i := 3) rfl rfl r37 rfl box_whole rfl) ?_
      refine FlowS.callQ rfl rfl rfl rfl (Ent.fn rfl rfl ca20) (less_fn y z hly) rfl (oks_cons (oks_S 0 rfl hry) (oks_cons (oks_S 0 rfl hrz) (oks_nil _))) ?_
      refine FlowS.free rfl rfl rfl rfl (Rd.not rfl rfl) ?_
      refine FlowS.free rfl rfl rfl rfl (Rd.pickF rfl rfl rfl) ?_
      refine FlowS.rdB rfl rfl rfl rfl (Rd.move rfl rfl) (fun g96 => ?_) (fun g96 => ?_)
      ·
        refine FlowS.skip (by decide) rfl rfl rfl rfl ?_
        refine FlowS.skip (by decide) rfl rfl rfl rfl ?_
        refine FlowS.skip (by decide) rfl rfl rfl rfl ?_
        refine FlowS.free rfl rfl rfl rfl (Rd.pickT rfl rfl rfl) ?_
        refine FlowS.free rfl rfl rfl rfl (Rd.pickT rfl rfl rfl) ?_
        refine FlowS.free rfl rfl rfl rfl (Rd.assign rfl rfl) ?_
        refine FlowS.fin ?_
        refine To.as [argsS (K.map Ev.ar), ros Ev.cells Ak K, ros Ev.cells (some ⟨b14, 0, none⟩) [a, b, c], box b5 [.int .i64 z.t, .int .i64 z.c, .int .u8 z.k, .int .i64 z.p, .int .i64 z.n, .int .i64 z.cp, .int .i64 z.h, .int .i64 z.d, .slice z.A z.args.length z.cap] 37, box b4 [.int .i64 y.t, .int .i64 y.c, .int .u8 y.k, .int .i64 y.p, .int .i64 y.n, .int .i64 y.cp, .int .i64 y.h, .int .i64 y.d, .slice y.A y.args.length y.cap] 37, box b3 [.int .i64 x.t, .int .i64 x.c, .int .u8 x.k, .int .i64 x.p, .int .i64 x.n, .int .i64 x.cp, .int .i64 x.h, .int .i64 x.d, .slice x.A x.args.length x.cap] 37, argsS ([a, b, c].map Ev.ar)] rfl ?_
        refine To.sub [(0, .agg (Ev.cells a).toArray), (1, .agg (Ev.cells b).toArray), (2, .agg (Ev.cells c).toArray), (3, .pointer (some ⟨b3, 0, none⟩)), (4, .pointer (some ⟨b4, 0, none⟩)), (5, .pointer (some ⟨b5, 0, none⟩)), (6, .bool true), (10, .bool false), (7, .slice Ak K.length qk), (8, .bool (x.same y))] ⟨rfl, rfl, rfl, rfl, rfl, rfl, rfl, rfl, rfl, rfl, trivial⟩ ?_
        refine To.thenN ?_
        refine To.ret ?_
        refine To.end1 (.inl rfl) Try.results5 rfl ?_
        rfl
      ·
        refine FlowS.free rfl rfl rfl rfl (Rd.loadS (i := 5) rfl rfl r37 rfl box_whole rfl) ?_
        refine FlowS.free rfl rfl rfl rfl (Rd.loadS (i := 3) rfl rfl r37 rfl box_whole rfl) ?_
        refine FlowS.callQ rfl rfl rfl rfl (Ent.fn rfl rfl ca20) (less_fn x z hlx) rfl (oks_cons (oks_S 0 rfl hrx) (oks_cons (oks_S 0 rfl hrz) (oks_nil _))) ?_
        refine FlowS.free rfl rfl rfl rfl (Rd.pickF rfl rfl rfl) ?_
        refine FlowS.free rfl rfl rfl rfl (Rd.pickT rfl rfl rfl) ?_
        refine FlowS.free rfl rfl rfl rfl (Rd.assign rfl rfl) ?_
        refine FlowS.fin ?_
        refine To.as [argsS (K.map Ev.ar), ros Ev.cells Ak K, ros Ev.cells (some ⟨b14, 0, none⟩) [a, b, c], box b5 [.int .i64 z.t, .int .i64 z.c, .int .u8 z.k, .int .i64 z.p, .int .i64 z.n, .int .i64 z.cp, .int .i64 z.h, .int .i64 z.d, .slice z.A z.args.length z.cap] 37, box b4 [.int .i64 y.t, .int .i64 y.c, .int .u8 y.k, .int .i64 y.p, .int .i64 y.n, .int .i64 y.cp, .int .i64 y.h, .int .i64 y.d, .slice y.A y.args.length y.cap] 37, box b3 [.int .i64 x.t, .int .i64 x.c, .int .u8 x.k, .int .i64 x.p, .int .i64 x.n, .int .i64 x.cp, .int .i64 x.h, .int .i64 x.d, .slice x.A x.args.length x.cap] 37, argsS ([a, b, c].map Ev.ar)] rfl ?_
        refine To.sub [(0, .agg (Ev.cells a).toArray), (1, .agg (Ev.cells b).toArray), (2, .agg (Ev.cells c).toArray), (3, .pointer (some ⟨b3, 0, none⟩)), (4, .pointer (some ⟨b4, 0, none⟩)), (5, .pointer (some ⟨b5, 0, none⟩)), (6, .bool (decide (x.cmp z < 0))), (10, .bool false), (7, .slice Ak K.length qk), (8, .bool (x.same y))] ⟨rfl, rfl, rfl, rfl, rfl, rfl, rfl, rfl, rfl, rfl, trivial⟩ ?_
        refine To.thenN ?_
        refine To.ret ?_
        refine To.end1 (.inl rfl) Try.results5 rfl ?_
        rw [decide_eq_true (by
          rw [cmp_val] at *
          exact cmpL_trans _ _ _ (by simpa using g90) (by simpa using g96))]
  ·
    refine FlowS.free rfl rfl rfl rfl (Rd.loadS (i := 5) rfl rfl r37 rfl box_whole rfl) ?_
    refine FlowS.free rfl rfl rfl rfl (Rd.loadS (i := 4) rfl rfl r37 rfl box_whole rfl) ?_
    refine FlowS.free rfl rfl rfl rfl (Rd.loadS (i := 4) rfl rfl r37 rfl box_whole rfl) ?_
    refine FlowS.free rfl rfl rfl rfl (Rd.loadS (i := 5) rfl rfl r37 rfl box_whole rfl) ?_
    refine FlowS.callQ rfl rfl rfl rfl (Ent.fn rfl rfl ca20) (less_fn x y hlx) rfl (oks_cons (oks_S 0 rfl hrx) (oks_cons (oks_S 0 rfl hry) (oks_nil _))) ?_
    refine FlowS.callQ rfl rfl rfl rfl (Ent.fn rfl rfl ca20) (less_fn y x hly) rfl (oks_cons (oks_S 0 rfl hry) (oks_cons (oks_S 0 rfl hrx) (oks_nil _))) ?_
    refine FlowS.free rfl rfl rfl rfl (Rd.neqB rfl Try.underlying4 rfl rfl) ?_
    refine FlowS.free rfl rfl rfl rfl (Rd.pickF rfl rfl rfl) ?_
    refine FlowS.free rfl rfl rfl rfl (Rd.pickT rfl rfl rfl) ?_
    refine FlowS.rdB rfl rfl rfl rfl (Rd.move rfl rfl) (fun g85 => ?_) (fun g85 => ?_)
    ·
      refine FlowS.free rfl rfl rfl rfl (Rd.loadS (i := 5) rfl rfl r37 rfl box_whole rfl) ?_
      refine FlowS.free rfl rfl rfl rfl (Rd.loadS (i := 4) rfl rfl r37 rfl box_whole rfl) ?_
      refine FlowS.callQ rfl rfl rfl rfl (Ent.fn rfl rfl ca20) (less_fn x y hlx) rfl (oks_cons (oks_S 0 rfl hrx) (oks_cons (oks_S 0 rfl hry) (oks_nil _))) ?_
      refine FlowS.free rfl rfl rfl rfl (Rd.not rfl rfl) ?_
      refine FlowS.rdB rfl rfl rfl rfl (Rd.move rfl rfl) (fun g90 => ?_) (fun g90 => ?_)
      ·
        refine FlowS.skip (by decide) rfl rfl rfl rfl ?_
        refine FlowS.skip (by decide) rfl rfl rfl rfl ?_
        refine FlowS.skip (by decide) rfl rfl rfl rfl ?_
        refine FlowS.skip (by decide) rfl rfl rfl rfl ?_
        refine FlowS.free rfl rfl rfl rfl (Rd.pickT rfl rfl rfl) ?_
        refine FlowS.free rfl rfl rfl rfl (Rd.move rfl rfl) ?_
        refine FlowS.skip (by decide) rfl rfl rfl rfl ?_
        refine FlowS.skip (by decide) rfl rfl rfl rfl ?_
        refine FlowS.skip (by decide) rfl rfl rfl rfl ?_
        refine FlowS.free rfl rfl rfl rfl (Rd.pickT rfl rfl rfl) ?_
        refine FlowS.free rfl rfl rfl rfl (Rd.pickT rfl rfl rfl) ?_
        refine FlowS.free rfl rfl rfl rfl (Rd.assign rfl rfl) ?_
        refine FlowS.fin ?_
        refine To.as [argsS (K.map Ev.ar), ros Ev.cells Ak K, ros Ev.cells (some ⟨b14, 0, none⟩) [a, b, c], box b5 [.int .i64 z.t, .int .i64 z.c, .int .u8 z.k, .int .i64 z.p, .int .i64 z.n, .int .i64 z.cp, .int .i64 z.h, .int .i64 z.d, .slice z.A z.args.length z.cap] 37, box b4 [.int .i64 y.t, .int .i64 y.c, .int .u8 y.k, .int .i64 y.p, .int .i64 y.n, .int .i64 y.cp, .int .i64 y.h, .int .i64 y.d, .slice y.A y.args.length y.cap] 37, box b3 [.int .i64 x.t, .int .i64 x.c, .int .u8 x.k, .int .i64 x.p, .int .i64 x.n, .int .i64 x.cp, .int .i64 x.h, .int .i64 x.d, .slice x.A x.args.length x.cap] 37, argsS ([a, b, c].map Ev.ar)] rfl ?_
        refine To.sub [(0, .agg (Ev.cells a).toArray), (1, .agg (Ev.cells b).toArray), (2, .agg (Ev.cells c).toArray), (3, .pointer (some ⟨b3, 0, none⟩)), (4, .pointer (some ⟨b4, 0, none⟩)), (5, .pointer (some ⟨b5, 0, none⟩)), (6, .bool true), (10, .bool false), (7, .slice Ak K.length qk), (8, .bool (x.same y))] ⟨rfl, rfl, rfl, rfl, rfl, rfl, rfl, rfl, rfl, rfl, trivial⟩ ?_
        refine To.thenN ?_
        refine To.ret ?_
        refine To.end1 (.inl rfl) Try.results5 rfl ?_
        rfl
      ·
        refine FlowS.free rfl rfl rfl rfl (Rd.loadS (i := 4) rfl rfl r37 rfl box_whole rfl) ?_
        refine FlowS.free rfl rfl rfl rfl (Rd.loadS (i := 3) rfl rfl r37 rfl box_whole rfl) ?_
        refine FlowS.callQ rfl rfl rfl rfl (Ent.fn rfl rfl ca20) (less_fn y z hly) rfl (oks_cons (oks_S 0 rfl hry) (oks_cons (oks_S 0 rfl hrz) (oks_nil _))) ?_
        refine FlowS.free rfl rfl rfl rfl (Rd.not rfl rfl) ?_
        refine FlowS.free rfl rfl rfl rfl (Rd.pickF rfl rfl rfl) ?_
        refine FlowS.rdB rfl rfl rfl rfl (Rd.move rfl rfl) (fun g96 => ?_) (fun g96 => ?_)
        ·
          refine FlowS.skip (by decide) rfl rfl rfl rfl ?_
          refine FlowS.skip (by decide) rfl rfl rfl rfl ?_
          refine FlowS.skip (by decide) rfl rfl rfl rfl ?_
          refine FlowS.free rfl rfl rfl rfl (Rd.pickT rfl rfl rfl) ?_
          refine FlowS.free rfl rfl rfl rfl (Rd.pickT rfl rfl rfl) ?_
          refine FlowS.free rfl rfl rfl rfl (Rd.assign rfl rfl) ?_
          refine FlowS.fin ?_
          refine To.as [argsS (K.map Ev.ar), ros Ev.cells Ak K, ros Ev.cells (some ⟨b14, 0, none⟩) [a, b, c], box b5 [.int .i64 z.t, .int .i64 z.c, .int .u8 z.k, .int .i64 z.p, .int .i64 z.n, .int .i64 z.cp, .int .i64 z.h, .int .i64 z.d, .slice z.A z.args.length z.cap] 37, box b4 [.int .i64 y.t, .int .i64 y.c, .int .u8 y.k, .int .i64 y.p, .int .i64 y.n, .int .i64 y.cp, .int .i64 y.h, .int .i64 y.d, .slice y.A y.args.length y.cap] 37, box b3 [.int .i64 x.t, .int .i64 x.c, .int .u8 x.k, .int .i64 x.p, .int .i64 x.n, .int .i64 x.cp, .int .i64 x.h, .int .i64 x.d, .slice x.A x.args.length x.cap] 37, argsS ([a, b, c].map Ev.ar)] rfl ?_
          refine To.sub [(0, .agg (Ev.cells a).toArray), (1, .agg (Ev.cells b).toArray), (2, .agg (Ev.cells c).toArray), (3, .pointer (some ⟨b3, 0, none⟩)), (4, .pointer (some ⟨b4, 0, none⟩)), (5, .pointer (some ⟨b5, 0, none⟩)), (6, .bool true), (10, .bool false), (7, .slice Ak K.length qk), (8, .bool (x.same y))] ⟨rfl, rfl, rfl, rfl, rfl, rfl, rfl, rfl, rfl, rfl, trivial⟩ ?_
          refine To.thenN ?_
          refine To.ret ?_
          refine To.end1 (.inl rfl) Try.results5 rfl ?_
          rfl
        ·
          refine FlowS.free rfl rfl rfl rfl (Rd.loadS (i := 5) rfl rfl r37 rfl box_whole rfl) ?_
          refine FlowS.free rfl rfl rfl rfl (Rd.loadS (i := 3) rfl rfl r37 rfl box_whole rfl) ?_
          refine FlowS.callQ rfl rfl rfl rfl (Ent.fn rfl rfl ca20) (less_fn x z hlx) rfl (oks_cons (oks_S 0 rfl hrx) (oks_cons (oks_S 0 rfl hrz) (oks_nil _))) ?_
          refine FlowS.free rfl rfl rfl rfl (Rd.pickF rfl rfl rfl) ?_
          refine FlowS.free rfl rfl rfl rfl (Rd.pickT rfl rfl rfl) ?_
          refine FlowS.free rfl rfl rfl rfl (Rd.assign rfl rfl) ?_
          refine FlowS.fin ?_
          refine To.as [argsS (K.map Ev.ar), ros Ev.cells Ak K, ros Ev.cells (some ⟨b14, 0, none⟩) [a, b, c], box b5 [.int .i64 z.t, .int .i64 z.c, .int .u8 z.k, .int .i64 z.p, .int .i64 z.n, .int .i64 z.cp, .int .i64 z.h, .int .i64 z.d, .slice z.A z.args.length z.cap] 37, box b4 [.int .i64 y.t, .int .i64 y.c, .int .u8 y.k, .int .i64 y.p, .int .i64 y.n, .int .i64 y.cp, .int .i64 y.h, .int .i64 y.d, .slice y.A y.args.length y.cap] 37, box b3 [.int .i64 x.t, .int .i64 x.c, .int .u8 x.k, .int .i64 x.p, .int .i64 x.n, .int .i64 x.cp, .int .i64 x.h, .int .i64 x.d, .slice x.A x.args.length x.cap] 37, argsS ([a, b, c].map Ev.ar)] rfl ?_
          refine To.sub [(0, .agg (Ev.cells a).toArray), (1, .agg (Ev.cells b).toArray), (2, .agg (Ev.cells c).toArray), (3, .pointer (some ⟨b3, 0, none⟩)), (4, .pointer (some ⟨b4, 0, none⟩)), (5, .pointer (some ⟨b5, 0, none⟩)), (6, .bool (decide (x.cmp z < 0))), (10, .bool false), (7, .slice Ak K.length qk), (8, .bool (x.same y))] ⟨rfl, rfl, rfl, rfl, rfl, rfl, rfl, rfl, rfl, rfl, trivial⟩ ?_
          refine To.thenN ?_
          refine To.ret ?_
          refine To.end1 (.inl rfl) Try.results5 rfl ?_
          rw [decide_eq_true (by
            rw [cmp_val] at *
            exact cmpL_trans _ _ _ (by simpa using g90) (by simpa using g96))]
    ·
      rw [less_or g75] at g85; cases g85
end Go.Proofs.Ytneimfacccgaeaa
