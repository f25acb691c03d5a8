/- States and results compared with the reference's. Own text (walks printed by sx.py). -/
import Derived.Test.YtoehnbacbobhiaaGreatDoorL1
import Derived.Test.YtoehnbacbobhiaaGreatDoorX43
set_option linter.unusedVariables false
set_option linter.unusedSimpArgs false
namespace Go.Proofs.YtoehnbacbobhiaaGreatDoor
open Go.RowKit Go.Flow Go.Mem Go.Sep
def Sx.small2 (s : Sx) : Prop := s.vars.length ≤ 1000000 ∧ s.tabs.length ≤ 1000000 ∧ (∀ x ∈ s.tabs, x.l.length ≤ 1000000) ∧ s.dk.l.length ≤ 1000000
set_option maxHeartbeats 2000000 in
set_option maxRecDepth 100000 in
theorem sameState_fn (a b : Sx) (ha : a.small2) :
    Does Tryz.prog 23 [.agg #[.slice a.Av a.vars.length a.qv, .slice a.At a.tabs.length a.qt, .slice a.dk.A a.dk.l.length a.dk.q], .agg #[.slice b.Av b.vars.length b.qv, .slice b.At b.tabs.length b.qt, .slice b.dk.A b.dk.l.length b.dk.q]] [ros encI a.Av a.vars, ros Tb.cells a.At a.tabs, rosS encEn (a.tabs.map Tb.ar), ros encEn a.dk.A a.dk.l, ros encI b.Av b.vars, ros Tb.cells b.At b.tabs, rosS encEn (b.tabs.map Tb.ar), ros encEn b.dk.A b.dk.l] (fun v _ => v = .bool (decide (a.val = b.val))) := by
  have hmx : ∀ {k : List Tb} {i : Nat} {x : Tb}, k[i]? = some x → (k.map Tb.l)[i]? = some x.l := fun h => by rw [List.getElem?_map, h]; rfl
  obtain ⟨ha1, ha2, ha3, ha4⟩ := id ha
  refine Does.enter Tryz.func23 rfl Tryz.ntmps23 rfl (fun w0 => ?_)
  refine To.seq (To.reg ?_)
  refine To.boxed rfl rfl rfl rfl rfl rfl (fun b2 => ?_)
  refine To.boxed rfl rfl rfl rfl rfl rfl (fun b3 => ?_)
  refine To.a (To.nil (To.thenN (To.seq (To.seq (To.reg ?_)))))
  refine To.f fl42_0 ?_
  refine To.lo 1 c24 ?_
  refine To.f fl46_0 ?_
  refine To.lo 0 c24 ?_
  refine To.callV rfl rfl rfl (Ent.fn rfl rfl ca24) (sameArgs_fn a.Av b.Av a.qv b.qv a.vars b.vars (by have := ha.1; omega)) rfl (oks_cons (oks_at 2 rfl) (oks_cons (oks_at 6 rfl) (oks_nil _))) ?_
  refine To.r (Rd.not rfl rfl) ?_
  refine To.rdB rfl rfl rfl (Rd.move rfl rfl) (fun g12 => ?_) (fun g12 => ?_)
  ·
   refine To.k ?_
   refine To.k ?_
   refine To.k ?_
   refine To.k ?_
   refine To.k ?_
   refine To.k ?_
   refine To.k ?_
   refine To.r (Rd.pickT rfl rfl rfl) ?_
   refine To.m ?_
   refine To.k ?_
   refine To.k ?_
   refine To.k ?_
   refine To.k ?_
   refine To.k ?_
   refine To.k ?_
   refine To.r (Rd.pickT rfl rfl rfl) ?_
   refine To.nil (To.thenN ?_)
   refine To.condT rfl ?_
   refine To.seq (To.reg (To.a (To.nil (To.thenN (To.ret (To.thenR ?_))))))
   refine To.end1 (.inl rfl) Tryz.results23 rfl ?_
   refine congrArg Value.bool (decide_eq_false (fun e => ?_)).symm
   simp only [Sx.val, Prod.mk.injEq] at e
   obtain ⟨e1, e2, e3⟩ := e
   have e4 : a.tabs.length = b.tabs.length := by simpa using congrArg List.length e2
   first | omega | simp_all
  refine To.f fl42_1 ?_
  refine To.lo 1 c37 ?_
  refine To.r (Rd.len rfl rfl Tryz.underlying37) ?_
  refine To.f fl46_1 ?_
  refine To.lo 0 c43 ?_
  refine To.r (Rd.len rfl rfl Tryz.underlying43) ?_
  refine To.r (Rd.neq rfl rfl rfl) ?_
  refine To.r (Rd.pickF rfl rfl rfl) ?_
  refine To.rdP rfl rfl rfl (Rd.move rfl rfl) (fun g21 => ?_) (fun g21 => ?_)
  ·
   refine To.k ?_
   refine To.k ?_
   refine To.k ?_
   refine To.k ?_
   refine To.k ?_
   refine To.k ?_
   refine To.r (Rd.pickT rfl rfl rfl) ?_
   refine To.nil (To.thenN ?_)
   refine To.condT rfl ?_
   refine To.seq (To.reg (To.a (To.nil (To.thenN (To.ret (To.thenR ?_))))))
   refine To.end1 (.inl rfl) Tryz.results23 rfl ?_
   refine congrArg Value.bool (decide_eq_false (fun e => ?_)).symm
   simp only [Sx.val, Prod.mk.injEq] at e
   obtain ⟨e1, e2, e3⟩ := e
   have e4 : a.tabs.length = b.tabs.length := by simpa using congrArg List.length e2
   first | omega | simp_all
  refine To.f fl42_2 ?_
  refine To.r (Rd.loadS (i := 1) (us := [.slice a.dk.A a.dk.l.length a.dk.q]) rfl rfl r40 rfl (box_gives (n := 1) rfl) rfl) ?_
  refine To.f fl46_2 ?_
  refine To.lo 0 c44 ?_
  refine To.callV rfl rfl rfl (Ent.fn rfl rfl ca39) (sameTable_fn a.dk.A b.dk.A a.dk.q b.dk.q a.dk.l b.dk.l ha.2.2.2) rfl (oks_cons (oks_at 5 rfl) (oks_cons (oks_at 9 rfl) (oks_nil _))) ?_
  refine To.r (Rd.not rfl rfl) ?_
  refine To.r (Rd.pickF rfl rfl rfl) ?_
  refine To.nil (To.thenN ?_)
  refine To.cond rfl (fun k28 => ?_) (fun k28 => ?_)
  ·
   refine To.seq (To.reg (To.a (To.nil (To.thenN (To.ret (To.thenR ?_))))))
   refine To.end1 (.inl rfl) Tryz.results23 rfl ?_
   refine congrArg Value.bool (decide_eq_false (fun e => ?_)).symm
   simp only [Sx.val, Prod.mk.injEq] at e
   obtain ⟨e1, e2, e3⟩ := e
   have e4 : a.tabs.length = b.tabs.length := by simpa using congrArg List.length e2
   first | omega | simp_all
  refine To.skip (To.thenN (To.seq (To.seq ?_)))
  have hv : a.vars = b.vars := by simpa using g12
  have hlen : a.tabs.length = b.tabs.length := by omega
  have hd : a.dk.l = b.dk.l := by simpa using k28
  refine To.reg ?_
  refine To.f fl42_1 ?_
  refine To.lo 1 c37 ?_
  refine To.r (Rd.len rfl rfl Tryz.underlying37) ?_
  refine To.m (To.nil (To.thenN (To.block ?_)))
  refine To.sub [(2, .pointer (some ⟨b2, 0, none⟩)), (3, .pointer (some ⟨b3, 0, none⟩)), (31, .int .i64 ((a.tabs.length : Nat) : Int)), (32, .int .i64 ((0 : Nat) : Int))] ⟨rfl, rfl, rfl, rfl, trivial⟩ ?_
  refine To.up1 ?_
  refine To.loop (fun mz ρ Γ => ∃ (i : Nat), ρ = [(2, .pointer (some ⟨b2, 0, none⟩)), (3, .pointer (some ⟨b3, 0, none⟩)), (31, .int .i64 ((a.tabs.length : Nat) : Int)), (32, .int .i64 ((i : Nat) : Int))] ∧ Γ = [box b2 [.slice a.Av a.vars.length a.qv, .slice a.At a.tabs.length a.qt, .slice a.dk.A a.dk.l.length a.dk.q] 42, box b3 [.slice b.Av b.vars.length b.qv, .slice b.At b.tabs.length b.qt, .slice b.dk.A b.dk.l.length b.dk.q] 46, ros encI a.Av a.vars, ros Tb.cells a.At a.tabs, rosS encEn (a.tabs.map Tb.ar), ros encEn a.dk.A a.dk.l, ros encI b.Av b.vars, ros Tb.cells b.At b.tabs, rosS encEn (b.tabs.map Tb.ar), ros encEn b.dk.A b.dk.l] ∧ mz = a.tabs.length - i ∧ (i ≤ a.tabs.length) ∧ ((a.tabs.map Tb.l).take i = (b.tabs.map Tb.l).take i)) (a.tabs.length - 0) ⟨0, rfl, rfl, rfl, (Nat.zero_le _), rfl⟩ ?_
  rintro mz _ _ ⟨i, rfl, rfl, rfl, hi, hI⟩
  refine To.seq (To.reg ?_)
  refine To.r (Rd.lss rfl rfl rfl) ?_
  refine To.nil (To.thenN (To.seq ?_))
  refine To.condP rfl (fun k33 => ?_) (fun k33 => ?_)
  ·
   obtain ⟨x, hx⟩ : ∃ z0, a.tabs[i]? = some z0 := ⟨a.tabs[i]'(by omega), List.getElem?_eq_getElem _⟩
   obtain ⟨y, hy⟩ : ∃ z0, b.tabs[i]? = some z0 := ⟨b.tabs[i]'(by omega), List.getElem?_eq_getElem _⟩
   refine To.skip (To.thenN (To.seq (To.block (To.seq (To.reg (To.m ?_))))))
   refine To.a (To.nil (To.thenN (To.seq ?_)))
   refine To.flow [] [⟨0, [], 0⟩, ⟨2, [], 0⟩, ⟨5, [], 0⟩, ⟨7, [], 0⟩, ⟨1, [], 1⟩, ⟨3, [], 1⟩, ⟨4, [], 1⟩, ⟨6, [], 1⟩, ⟨8, [], 1⟩, ⟨9, [], 1⟩, ⟨10, [], 3⟩, ⟨11, [], 0⟩] mixed (by kernel_rfl) (oks_nil _) ?_
   refine FlowS.fi fl42_1 ?_
   refine FlowS.mo ?_
   refine FlowS.fi fl46_1 ?_
   refine FlowS.mo ?_
   refine FlowS.lo 0 c37 ?_
   refine FlowS.r rfl (Rd.indexRos encTb (i := 3) (j := i) rfl rfl rfl s37 rfl hx) ?_
   refine FlowS.r rfl (Rd.loadS (i := 3) rfl rfl r40 rfl (ros_gives encTb hx) (encTb.len _)) ?_
   refine FlowS.lo 1 c43 ?_
   refine FlowS.r rfl (Rd.indexRos encTb (i := 7) (j := i) rfl rfl rfl s43 rfl hy) ?_
   refine FlowS.r rfl (Rd.load (i := 7) rfl rfl c44 rfl (gives_1 (ros_gives encTb hy) rfl)) ?_
   refine FlowS.callQ rfl rfl rfl rfl (Ent.fn rfl rfl ca39) (sameTable_fn x.A y.A x.q y.q x.l y.l (ha.2.2.1 x (List.mem_of_getElem? hx))) rfl (oks_cons (oks_S 4 rfl (mem_at hx Tb.ar)) (oks_cons (oks_S 8 rfl (mem_at hy Tb.ar)) (oks_nil _))) ?_
   refine FlowS.f rfl (Rd.not rfl rfl) ?_
   refine FlowS.fin ?_
   refine To.thenN ?_
   refine To.cond rfl (fun k46 => ?_) (fun k46 => ?_)
   ·
    refine To.seq (To.reg (To.a (To.nil (To.thenN (To.ret (To.blockR (To.thenR (To.thenR (To.blockR (To.thenR ?_))))))))))
    refine To.end1 (.inl rfl) Tryz.results23 rfl ?_
    refine congrArg Value.bool (decide_eq_false (fun e => ?_)).symm
    simp only [Sx.val, Prod.mk.injEq] at e
    obtain ⟨e1, e2, e3⟩ := e
    have e4 : a.tabs.length = b.tabs.length := by simpa using congrArg List.length e2
    have h1 := hmx hx
    rw [e2, hmx hy] at h1
    have h2 := Option.some.inj h1
    simp [h2] at k46
   refine To.skip (To.blockN (To.thenN (To.reg ?_)))
   refine To.r (Rd.inc rfl rfl rfl (by omega)) ?_
   refine To.m (To.nil (To.thenN ?_))
   refine To.sub [(2, .pointer (some ⟨b2, 0, none⟩)), (3, .pointer (some ⟨b3, 0, none⟩)), (31, .int .i64 ((a.tabs.length : Nat) : Int)), (32, .int .i64 (((i + 1) : Nat) : Int))] ⟨rfl, rfl, rfl, rfl, trivial⟩ ?_
   refine To.again (a.tabs.length - (i + 1)) (by omega) ⟨i + 1, rfl, rfl, rfl, (by omega), (by rw [take_of_get (hmx hx), take_of_get (hmx hy), hI, show x.l = y.l from by simpa using k46])⟩
  refine To.exit (To.thenX (To.thenX (To.blockX (To.thenN (To.seq (To.reg (To.a (To.nil (To.thenN (To.ret ?_))))))))))
  refine To.end1 (.inl rfl) Tryz.results23 rfl ?_
  refine congrArg Value.bool (decide_eq_true ?_).symm
  unfold Sx.val
  rw [hv, hd, eq_len (by simp only [List.length_map]; omega) (by simp only [List.length_map]; omega) hI]
def Dm.sx (d : Dm) : Sx := ⟨d.Av, d.qv, d.vars, d.At, d.qt, d.tabs, d.dk⟩
theorem rs_iff {d e : Dm} : rs d.val = rs e.val ↔ d.sx.val = e.sx.val ∧ d.effs.map Ef.val = e.effs.map Ef.val ∧ d.cost = e.cost := by
  unfold rs Dm.val Sx.val Dm.sx
  simp only [Prod.mk.injEq]
  constructor
  · rintro ⟨h1, h2, h3, h4, h5⟩; exact ⟨⟨h1, h2, h3⟩, h4, h5⟩
  · rintro ⟨⟨h1, h2, h3⟩, h4, h5⟩; exact ⟨h1, h2, h3, h4, h5⟩
set_option maxHeartbeats 2000000 in
set_option maxRecDepth 100000 in
theorem same_fn (d e : Dm) (hd : d.sx.small2) (hk : ∀ x ∈ d.effs, 0 ≤ x.k ∧ x.k ≤ 255) (hea : ∀ x ∈ d.effs, x.args.length ≤ 1000000000000) (hel : d.effs.length ≤ 1000000000) :
    Does Tryz.prog 10 [.agg #[.slice d.Av d.vars.length d.qv, .slice d.At d.tabs.length d.qt, .slice d.dk.A d.dk.l.length d.dk.q, .slice d.Ae d.effs.length d.qe, .int .i64 d.cost], .agg #[.slice e.Av e.vars.length e.qv, .slice e.At e.tabs.length e.qt, .slice e.dk.A e.dk.l.length e.dk.q, .slice e.Ae e.effs.length e.qe, .int .i64 e.cost]] [ros encI d.Av d.vars, ros Tb.cells d.At d.tabs, rosS encEn (d.tabs.map Tb.ar), ros encEn d.dk.A d.dk.l, ros Ef.cells d.Ae d.effs, rosS encI (d.effs.map Ef.ar), ros encI e.Av e.vars, ros Tb.cells e.At e.tabs, rosS encEn (e.tabs.map Tb.ar), ros encEn e.dk.A e.dk.l, ros Ef.rcells e.Ae e.effs, rosS encI (e.effs.map Ef.ar)] (fun v _ => v = .bool (decide (rs d.val = rs e.val))) := by
  have hmx : ∀ {k : List Ef} {i : Nat} {x : Ef}, k[i]? = some x → (k.map Ef.val)[i]? = some x.val := fun h => by rw [List.getElem?_map, h]; rfl
  refine Does.enter Tryz.func10 rfl Tryz.ntmps10 rfl (fun w0 => ?_)
  refine To.seq (To.reg ?_)
  refine To.boxed rfl rfl rfl rfl rfl rfl (fun b2 => ?_)
  refine To.boxed rfl rfl rfl rfl rfl rfl (fun b3 => ?_)
  refine To.a (To.nil (To.thenN (To.seq (To.seq (To.reg ?_)))))
  refine To.f fl56_2 ?_
  refine To.lo 1 c3 ?_
  refine To.f fl68_2 ?_
  refine To.lo 0 c3 ?_
  refine To.r (Rd.neq rfl rfl rfl) ?_
  refine To.rdP rfl rfl rfl (Rd.move rfl rfl) (fun g13 => ?_) (fun g13 => ?_)
  ·
   refine To.k ?_
   refine To.k ?_
   refine To.k ?_
   refine To.k ?_
   refine To.k ?_
   refine To.k ?_
   refine To.k ?_
   refine To.r (Rd.pickT rfl rfl rfl) ?_
   refine To.m ?_
   refine To.k ?_
   refine To.k ?_
   refine To.k ?_
   refine To.k ?_
   refine To.k ?_
   refine To.k ?_
   refine To.r (Rd.pickT rfl rfl rfl) ?_
   refine To.nil (To.thenN ?_)
   refine To.condT rfl ?_
   refine To.seq (To.reg (To.a (To.nil (To.thenN (To.ret (To.thenR ?_))))))
   refine To.end1 (.inl rfl) Tryz.results10 rfl ?_
   refine congrArg Value.bool (decide_eq_false (fun h => ?_)).symm
   rw [rs_iff] at h
   obtain ⟨h1, h2, h3⟩ := h
   have h4 : d.effs.length = e.effs.length := by simpa using congrArg List.length h2
   first | omega | simp_all
  refine To.f fl56_1 ?_
  refine To.lo 1 c54 ?_
  refine To.r (Rd.len rfl rfl Tryz.underlying54) ?_
  refine To.f fl68_1 ?_
  refine To.lo 0 c66 ?_
  refine To.r (Rd.len rfl rfl Tryz.underlying66) ?_
  refine To.r (Rd.neq rfl rfl rfl) ?_
  refine To.r (Rd.pickF rfl rfl rfl) ?_
  refine To.rdP rfl rfl rfl (Rd.move rfl rfl) (fun g22 => ?_) (fun g22 => ?_)
  ·
   refine To.k ?_
   refine To.k ?_
   refine To.k ?_
   refine To.k ?_
   refine To.k ?_
   refine To.k ?_
   refine To.r (Rd.pickT rfl rfl rfl) ?_
   refine To.nil (To.thenN ?_)
   refine To.condT rfl ?_
   refine To.seq (To.reg (To.a (To.nil (To.thenN (To.ret (To.thenR ?_))))))
   refine To.end1 (.inl rfl) Tryz.results10 rfl ?_
   refine congrArg Value.bool (decide_eq_false (fun h => ?_)).symm
   rw [rs_iff] at h
   obtain ⟨h1, h2, h3⟩ := h
   have h4 : d.effs.length = e.effs.length := by simpa using congrArg List.length h2
   first | omega | simp_all
  refine To.f fl56_0 ?_
  refine To.r (Rd.loadS (i := 1) (us := [.slice d.Av d.vars.length d.qv, .slice d.At d.tabs.length d.qt, .slice d.dk.A d.dk.l.length d.dk.q]) rfl rfl r42 rfl (box_gives (n := 3) rfl) rfl) ?_
  refine To.f fl68_0 ?_
  refine To.r (Rd.loadS (i := 0) (us := [.slice e.Av e.vars.length e.qv, .slice e.At e.tabs.length e.qt, .slice e.dk.A e.dk.l.length e.dk.q]) rfl rfl r46 rfl (box_gives (n := 3) rfl) rfl) ?_
  refine To.callV rfl rfl rfl (Ent.fn rfl rfl ca23) (sameState_fn d.sx e.sx hd) rfl (oks_cons (oks_at 2 rfl) (oks_cons (oks_at 3 rfl) (oks_cons (oks_at 4 rfl) (oks_cons (oks_at 5 rfl) (oks_cons (oks_at 8 rfl) (oks_cons (oks_at 9 rfl) (oks_cons (oks_at 10 rfl) (oks_cons (oks_at 11 rfl) (oks_nil _))))))))) ?_
  refine To.r (Rd.not rfl rfl) ?_
  refine To.r (Rd.pickF rfl rfl rfl) ?_
  refine To.nil (To.thenN ?_)
  refine To.cond rfl (fun k29 => ?_) (fun k29 => ?_)
  ·
   refine To.seq (To.reg (To.a (To.nil (To.thenN (To.ret (To.thenR ?_))))))
   refine To.end1 (.inl rfl) Tryz.results10 rfl ?_
   refine congrArg Value.bool (decide_eq_false (fun h => ?_)).symm
   rw [rs_iff] at h
   obtain ⟨h1, h2, h3⟩ := h
   have h4 : d.effs.length = e.effs.length := by simpa using congrArg List.length h2
   first | omega | simp_all
  refine To.skip (To.thenN (To.seq (To.seq ?_)))
  have hco : d.cost = e.cost := by omega
  have hlen : d.effs.length = e.effs.length := by omega
  have hs : d.sx.val = e.sx.val := by simpa using k29
  refine To.reg ?_
  refine To.f fl56_1 ?_
  refine To.lo 1 c54 ?_
  refine To.r (Rd.len rfl rfl Tryz.underlying54) ?_
  refine To.m (To.nil (To.thenN (To.block ?_)))
  refine To.sub [(2, .pointer (some ⟨b2, 0, none⟩)), (3, .pointer (some ⟨b3, 0, none⟩)), (31, .slice d.Ae d.effs.length d.qe), (32, .int .i64 ((d.effs.length : Nat) : Int)), (33, .int .i64 ((0 : Nat) : Int))] ⟨rfl, rfl, rfl, rfl, rfl, trivial⟩ ?_
  refine To.up1 ?_
  refine To.loop (fun mz ρ Γ => ∃ (i : Nat), ρ = [(2, .pointer (some ⟨b2, 0, none⟩)), (3, .pointer (some ⟨b3, 0, none⟩)), (31, .slice d.Ae d.effs.length d.qe), (32, .int .i64 ((d.effs.length : Nat) : Int)), (33, .int .i64 ((i : Nat) : Int))] ∧ Γ = [box b2 [.slice d.Av d.vars.length d.qv, .slice d.At d.tabs.length d.qt, .slice d.dk.A d.dk.l.length d.dk.q, .slice d.Ae d.effs.length d.qe, .int .i64 d.cost] 56, box b3 [.slice e.Av e.vars.length e.qv, .slice e.At e.tabs.length e.qt, .slice e.dk.A e.dk.l.length e.dk.q, .slice e.Ae e.effs.length e.qe, .int .i64 e.cost] 68, ros encI d.Av d.vars, ros Tb.cells d.At d.tabs, rosS encEn (d.tabs.map Tb.ar), ros encEn d.dk.A d.dk.l, ros Ef.cells d.Ae d.effs, rosS encI (d.effs.map Ef.ar), ros encI e.Av e.vars, ros Tb.cells e.At e.tabs, rosS encEn (e.tabs.map Tb.ar), ros encEn e.dk.A e.dk.l, ros Ef.rcells e.Ae e.effs, rosS encI (e.effs.map Ef.ar)] ∧ mz = d.effs.length - i ∧ (i ≤ d.effs.length) ∧ ((d.effs.map Ef.val).take i = (e.effs.map Ef.val).take i)) (d.effs.length - 0) ⟨0, rfl, rfl, rfl, (Nat.zero_le _), rfl⟩ ?_
  rintro mz _ _ ⟨i, rfl, rfl, rfl, hi, hI⟩
  refine To.seq (To.reg ?_)
  refine To.r (Rd.lss rfl rfl rfl) ?_
  refine To.nil (To.thenN (To.seq ?_))
  refine To.condP rfl (fun k34 => ?_) (fun k34 => ?_)
  ·
   refine To.skip (To.thenN (To.seq (To.block (To.seq ?_))))
   obtain ⟨x, hx⟩ : ∃ z0, d.effs[i]? = some z0 := ⟨d.effs[i]'(by omega), List.getElem?_eq_getElem _⟩
   obtain ⟨y, hy⟩ : ∃ z0, e.effs[i]? = some z0 := ⟨e.effs[i]'(by omega), List.getElem?_eq_getElem _⟩
   have hxk := hk x (List.mem_of_getElem? hx)
   refine To.reg (To.m ?_)
   refine To.r (Rd.indexRos encEf (i := 6) (j := i) rfl rfl rfl s54 rfl hx) ?_
   refine To.r (Rd.loadS (i := 6) rfl rfl r84 rfl (ros_gives encEf hx) (encEf.len _)) ?_
   refine To.alloc rfl rfl rfl rfl z84 (fun b6 => ?_)
   refine To.a ?_
   refine To.u (Up.storeS (i := 0) rfl rfl rfl r84 rfl rfl rfl (box_takesAll rfl)) ?_
   refine To.nil (To.thenN (To.seq (To.reg ?_)))
   refine To.f fl68_1 ?_
   refine To.lo 2 c66 ?_
   refine To.m ?_
   refine To.r (Rd.indexRos encRe (i := 13) (j := i) rfl rfl rfl s66 rfl hy) ?_
   refine To.r (Rd.loadS (i := 13) rfl rfl r92 rfl (ros_gives encRe hy) (encRe.len _)) ?_
   refine To.alloc rfl rfl rfl rfl z92 (fun b7 => ?_)
   refine To.u (Up.storeS (i := 0) rfl rfl rfl r92 rfl rfl rfl (box_takesAll rfl)) ?_
   refine To.nil (To.thenN (To.seq (To.reg ?_)))
   refine To.meet (T := Bool) (fun t => ([(2, .pointer (some ⟨b2, 0, none⟩)), (3, .pointer (some ⟨b3, 0, none⟩)), (31, .slice d.Ae d.effs.length d.qe), (32, .int .i64 ((d.effs.length : Nat) : Int)), (33, .int .i64 ((i : Nat) : Int)), (5, .int .i64 ((i : Nat) : Int)), (98, .bool t)], [box b2 [.slice d.Av d.vars.length d.qv, .slice d.At d.tabs.length d.qt, .slice d.dk.A d.dk.l.length d.dk.q, .slice d.Ae d.effs.length d.qe, .int .i64 d.cost] 56, box b3 [.slice e.Av e.vars.length e.qv, .slice e.At e.tabs.length e.qt, .slice e.dk.A e.dk.l.length e.dk.q, .slice e.Ae e.effs.length e.qe, .int .i64 e.cost] 68, ros encI d.Av d.vars, ros Tb.cells d.At d.tabs, rosS encEn (d.tabs.map Tb.ar), ros encEn d.dk.A d.dk.l, ros Ef.cells d.Ae d.effs, rosS encI (d.effs.map Ef.ar), ros encI e.Av e.vars, ros Tb.cells e.At e.tabs, rosS encEn (e.tabs.map Tb.ar), ros encEn e.dk.A e.dk.l, ros Ef.rcells e.Ae e.effs, rosS encI (e.effs.map Ef.ar)])) (fun t => t = (decide (x.val ≠ y.val))) ?_ (fun t ht => ?_)
   ·
    refine To.f fl84_0 ?_
    refine To.lo 1 c82 ?_
    refine To.r (Rd.conv rfl rfl Tryz.underlying82 Tryz.underlying3 (IntWalk.i64_in _ (by omega))) ?_
    refine To.f fl92_0 ?_
    refine To.lo 0 c3 ?_
    refine To.r (Rd.neq rfl rfl rfl) ?_
    refine To.rdP rfl rfl rfl (Rd.move rfl rfl) (fun g49 => ?_) (fun g49 => ?_)
    ·
     refine To.k ?_
     refine To.k ?_
     refine To.k ?_
     refine To.k ?_
     refine To.k ?_
     refine To.r (Rd.pickT rfl rfl rfl) ?_
     refine To.m ?_
     refine To.k ?_
     refine To.k ?_
     refine To.k ?_
     refine To.k ?_
     refine To.k ?_
     refine To.r (Rd.pickT rfl rfl rfl) ?_
     refine To.m ?_
     refine To.k ?_
     refine To.k ?_
     refine To.k ?_
     refine To.k ?_
     refine To.k ?_
     refine To.r (Rd.pickT rfl rfl rfl) ?_
     refine To.m ?_
     refine To.k ?_
     refine To.k ?_
     refine To.k ?_
     refine To.k ?_
     refine To.k ?_
     refine To.r (Rd.pickT rfl rfl rfl) ?_
     refine To.m ?_
     refine To.k ?_
     refine To.k ?_
     refine To.k ?_
     refine To.k ?_
     refine To.k ?_
     refine To.r (Rd.pickT rfl rfl rfl) ?_
     refine To.m ?_
     refine To.k ?_
     refine To.k ?_
     refine To.k ?_
     refine To.k ?_
     refine To.k ?_
     refine To.r (Rd.pickT rfl rfl rfl) ?_
     refine To.m ?_
     refine To.k ?_
     refine To.k ?_
     refine To.k ?_
     refine To.k ?_
     refine To.k ?_
     refine To.k ?_
     refine To.r (Rd.pickT rfl rfl rfl) ?_
     refine To.nil (To.thenN ?_)
     refine To.del1 ?_
     refine To.del0 ?_
     refine To.here true (by simp [Ef.val, g49]) ⟨rfl, rfl, rfl, rfl, rfl, rfl, rfl, trivial⟩ rfl
    refine To.f fl84_1 ?_
    refine To.lo 1 c3 ?_
    refine To.f fl92_1 ?_
    refine To.lo 0 c3 ?_
    refine To.r (Rd.neq rfl rfl rfl) ?_
    refine To.r (Rd.pickF rfl rfl rfl) ?_
    refine To.rdP rfl rfl rfl (Rd.move rfl rfl) (fun g56 => ?_) (fun g56 => ?_)
    ·
     refine To.k ?_
     refine To.k ?_
     refine To.k ?_
     refine To.k ?_
     refine To.k ?_
     refine To.r (Rd.pickT rfl rfl rfl) ?_
     refine To.m ?_
     refine To.k ?_
     refine To.k ?_
     refine To.k ?_
     refine To.k ?_
     refine To.k ?_
     refine To.r (Rd.pickT rfl rfl rfl) ?_
     refine To.m ?_
     refine To.k ?_
     refine To.k ?_
     refine To.k ?_
     refine To.k ?_
     refine To.k ?_
     refine To.r (Rd.pickT rfl rfl rfl) ?_
     refine To.m ?_
     refine To.k ?_
     refine To.k ?_
     refine To.k ?_
     refine To.k ?_
     refine To.k ?_
     refine To.r (Rd.pickT rfl rfl rfl) ?_
     refine To.m ?_
     refine To.k ?_
     refine To.k ?_
     refine To.k ?_
     refine To.k ?_
     refine To.k ?_
     refine To.r (Rd.pickT rfl rfl rfl) ?_
     refine To.m ?_
     refine To.k ?_
     refine To.k ?_
     refine To.k ?_
     refine To.k ?_
     refine To.k ?_
     refine To.k ?_
     refine To.r (Rd.pickT rfl rfl rfl) ?_
     refine To.nil (To.thenN ?_)
     refine To.del1 ?_
     refine To.del0 ?_
     refine To.here true (by simp [Ef.val, Decidable.of_not_not g49, g56]) ⟨rfl, rfl, rfl, rfl, rfl, rfl, rfl, trivial⟩ rfl
    refine To.f fl84_2 ?_
    refine To.lo 1 c3 ?_
    refine To.f fl92_2 ?_
    refine To.lo 0 c3 ?_
    refine To.r (Rd.neq rfl rfl rfl) ?_
    refine To.r (Rd.pickF rfl rfl rfl) ?_
    refine To.rdP rfl rfl rfl (Rd.move rfl rfl) (fun g63 => ?_) (fun g63 => ?_)
    ·
     refine To.k ?_
     refine To.k ?_
     refine To.k ?_
     refine To.k ?_
     refine To.k ?_
     refine To.r (Rd.pickT rfl rfl rfl) ?_
     refine To.m ?_
     refine To.k ?_
     refine To.k ?_
     refine To.k ?_
     refine To.k ?_
     refine To.k ?_
     refine To.r (Rd.pickT rfl rfl rfl) ?_
     refine To.m ?_
     refine To.k ?_
     refine To.k ?_
     refine To.k ?_
     refine To.k ?_
     refine To.k ?_
     refine To.r (Rd.pickT rfl rfl rfl) ?_
     refine To.m ?_
     refine To.k ?_
     refine To.k ?_
     refine To.k ?_
     refine To.k ?_
     refine To.k ?_
     refine To.r (Rd.pickT rfl rfl rfl) ?_
     refine To.m ?_
     refine To.k ?_
     refine To.k ?_
     refine To.k ?_
     refine To.k ?_
     refine To.k ?_
     refine To.k ?_
     refine To.r (Rd.pickT rfl rfl rfl) ?_
     refine To.nil (To.thenN ?_)
     refine To.del1 ?_
     refine To.del0 ?_
     refine To.here true (by simp [Ef.val, Decidable.of_not_not g49, Decidable.of_not_not g56, g63]) ⟨rfl, rfl, rfl, rfl, rfl, rfl, rfl, trivial⟩ rfl
    refine To.f fl84_3 ?_
    refine To.lo 1 c2 ?_
    refine To.f fl92_3 ?_
    refine To.lo 0 c2 ?_
    refine To.r (Rd.neq rfl rfl rfl) ?_
    refine To.r (Rd.pickF rfl rfl rfl) ?_
    refine To.rdP rfl rfl rfl (Rd.move rfl rfl) (fun g70 => ?_) (fun g70 => ?_)
    ·
     refine To.k ?_
     refine To.k ?_
     refine To.k ?_
     refine To.k ?_
     refine To.k ?_
     refine To.r (Rd.pickT rfl rfl rfl) ?_
     refine To.m ?_
     refine To.k ?_
     refine To.k ?_
     refine To.k ?_
     refine To.k ?_
     refine To.k ?_
     refine To.r (Rd.pickT rfl rfl rfl) ?_
     refine To.m ?_
     refine To.k ?_
     refine To.k ?_
     refine To.k ?_
     refine To.k ?_
     refine To.k ?_
     refine To.r (Rd.pickT rfl rfl rfl) ?_
     refine To.m ?_
     refine To.k ?_
     refine To.k ?_
     refine To.k ?_
     refine To.k ?_
     refine To.k ?_
     refine To.k ?_
     refine To.r (Rd.pickT rfl rfl rfl) ?_
     refine To.nil (To.thenN ?_)
     refine To.del1 ?_
     refine To.del0 ?_
     refine To.here true (by simp [Ef.val, Decidable.of_not_not g49, Decidable.of_not_not g56, Decidable.of_not_not g63, g70]) ⟨rfl, rfl, rfl, rfl, rfl, rfl, rfl, trivial⟩ rfl
    refine To.f fl84_4 ?_
    refine To.lo 1 c2 ?_
    refine To.f fl92_4 ?_
    refine To.lo 0 c2 ?_
    refine To.r (Rd.neq rfl rfl rfl) ?_
    refine To.r (Rd.pickF rfl rfl rfl) ?_
    refine To.rdP rfl rfl rfl (Rd.move rfl rfl) (fun g77 => ?_) (fun g77 => ?_)
    ·
     refine To.k ?_
     refine To.k ?_
     refine To.k ?_
     refine To.k ?_
     refine To.k ?_
     refine To.r (Rd.pickT rfl rfl rfl) ?_
     refine To.m ?_
     refine To.k ?_
     refine To.k ?_
     refine To.k ?_
     refine To.k ?_
     refine To.k ?_
     refine To.r (Rd.pickT rfl rfl rfl) ?_
     refine To.m ?_
     refine To.k ?_
     refine To.k ?_
     refine To.k ?_
     refine To.k ?_
     refine To.k ?_
     refine To.k ?_
     refine To.r (Rd.pickT rfl rfl rfl) ?_
     refine To.nil (To.thenN ?_)
     refine To.del1 ?_
     refine To.del0 ?_
     refine To.here true (by simp [Ef.val, Decidable.of_not_not g49, Decidable.of_not_not g56, Decidable.of_not_not g63, Decidable.of_not_not g70, g77]) ⟨rfl, rfl, rfl, rfl, rfl, rfl, rfl, trivial⟩ rfl
    refine To.f fl84_5 ?_
    refine To.lo 1 c2 ?_
    refine To.f fl92_5 ?_
    refine To.lo 0 c2 ?_
    refine To.r (Rd.neq rfl rfl rfl) ?_
    refine To.r (Rd.pickF rfl rfl rfl) ?_
    refine To.rdP rfl rfl rfl (Rd.move rfl rfl) (fun g84 => ?_) (fun g84 => ?_)
    ·
     refine To.k ?_
     refine To.k ?_
     refine To.k ?_
     refine To.k ?_
     refine To.k ?_
     refine To.r (Rd.pickT rfl rfl rfl) ?_
     refine To.m ?_
     refine To.k ?_
     refine To.k ?_
     refine To.k ?_
     refine To.k ?_
     refine To.k ?_
     refine To.k ?_
     refine To.r (Rd.pickT rfl rfl rfl) ?_
     refine To.nil (To.thenN ?_)
     refine To.del1 ?_
     refine To.del0 ?_
     refine To.here true (by simp [Ef.val, Decidable.of_not_not g49, Decidable.of_not_not g56, Decidable.of_not_not g63, Decidable.of_not_not g70, Decidable.of_not_not g77, g84]) ⟨rfl, rfl, rfl, rfl, rfl, rfl, rfl, trivial⟩ rfl
    refine To.f fl84_6 ?_
    refine To.lo 1 c4 ?_
    refine To.f fl92_6 ?_
    refine To.lo 0 c4 ?_
    refine To.r (Rd.neqB rfl Tryz.underlying4 rfl rfl) ?_
    refine To.r (Rd.pickF rfl rfl rfl) ?_
    refine To.rdB rfl rfl rfl (Rd.move rfl rfl) (fun g91 => ?_) (fun g91 => ?_)
    ·
     refine To.k ?_
     refine To.k ?_
     refine To.k ?_
     refine To.k ?_
     refine To.k ?_
     refine To.k ?_
     refine To.r (Rd.pickT rfl rfl rfl) ?_
     refine To.nil (To.thenN ?_)
     refine To.del1 ?_
     refine To.del0 ?_
     refine To.here true (by (simp at g91); simp [Ef.val, Decidable.of_not_not g49, Decidable.of_not_not g56, Decidable.of_not_not g63, Decidable.of_not_not g70, Decidable.of_not_not g77, Decidable.of_not_not g84, g91]) ⟨rfl, rfl, rfl, rfl, rfl, rfl, rfl, trivial⟩ rfl
    refine To.f fl84_7 ?_
    refine To.lo 1 c24 ?_
    refine To.f fl92_7 ?_
    refine To.lo 0 c24 ?_
    refine To.callV rfl rfl rfl (Ent.fn rfl rfl ca24) (sameArgs_fn x.A y.A x.q y.q x.args y.args (hea x (List.mem_of_getElem? hx))) rfl (oks_cons (oks_S 9 rfl (mem_at hx Ef.ar)) (oks_cons (oks_S 15 rfl (mem_at hy Ef.ar)) (oks_nil _))) ?_
    refine To.r (Rd.not rfl rfl) ?_
    refine To.r (Rd.pickF rfl rfl rfl) ?_
    refine To.nil (To.thenN ?_)
    refine To.del1 ?_
    refine To.del0 ?_
    refine To.here (!(decide (x.args = y.args))) (by (simp at g91); simp [Ef.val, Decidable.of_not_not g49, Decidable.of_not_not g56, Decidable.of_not_not g63, Decidable.of_not_not g70, Decidable.of_not_not g77, Decidable.of_not_not g84, g91]) ⟨rfl, rfl, rfl, rfl, rfl, rfl, rfl, trivial⟩ rfl
   subst ht
   show To _ [(2, .pointer (some ⟨b2, 0, none⟩)), (3, .pointer (some ⟨b3, 0, none⟩)), (31, .slice d.Ae d.effs.length d.qe), (32, .int .i64 ((d.effs.length : Nat) : Int)), (33, .int .i64 ((i : Nat) : Int)), (5, .int .i64 ((i : Nat) : Int)), (98, .bool (decide (x.val ≠ y.val)))] [box b2 [.slice d.Av d.vars.length d.qv, .slice d.At d.tabs.length d.qt, .slice d.dk.A d.dk.l.length d.dk.q, .slice d.Ae d.effs.length d.qe, .int .i64 d.cost] 56, box b3 [.slice e.Av e.vars.length e.qv, .slice e.At e.tabs.length e.qt, .slice e.dk.A e.dk.l.length e.dk.q, .slice e.Ae e.effs.length e.qe, .int .i64 e.cost] 68, ros encI d.Av d.vars, ros Tb.cells d.At d.tabs, rosS encEn (d.tabs.map Tb.ar), ros encEn d.dk.A d.dk.l, ros Ef.cells d.Ae d.effs, rosS encI (d.effs.map Ef.ar), ros encI e.Av e.vars, ros Tb.cells e.At e.tabs, rosS encEn (e.tabs.map Tb.ar), ros encEn e.dk.A e.dk.l, ros Ef.rcells e.Ae e.effs, rosS encI (e.effs.map Ef.ar)] _
   refine To.condP rfl (fun k98 => ?_) (fun k98 => ?_)
   ·
    refine To.seq (To.reg (To.a (To.nil (To.thenN (To.ret (To.blockR (To.thenR (To.thenR (To.blockR (To.thenR ?_))))))))))
    refine To.end1 (.inl rfl) Tryz.results10 rfl ?_
    refine congrArg Value.bool (decide_eq_false (fun h => ?_)).symm
    rw [rs_iff] at h
    obtain ⟨h1, h2, h3⟩ := h
    have h4 : d.effs.length = e.effs.length := by simpa using congrArg List.length h2
    have h5 := hmx hx
    rw [h2, hmx hy] at h5
    exact k98 (Option.some.inj h5).symm
   refine To.skip (To.blockN (To.thenN (To.reg ?_)))
   refine To.r (Rd.inc rfl rfl rfl (by omega)) ?_
   refine To.m (To.nil (To.thenN ?_))
   refine To.sub [(2, .pointer (some ⟨b2, 0, none⟩)), (3, .pointer (some ⟨b3, 0, none⟩)), (31, .slice d.Ae d.effs.length d.qe), (32, .int .i64 ((d.effs.length : Nat) : Int)), (33, .int .i64 (((i + 1) : Nat) : Int))] ⟨rfl, rfl, rfl, rfl, rfl, trivial⟩ ?_
   refine To.again (d.effs.length - (i + 1)) (by omega) ⟨i + 1, rfl, rfl, rfl, (by omega), (by rw [take_of_get (hmx hx), take_of_get (hmx hy), hI, show x.val = y.val from Decidable.of_not_not k98])⟩
  refine To.exit (To.thenX (To.thenX (To.blockX (To.thenN (To.seq (To.reg (To.a (To.nil (To.thenN (To.ret ?_))))))))))
  refine To.end1 (.inl rfl) Tryz.results10 rfl ?_
  refine congrArg Value.bool (decide_eq_true ?_).symm
  rw [rs_iff]
  exact ⟨hs, eq_len (by simp only [List.length_map]; omega) (by simp only [List.length_map]; omega) hI, hco⟩
end Go.Proofs.YtoehnbacbobhiaaGreatDoor
