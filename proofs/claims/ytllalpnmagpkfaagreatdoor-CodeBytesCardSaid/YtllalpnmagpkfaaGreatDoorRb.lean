/- Merged out of R3, R4 by merge.py. Own text. -/
import Derived.Test.YtllalpnmagpkfaaGreatDoorRa
set_option linter.unusedVariables false
set_option linter.unusedSimpArgs false
set_option maxHeartbeats 2000000
set_option maxRecDepth 100000
namespace Go.Proofs.YtllalpnmagpkfaaGreatDoor
open Go.RowKit Go.Flow Go.Mem Go.Sep Go.In
theorem Ex.sub_kids {f : Ex → List Value} {e x : Ex} {j : Nat} (h : e.args[j]? = some x) : ∀ c ∈ x.kids f, c ∈ e.kids f := fun c hc => by
 rw [Ex.kids_eq, Ex.kidsL_map]
 exact List.mem_cons_of_mem _ (List.mem_flatMap.2 ⟨x, mog h, hc⟩)
theorem Ex.own_kids {f : Ex → List Value} (e : Ex) : ros f e.A e.args ∈ e.kids f := by rw [Ex.kids_eq]; exact List.mem_cons_self ..
theorem Ex.ls_kids {A : Option Addr} {l : List Ex} {x : Ex} {j : Nat} (h : l[j]? = some x) : ∀ c ∈ x.kids encE, c ∈ lsE A l := fun c hc => by
 show c ∈ _ :: Ex.kidsL encE l
 rw [Ex.kidsL_map]
 exact List.mem_cons_of_mem _ (List.mem_flatMap.2 ⟨x, mog h, hc⟩)
theorem cEs_one (cc : Cc) (x : PE) : cEs cc [x] = cE cc x := List.append_nil _
theorem cEs_step (cc : Cc) {l : List Ex} {j : Nat} {x : Ex} (h : l[j]? = some x) : cEs cc (Ex.pL (l.take (j + 1))) = cEs cc (Ex.pL (l.take j)) ++ cE cc x.pure := by
 rw [take_of_get h, Ex.pureL_map, List.map_append, cEs_app, ← Ex.pureL_map]; congr 1; exact cEs_one cc x.pure
theorem cEs_le (cc : Cc) {l : List Ex} {j : Nat} {x : Ex} (h : l[j]? = some x) : (cEs cc (Ex.pL (l.take j))).length + (cE cc x.pure).length ≤ (cEs cc (Ex.pL l)).length := by
 have e1 : l = l.take (j + 1) ++ l.drop (j + 1) := (List.take_append_drop ..).symm
 have e2 : cEs cc (Ex.pL l) = cEs cc (Ex.pL (l.take (j + 1))) ++ cEs cc (Ex.pL (l.drop (j + 1))) := by
  conv => lhs; rw [e1, Ex.pureL_map, List.map_append, cEs_app]
  rw [Ex.pureL_map, Ex.pureL_map]
 rw [e2, cEs_step cc h, lap, lap]; omega
theorem expr_step (F : Fl) (hB : BndF F) (ci : Nat) (c : Cm) (hc : F.comps[ci]? = some c) (Ap : Option Addr) (qp : Nat) (ps : List ByteArray) (hps : ps.length ≤ 100) (mb : Nat) (e : Ex) (hal : e.args.length ≤ 1000000) (ih : ∀ x ∈ e.args, ∀ (A : Option Addr) (q : Nat) (l : List Ins), (l ++ cE (ccR F.pure c.name c.vars ps) x.pure).length ≤ 1000000 → Does Tryz.prog 203 [pv mb, .agg (encE x).toArray] [box mb [.string F.name, .slice F.Af F.flags.length F.qf, .slice F.Al F.links.length F.ql, .slice F.Ac F.comps.length F.qc, nv ci, .slice Ap ps.length qp, .slice A l.length q] 154, rows Ins.rc 54 4 A q l, all (Fl.kids eR F), ros encZ Ap ps, all (Ex.kids encE x)] (fun v Γ' => ∃ (A' : Option Addr) (q' : Nat), Γ' = [box mb [.string F.name, .slice F.Af F.flags.length F.qf, .slice F.Al F.links.length F.ql, .slice F.Ac F.comps.length F.qc, nv ci, .slice Ap ps.length qp, .slice A' ((l ++ cE (ccR F.pure c.name c.vars ps) x.pure).length) q'] 154, rows Ins.rc 54 4 A' q' (l ++ cE (ccR F.pure c.name c.vars ps) x.pure), all (Fl.kids eR F), ros encZ Ap ps])) (A : Option Addr) (q : Nat) (l : List Ins) (hl : (l ++ cE (ccR F.pure c.name c.vars ps) e.pure).length ≤ 1000000) :
    Does Tryz.prog 203 [pv mb, .agg (encE e).toArray] [box mb [.string F.name, .slice F.Af F.flags.length F.qf, .slice F.Al F.links.length F.ql, .slice F.Ac F.comps.length F.qc, nv ci, .slice Ap ps.length qp, .slice A l.length q] 154, rows Ins.rc 54 4 A q l, all (Fl.kids eR F), ros encZ Ap ps, all (Ex.kids encE e)] (fun v Γ' => ∃ (A' : Option Addr) (q' : Nat), Γ' = [box mb [.string F.name, .slice F.Af F.flags.length F.qf, .slice F.Al F.links.length F.ql, .slice F.Ac F.comps.length F.qc, nv ci, .slice Ap ps.length qp, .slice A' ((l ++ cE (ccR F.pure c.name c.vars ps) e.pure).length) q'] 154, rows Ins.rc 54 4 A' q' (l ++ cE (ccR F.pure c.name c.vars ps) e.pure), all (Fl.kids eR F), ros encZ Ap ps]) := by
 have hEl : (cE (ccR F.pure c.name c.vars ps) e.pure).length = (cEs (ccR F.pure c.name c.vars ps) (Ex.pL e.args)).length + 1 := by rw [Ex.pure_eq, cE, lap]; rfl
 rw [lap] at hl
 refine Does.enter Tryz.func203 rfl Tryz.ntmps203 rfl (fun w0 => ?_)
 refine To.s (To.g (To.boxed rfl rfl rfl rfl rfl rfl (fun b3 => ?_)))
 refine To.n (To.t (To.s (To.s (To.one 5 rfl (ros encE e.A e.args) rfl (Ex.own_kids e) (To.g (To.f fl125_3 ?_))))))
 refine To.lo 1 c123 ?_
 refine To.r (Rd.len rfl rfl Tryz.underlying123) ?_
 refine To.m (To.n (To.t (To.b ?_)))
 refine To.up1 (To.up5 (To.up5 (To.up5 (To.up5 (To.loopS (fun mz ρ Γ => ∃ (Aj : Option Addr) (qj : Nat) (lj : List Ins) (j : Nat), ρ = [(0, pv mb), (3, pv b3), (7, .slice e.A e.args.length e.q), (8, nv e.args.length), (9, nv j)] ∧ Γ = [box mb [.string F.name, .slice F.Af F.flags.length F.qf, .slice F.Al F.links.length F.ql, .slice F.Ac F.comps.length F.qc, nv ci, .slice Ap ps.length qp, .slice Aj lj.length qj] 154, rows Ins.rc 54 4 Aj qj lj, all (Fl.kids eR F), ros encZ Ap ps, box b3 [nv e.op, .string e.name, .int .i64 e.n, .slice e.A e.args.length e.q] 125, ros encE e.A e.args, all (Ex.kids encE e)] ∧ mz = e.args.length - j ∧ (j ≤ e.args.length) ∧ (lj = l ++ cEs (ccR F.pure c.name c.vars ps) (Ex.pL (e.args.take j)))) (e.args.length - 0) ⟨⟨A, q, l, 0, rfl, rfl, rfl, (Nat.zero_le _), ((List.append_nil _).symm)⟩, ⟨rfl, rfl, rfl, rfl, rfl, trivial⟩⟩ ?_)))))
 rintro mz _ _ ⟨Aj, qj, lj, j, rfl, rfl, rfl, hj, hlj⟩
 have hljl : lj.length = l.length + (cEs (ccR F.pure c.name c.vars ps) (Ex.pL (e.args.take j))).length := by rw [hlj, lap]
 refine To.s (To.g (To.lt ?_))
 refine To.n (To.t (To.s (To.cp rfl (fun k10 => ?_) (fun k10 => ?_))))
 obtain ⟨x, hx⟩ : ∃ z0, e.args[j]? = some z0 := ⟨e.args[j]'(by omega), gge _⟩
 have hle := cEs_le (ccR F.pure c.name c.vars ps) hx
 refine To.sp (To.t (To.s (To.b (To.s (To.g (To.r (Rd.ixo encE_ok (i := 5) (j := j) rfl rfl rfl s123 rfl hx) ?_))))))
 refine To.r (Rd.lS (i := 5) rfl rfl r125 rfl (rsg encE_ok hx) (encE_ok.len _)) ?_
 refine To.alloc rfl rfl rfl rfl z125 (fun b5 => ?_)
 refine To.u (Up.storeS (i := 0) rfl rfl rfl r125 rfl rfl rfl (bta rfl)) ?_
 refine To.n (To.t (To.part 7 rfl (x.kids encE) (Ex.lax encE x) (Ex.sub_kids hx) (To.g (To.m ?_))))
 refine To.r (Rd.lS (i := 1) rfl rfl r125 rfl box_whole rfl) ?_
 refine To.cl [2, 2, 2, 2, 0] rfl rfl rfl (Ent.fn rfl rfl ca203) rfl (ih x (mog hx) Aj qj lj (by rw [lap]; omega)) ?_
 rintro _ _ ⟨An, qn, rfl⟩
 refine To.n (To.bn (To.t (To.g (To.r (Rd.inc rfl rfl rfl (by omega)) ?_))))
 refine To.m (To.n (To.t ?_))
 refine To.del4 (To.agS (e.args.length - (j + 1)) (by omega) ⟨⟨An, qn, (lj ++ cE (ccR F.pure c.name c.vars ps) x.pure), j + 1, rfl, rfl, rfl, (by omega), (by rw [hlj, cEs_step _ hx, List.append_assoc])⟩, ⟨rfl, rfl, rfl, rfl, rfl, trivial⟩⟩)
 have hlj2 : lj = l ++ cEs (ccR F.pure c.name c.vars ps) (Ex.pL e.args) := by rw [hlj, List.take_of_length_le (by omega)]
 have hljl2 : lj.length = l.length + (cEs (ccR F.pure c.name c.vars ps) (Ex.pL e.args)).length := by rw [hlj2, lap]
 refine To.ex (To.tx (To.tx (To.bx (To.t (To.s (To.g (To.f fl125_0 ?_)))))))
 refine To.lo 4 c3 ?_
 refine To.n (To.t (To.b (To.s (To.g (To.eq ?_)))))
 refine To.a (To.n (To.t ?_))
 refine To.cp rfl (fun k23 => ?_) (fun k23 => ?_)
 refine To.g (To.m ?_)
 refine To.f fl125_2 ?_
 refine To.lo 4 c2 ?_
 refine To.cl [0, 0] rfl rfl rfl (Ent.fn rfl rfl ca165) rfl (put_fn F hB ci c hc Ap qp ps hps mb Aj qj lj 1 0 0 e.n   (by simp only [lap, lc1, ln0]; omega)) ?_
 rintro _ _ ⟨An_2, qn_2, rfl⟩
 refine To.n (To.bn (To.del6 (To.del5 (To.del4 (To.end0 (.inr rfl) Tryz.results203 ?_)))))
 have hop : opI (ccR F.pure c.name c.vars ps) e.op e.name e.n = (⟨1, 0, 0, e.n⟩ : Ins) := by unfold opI; rw [if_pos (by omega)]
 have hE : lj ++ [(⟨1, 0, 0, e.n⟩ : Ins)] = l ++ cE (ccR F.pure c.name c.vars ps) e.pure := by rw [Ex.pure_eq, ← hop, hlj2, List.append_assoc]; rfl
 rw [hE]; exact ⟨_, _, rfl⟩
 refine To.s (To.g (To.eq ?_))
 refine To.a (To.n (To.t ?_))
 refine To.cp rfl (fun k29 => ?_) (fun k29 => ?_)
 refine To.g (To.m ?_)
 refine To.cl [0, 0] rfl rfl rfl (Ent.fn rfl rfl ca165) rfl (put_fn F hB ci c hc Ap qp ps hps mb Aj qj lj 1 0 0 1   (by simp only [lap, lc1, ln0]; omega)) ?_
 rintro _ _ ⟨An_3, qn_3, rfl⟩
 refine To.n (To.bn (To.del6 (To.del5 (To.del4 (To.end0 (.inr rfl) Tryz.results203 ?_)))))
 have hop : opI (ccR F.pure c.name c.vars ps) e.op e.name e.n = (⟨1, 0, 0, 1⟩ : Ins) := by unfold opI; rw [if_neg (by omega), if_pos (by omega)]
 have hE : lj ++ [(⟨1, 0, 0, 1⟩ : Ins)] = l ++ cE (ccR F.pure c.name c.vars ps) e.pure := by rw [Ex.pure_eq, ← hop, hlj2, List.append_assoc]; rfl
 rw [hE]; exact ⟨_, _, rfl⟩
 refine To.s (To.g (To.eq ?_))
 refine To.a (To.n (To.t ?_))
 refine To.cp rfl (fun k33 => ?_) (fun k33 => ?_)
 refine To.g (To.m ?_)
 refine To.cl [0, 0] rfl rfl rfl (Ent.fn rfl rfl ca165) rfl (put_fn F hB ci c hc Ap qp ps hps mb Aj qj lj 1 0 0 0   (by simp only [lap, lc1, ln0]; omega)) ?_
 rintro _ _ ⟨An_4, qn_4, rfl⟩
 refine To.n (To.bn (To.del6 (To.del5 (To.del4 (To.end0 (.inr rfl) Tryz.results203 ?_)))))
 have hop : opI (ccR F.pure c.name c.vars ps) e.op e.name e.n = (⟨1, 0, 0, 0⟩ : Ins) := by unfold opI; rw [if_neg (by omega), if_neg (by omega), if_pos (by omega)]
 have hE : lj ++ [(⟨1, 0, 0, 0⟩ : Ins)] = l ++ cE (ccR F.pure c.name c.vars ps) e.pure := by rw [Ex.pure_eq, ← hop, hlj2, List.append_assoc]; rfl
 rw [hE]; exact ⟨_, _, rfl⟩
 refine To.s (To.g (To.eq ?_))
 refine To.a (To.n (To.t ?_))
 refine To.cp rfl (fun k37 => ?_) (fun k37 => ?_)
 refine To.g (To.m ?_)
 refine To.cl [0, 0] rfl rfl rfl (Ent.fn rfl rfl ca165) rfl (put_fn F hB ci c hc Ap qp ps hps mb Aj qj lj 5 0 0 0   (by simp only [lap, lc1, ln0]; omega)) ?_
 rintro _ _ ⟨An_5, qn_5, rfl⟩
 refine To.n (To.bn (To.del6 (To.del5 (To.del4 (To.end0 (.inr rfl) Tryz.results203 ?_)))))
 have hop : opI (ccR F.pure c.name c.vars ps) e.op e.name e.n = (⟨5, 0, 0, 0⟩ : Ins) := by unfold opI; rw [if_neg (by omega), if_neg (by omega), if_neg (by omega), if_pos (by omega)]
 have hE : lj ++ [(⟨5, 0, 0, 0⟩ : Ins)] = l ++ cE (ccR F.pure c.name c.vars ps) e.pure := by rw [Ex.pure_eq, ← hop, hlj2, List.append_assoc]; rfl
 rw [hE]; exact ⟨_, _, rfl⟩
 refine To.s (To.g (To.eq ?_))
 refine To.a (To.n (To.t ?_))
 refine To.cp rfl (fun k41 => ?_) (fun k41 => ?_)
 refine To.g (To.m ?_)
 refine To.f fl125_1 ?_
 refine To.lo 4 c9 ?_
 refine To.cl [0, 0, 0, 0] rfl rfl rfl (Ent.fn rfl rfl ca230) rfl (name_fn F hB ci c hc Ap qp ps hps mb Aj qj lj e.name (by rw [lap]; show _ + 1 ≤ _; omega)) ?_
 rintro _ _ ⟨An_6, qn_6, rfl⟩
 refine To.n (To.bn (To.del6 (To.del5 (To.del4 (To.end0 (.inr rfl) Tryz.results203 ?_)))))
 have hop : opI (ccR F.pure c.name c.vars ps) e.op e.name e.n = (ccR F.pure c.name c.vars ps).pn e.name := by unfold opI; rw [if_neg (by omega), if_neg (by omega), if_neg (by omega), if_neg (by omega), if_pos (by omega)]
 have hE : lj ++ [(ccR F.pure c.name c.vars ps).pn e.name] = l ++ cE (ccR F.pure c.name c.vars ps) e.pure := by rw [Ex.pure_eq, ← hop, hlj2, List.append_assoc]; rfl
 rw [hE]; exact ⟨_, _, rfl⟩
 refine To.s (To.s (To.g (To.eq ?_)))
 refine To.a (To.n (To.t ?_))
 refine To.cp rfl (fun k47 => ?_) (fun k47 => ?_)
 refine To.sp (To.t (To.condT (congrArg (fun b => some (Value.bool b)) (decide_eq_true k47)) (To.flow [box b3 [nv e.op, .string e.name, .int .i64 e.n, .slice e.A e.args.length e.q] 125] [⟨0, [], 0⟩, ⟨1, [], 0⟩, ⟨2, [], 0⟩, ⟨3, [], 0⟩, ⟨4, [], 0⟩, ⟨5, [], 0⟩, ⟨6, [], 5⟩, ⟨7, [], 5⟩] mixed (by kernel_rfl) (ocs (oca 4 rfl) (ocn _)) (W.mo ?_))))
 refine W.fi fl125_0 ?_
 refine W.th 0 c3 ?_
 refine W.mo ?_
 refine W.fi fl125_1 ?_
 refine W.th 0 c9 ?_
 refine W.call [0, 1] rfl rfl rfl rfl (Ent.fn rfl rfl ca167) rfl (slot_fn F hB ci c hc Ap qp ps hps mb Aj qj lj e.name true) ?_
 rintro _ _ ⟨rfl, rfl⟩
 refine ⟨ocs (oca 4 rfl) (ocn _), ?_⟩
 refine W.call [0, 1] rfl rfl rfl rfl (Ent.fn rfl rfl ca165) rfl (put_fn F hB ci c hc Ap qp ps hps mb Aj qj lj e.op (slI c.vars e.name true) 0 0   (by simp only [lap, lc1, ln0]; omega)) ?_
 rintro _ _ ⟨An_7, qn_7, rfl⟩
 refine ⟨ocs (oca 4 rfl) (ocn _), ?_⟩
 refine W.fin ?_
 refine To.bn (To.del6 (To.del5 (To.del4 (To.end0 (.inr rfl) Tryz.results203 ?_))))
 have hop : opI (ccR F.pure c.name c.vars ps) e.op e.name e.n = (⟨e.op, slI c.vars e.name true, 0, 0⟩ : Ins) := by unfold opI; rw [if_neg (by omega), if_neg (by omega), if_neg (by omega), if_neg (by omega), if_neg (by omega), if_pos (by omega)]; rfl
 have hE : lj ++ [(⟨e.op, slI c.vars e.name true, 0, 0⟩ : Ins)] = l ++ cE (ccR F.pure c.name c.vars ps) e.pure := by rw [Ex.pure_eq, ← hop, hlj2, List.append_assoc]; rfl
 rw [hE]; exact ⟨_, _, rfl⟩
 refine To.s (To.g (To.eq ?_))
 refine To.a (To.n (To.t ?_))
 refine To.cp rfl (fun k47_2 => ?_) (fun k47_2 => ?_)
 refine To.sp (To.t (To.condT (congrArg (fun b => some (Value.bool b)) (decide_eq_true k47_2)) (To.flow [box b3 [nv e.op, .string e.name, .int .i64 e.n, .slice e.A e.args.length e.q] 125] [⟨0, [], 0⟩, ⟨1, [], 0⟩, ⟨2, [], 0⟩, ⟨3, [], 0⟩, ⟨4, [], 0⟩, ⟨5, [], 0⟩, ⟨6, [], 5⟩, ⟨7, [], 5⟩] mixed (by kernel_rfl) (ocs (oca 4 rfl) (ocn _)) (W.mo ?_))))
 refine W.fi fl125_0 ?_
 refine W.th 0 c3 ?_
 refine W.mo ?_
 refine W.fi fl125_1 ?_
 refine W.th 0 c9 ?_
 refine W.call [0, 1] rfl rfl rfl rfl (Ent.fn rfl rfl ca167) rfl (slot_fn F hB ci c hc Ap qp ps hps mb Aj qj lj e.name true) ?_
 rintro _ _ ⟨rfl, rfl⟩
 refine ⟨ocs (oca 4 rfl) (ocn _), ?_⟩
 refine W.call [0, 1] rfl rfl rfl rfl (Ent.fn rfl rfl ca165) rfl (put_fn F hB ci c hc Ap qp ps hps mb Aj qj lj e.op (slI c.vars e.name true) 0 0   (by simp only [lap, lc1, ln0]; omega)) ?_
 rintro _ _ ⟨An_8, qn_8, rfl⟩
 refine ⟨ocs (oca 4 rfl) (ocn _), ?_⟩
 refine W.fin ?_
 refine To.bn (To.del6 (To.del5 (To.del4 (To.end0 (.inr rfl) Tryz.results203 ?_))))
 have hop : opI (ccR F.pure c.name c.vars ps) e.op e.name e.n = (⟨e.op, slI c.vars e.name true, 0, 0⟩ : Ins) := by unfold opI; rw [if_neg (by omega), if_neg (by omega), if_neg (by omega), if_neg (by omega), if_neg (by omega), if_pos (by omega)]; rfl
 have hE : lj ++ [(⟨e.op, slI c.vars e.name true, 0, 0⟩ : Ins)] = l ++ cE (ccR F.pure c.name c.vars ps) e.pure := by rw [Ex.pure_eq, ← hop, hlj2, List.append_assoc]; rfl
 rw [hE]; exact ⟨_, _, rfl⟩
 refine To.g (To.eq ?_)
 refine To.a (To.n (To.t ?_))
 refine To.cp rfl (fun k47_3 => ?_) (fun k47_3 => ?_)
 refine To.flow [box b3 [nv e.op, .string e.name, .int .i64 e.n, .slice e.A e.args.length e.q] 125] [⟨0, [], 0⟩, ⟨1, [], 0⟩, ⟨2, [], 0⟩, ⟨3, [], 0⟩, ⟨4, [], 0⟩, ⟨5, [], 0⟩, ⟨6, [], 5⟩, ⟨7, [], 5⟩] mixed (by kernel_rfl) (ocs (oca 4 rfl) (ocn _)) (W.mo ?_)
 refine W.fi fl125_0 ?_
 refine W.th 0 c3 ?_
 refine W.mo ?_
 refine W.fi fl125_1 ?_
 refine W.th 0 c9 ?_
 refine W.call [0, 1] rfl rfl rfl rfl (Ent.fn rfl rfl ca167) rfl (slot_fn F hB ci c hc Ap qp ps hps mb Aj qj lj e.name true) ?_
 rintro _ _ ⟨rfl, rfl⟩
 refine ⟨ocs (oca 4 rfl) (ocn _), ?_⟩
 refine W.call [0, 1] rfl rfl rfl rfl (Ent.fn rfl rfl ca165) rfl (put_fn F hB ci c hc Ap qp ps hps mb Aj qj lj e.op (slI c.vars e.name true) 0 0   (by simp only [lap, lc1, ln0]; omega)) ?_
 rintro _ _ ⟨An_9, qn_9, rfl⟩
 refine ⟨ocs (oca 4 rfl) (ocn _), ?_⟩
 refine W.fin ?_
 refine To.bn (To.del6 (To.del5 (To.del4 (To.end0 (.inr rfl) Tryz.results203 ?_))))
 have hop : opI (ccR F.pure c.name c.vars ps) e.op e.name e.n = (⟨e.op, slI c.vars e.name true, 0, 0⟩ : Ins) := by unfold opI; rw [if_neg (by omega), if_neg (by omega), if_neg (by omega), if_neg (by omega), if_neg (by omega), if_pos (by omega)]; rfl
 have hE : lj ++ [(⟨e.op, slI c.vars e.name true, 0, 0⟩ : Ins)] = l ++ cE (ccR F.pure c.name c.vars ps) e.pure := by rw [Ex.pure_eq, ← hop, hlj2, List.append_assoc]; rfl
 rw [hE]; exact ⟨_, _, rfl⟩
 refine To.g (To.m ?_)
 refine To.f fl125_0 ?_
 refine To.lo 4 c3 ?_
 refine To.cl [0, 0] rfl rfl rfl (Ent.fn rfl rfl ca165) rfl (put_fn F hB ci c hc Ap qp ps hps mb Aj qj lj e.op 0 0 0   (by simp only [lap, lc1, ln0]; omega)) ?_
 rintro _ _ ⟨An_10, qn_10, rfl⟩
 refine To.n (To.bn (To.del6 (To.del5 (To.del4 (To.end0 (.inr rfl) Tryz.results203 ?_)))))
 have hop : opI (ccR F.pure c.name c.vars ps) e.op e.name e.n = (⟨e.op, 0, 0, 0⟩ : Ins) := by unfold opI; rw [if_neg (by omega), if_neg (by omega), if_neg (by omega), if_neg (by omega), if_neg (by omega), if_neg (by omega)]
 have hE : lj ++ [(⟨e.op, 0, 0, 0⟩ : Ins)] = l ++ cE (ccR F.pure c.name c.vars ps) e.pure := by rw [Ex.pure_eq, ← hop, hlj2, List.append_assoc]; rfl
 rw [hE]; exact ⟨_, _, rfl⟩
theorem ex_args_le (cc : Cc) : ∀ l : List Ex, l.length ≤ (cEs cc (Ex.pL l)).length
 | [] => Nat.zero_le _
 | x :: r => by
   have := ex_args_le cc r
   show r.length + 1 ≤ (cE cc x.pure ++ cEs cc (Ex.pL r)).length
   rw [lap]
   have h1 : 1 ≤ (cE cc x.pure).length := by rw [Ex.pure_eq, cE, lap]; exact Nat.le_add_left _ _
   omega
theorem expr_fn (F : Fl) (hB : BndF F) (ci : Nat) (c : Cm) (hc : F.comps[ci]? = some c) (Ap : Option Addr) (qp : Nat) (ps : List ByteArray) (hps : ps.length ≤ 100) (mb : Nat) : ∀ e : Ex, ∀ (A : Option Addr) (q : Nat) (l : List Ins), (l ++ cE (ccR F.pure c.name c.vars ps) e.pure).length ≤ 1000000 → Does Tryz.prog 203 [pv mb, .agg (encE e).toArray] [box mb [.string F.name, .slice F.Af F.flags.length F.qf, .slice F.Al F.links.length F.ql, .slice F.Ac F.comps.length F.qc, nv ci, .slice Ap ps.length qp, .slice A l.length q] 154, rows Ins.rc 54 4 A q l, all (Fl.kids eR F), ros encZ Ap ps, all (Ex.kids encE e)] (fun v Γ' => ∃ (A' : Option Addr) (q' : Nat), Γ' = [box mb [.string F.name, .slice F.Af F.flags.length F.qf, .slice F.Al F.links.length F.ql, .slice F.Ac F.comps.length F.qc, nv ci, .slice Ap ps.length qp, .slice A' ((l ++ cE (ccR F.pure c.name c.vars ps) e.pure).length) q'] 154, rows Ins.rc 54 4 A' q' (l ++ cE (ccR F.pure c.name c.vars ps) e.pure), all (Fl.kids eR F), ros encZ Ap ps])
 | e, A, q, l, hl => expr_step F hB ci c hc Ap qp ps hps mb e (by
     have h1 := ex_args_le (ccR F.pure c.name c.vars ps) e.args
     rw [lap, Ex.pure_eq, cE, lap] at hl
     have h2 : (Ex.pL e.args) = Ex.pL e.args := rfl
     omega) (fun x hx => expr_fn F hB ci c hc Ap qp ps hps mb x) A q l hl
termination_by e => SizeOf.sizeOf e
decreasing_by
 cases e with
 | mk op s n A q l =>
   have := List.sizeOf_lt_of_mem (show x ∈ l from hx)
   simp only [Ex.mk.sizeOf_spec]
   omega
theorem exprs_fn (F : Fl) (hB : BndF F) (ci : Nat) (c : Cm) (hc : F.comps[ci]? = some c) (Ap : Option Addr) (qp : Nat) (ps : List ByteArray) (hps : ps.length ≤ 100) (mb : Nat) (Ae : Option Addr) (qe : Nat) (es : List Ex) (A : Option Addr) (q : Nat) (l : List Ins) (hl : (l ++ cEs (ccR F.pure c.name c.vars ps) (Ex.pL es)).length ≤ 1000000) :
    Does Tryz.prog 166 [pv mb, .slice Ae es.length qe] [box mb [.string F.name, .slice F.Af F.flags.length F.qf, .slice F.Al F.links.length F.ql, .slice F.Ac F.comps.length F.qc, nv ci, .slice Ap ps.length qp, .slice A l.length q] 154, rows Ins.rc 54 4 A q l, all (Fl.kids eR F), ros encZ Ap ps, all (lsE Ae es)] (fun v Γ' => ∃ (A' : Option Addr) (q' : Nat), Γ' = [box mb [.string F.name, .slice F.Af F.flags.length F.qf, .slice F.Al F.links.length F.ql, .slice F.Ac F.comps.length F.qc, nv ci, .slice Ap ps.length qp, .slice A' ((l ++ cEs (ccR F.pure c.name c.vars ps) (Ex.pL es)).length) q'] 154, rows Ins.rc 54 4 A' q' (l ++ cEs (ccR F.pure c.name c.vars ps) (Ex.pL es)), all (Fl.kids eR F), ros encZ Ap ps]) := by
 rw [lap] at hl
 have hal := ex_args_le (ccR F.pure c.name c.vars ps) es
 refine Does.enter Tryz.func166 rfl Tryz.ntmps166 rfl (fun w0 => ?_)
 refine To.s (To.one 4 rfl (ros encE Ae es) rfl (List.mem_cons_self ..) (To.g (To.m ?_)))
 refine To.r (Rd.len rfl rfl Tryz.underlying123) ?_
 refine To.m (To.n (To.t (To.b ?_)))
 refine To.up4 (To.up4 (To.up4 (To.up4 (To.loopS (fun mz ρ Γ => ∃ (Aj : Option Addr) (qj : Nat) (lj : List Ins) (j : Nat), ρ = [(0, pv mb), (6, .slice Ae es.length qe), (7, nv es.length), (8, nv j)] ∧ Γ = [box mb [.string F.name, .slice F.Af F.flags.length F.qf, .slice F.Al F.links.length F.ql, .slice F.Ac F.comps.length F.qc, nv ci, .slice Ap ps.length qp, .slice Aj lj.length qj] 154, rows Ins.rc 54 4 Aj qj lj, all (Fl.kids eR F), ros encZ Ap ps, ros encE Ae es, all (lsE Ae es)] ∧ mz = es.length - j ∧ (j ≤ es.length) ∧ (lj = l ++ cEs (ccR F.pure c.name c.vars ps) (Ex.pL (es.take j)))) (es.length - 0) ⟨⟨A, q, l, 0, rfl, rfl, rfl, (Nat.zero_le _), ((List.append_nil _).symm)⟩, ⟨rfl, rfl, rfl, rfl, trivial⟩⟩ ?_))))
 rintro mz _ _ ⟨Aj, qj, lj, j, rfl, rfl, rfl, hj, hlj⟩
 have hljl : lj.length = l.length + (cEs (ccR F.pure c.name c.vars ps) (Ex.pL (es.take j))).length := by rw [hlj, lap]
 refine To.s (To.g (To.lt ?_))
 refine To.n (To.t (To.s (To.cp rfl (fun c9 => ?_) (fun c9 => ?_))))
 obtain ⟨x, hx⟩ : ∃ z0, es[j]? = some z0 := ⟨es[j]'(by omega), gge _⟩
 have hle := cEs_le (ccR F.pure c.name c.vars ps) hx
 refine To.sp (To.t (To.s (To.b (To.s (To.g (To.r (Rd.ixo encE_ok (i := 4) (j := j) rfl rfl rfl s123 rfl hx) ?_))))))
 refine To.r (Rd.lS (i := 4) rfl rfl r125 rfl (rsg encE_ok hx) (encE_ok.len _)) ?_
 refine To.alloc rfl rfl rfl rfl z125 (fun b5 => ?_)
 refine To.u (Up.storeS (i := 0) rfl rfl rfl r125 rfl rfl rfl (bta rfl)) ?_
 refine To.n (To.t (To.part 6 rfl (x.kids encE) (Ex.lax encE x) (Ex.ls_kids hx) (To.g (To.m ?_))))
 refine To.r (Rd.lS (i := 1) rfl rfl r125 rfl box_whole rfl) ?_
 refine To.cl [2, 2, 2, 2, 0] rfl rfl rfl (Ent.fn rfl rfl ca203) rfl (expr_fn F hB ci c hc Ap qp ps hps mb x Aj qj lj (by rw [lap]; omega)) ?_
 rintro _ _ ⟨An, qn, rfl⟩
 refine To.n (To.bn (To.t (To.g (To.r (Rd.inc rfl rfl rfl (by omega)) ?_))))
 refine To.m (To.n (To.t ?_))
 refine To.del4 (To.agS (es.length - (j + 1)) (by omega) ⟨⟨An, qn, (lj ++ cE (ccR F.pure c.name c.vars ps) x.pure), j + 1, rfl, rfl, rfl, (by omega), (by rw [hlj, cEs_step _ hx, List.append_assoc])⟩, ⟨rfl, rfl, rfl, rfl, trivial⟩⟩)
 refine To.ex (To.tx (To.tx (To.bx (To.del5 (To.del4 (To.end0 (.inr rfl) Tryz.results166 ?_))))))
 have hE : lj = l ++ cEs (ccR F.pure c.name c.vars ps) (Ex.pL es) := by rw [hlj, List.take_of_length_le (by omega)]
 rw [hE]; exact ⟨_, _, rfl⟩
theorem tgF_cons (cn hn : ByteArray) (i : Nat) (c : PC) (r : List PC) : tgF cn hn i (c :: r) = if c.name = cn then (match ixF hn 0 (hnames c.vers) with | some h => ((i : Int), (h : Int)) | none => tgF cn hn (i + 1) r) else tgF cn hn (i + 1) r := rfl
theorem hnAdd_len : ∀ (l : List PH) (o : List ByteArray), (hnAdd o l).length ≤ o.length + l.length
 | [], o => Nat.le_refl _
 | h :: r, o => by
   rw [hnAdd_cons]
   have := hnAdd_len r (if h.name ∈ o then o else o ++ [h.name])
   have h2 : (if h.name ∈ o then o else o ++ [h.name]).length ≤ o.length + 1 := by
    split
    · omega
    · rw [lap]; exact Nat.le_refl _
   show _ ≤ o.length + (r.length + 1)
   omega
theorem hnames_len : ∀ (v : List Vs) (o : List ByteArray), (∀ x ∈ v, x.l.length ≤ 100) → ((v.map Vs.pure).foldl hnAdd o).length ≤ o.length + 100 * v.length
 | [], o, _ => Nat.le_refl _
 | x :: r, o, h => by
   have h1 := hnames_len r (hnAdd o x.pure) fun y hy => h y (List.mem_cons_of_mem _ hy)
   have h2 := hnAdd_len x.pure o
   have h3 := h x (List.mem_cons_self ..)
   have h4 : x.pure.length = x.l.length := List.length_map ..
   show ((r.map Vs.pure).foldl hnAdd (hnAdd o x.pure)).length ≤ _
   rw [lc1]; omega
theorem hnames_le (c : Cm) (h1 : c.vers.length ≤ 1000) (h2 : ∀ v ∈ c.vers, v.l.length ≤ 100) : (hnames (c.vers.map Vs.pure)).length ≤ 100000 := by
 have := hnames_len c.vers [] h2
 unfold hnames; simp only [ln0] at this; omega
theorem target_fn (F : Fl) (hB : BndF F) (ci : Nat) (c : Cm) (hc : F.comps[ci]? = some c) (Ap : Option Addr) (qp : Nat) (ps : List ByteArray) (hps : ps.length ≤ 100) (mb : Nat) (A : Option Addr) (q : Nat) (l : List Ins) (cn hn : ByteArray) :
    Does Tryz.prog 168 [pv mb, .string cn, .string hn] [box mb [.string F.name, .slice F.Af F.flags.length F.qf, .slice F.Al F.links.length F.ql, .slice F.Ac F.comps.length F.qc, nv ci, .slice Ap ps.length qp, .slice A l.length q] 154, all (Fl.kids eR F)] (fun v Γ' => v = .tuple #[.int .i64 (tgF cn hn 0 F.pure.comps).1, .int .i64 (tgF cn hn 0 F.pure.comps).2] ∧ Γ' = [box mb [.string F.name, .slice F.Af F.flags.length F.qf, .slice F.Al F.links.length F.ql, .slice F.Ac F.comps.length F.qc, nv ci, .slice Ap ps.length qp, .slice A l.length q] 154, all (Fl.kids eR F)]) := by
 have hcm := hB.comps
 refine Does.enter Tryz.func168 rfl Tryz.ntmps168 rfl (fun w0 => ?_)
 refine To.s (To.g (To.a ?_))
 refine To.a (To.n (To.t (To.s (To.s ?_))))
 refine To.one 1 rfl (ros encC F.Ac F.comps) rfl (fl_comps F) (To.g (To.m ?_))
 refine To.nc ?_
 refine To.f fl154_0 ?_
 refine To.f fl32_3 ?_
 refine To.lo 1 c30 ?_
 refine To.r (Rd.len rfl rfl Tryz.underlying30) ?_
 refine To.m (To.n (To.t (To.b ?_)))
 refine To.up2 (To.up2 (To.loopS (fun mz ρ Γ => ∃ (j : Nat), ρ = [(0, pv mb), (1, .string cn), (2, .string hn), (16, .slice F.Ac F.comps.length F.qc), (17, nv F.comps.length), (18, nv j)] ∧ Γ = [box mb [.string F.name, .slice F.Af F.flags.length F.qf, .slice F.Al F.links.length F.ql, .slice F.Ac F.comps.length F.qc, nv ci, .slice Ap ps.length qp, .slice A l.length q] 154, all (Fl.kids eR F), ros encC F.Ac F.comps] ∧ mz = F.comps.length - j ∧ (j ≤ F.comps.length) ∧ (tgF cn hn 0 F.pure.comps = tgF cn hn j ((F.comps.drop j).map Cm.pure))) (F.comps.length - 0) ⟨⟨0, rfl, rfl, rfl, (Nat.zero_le _), rfl⟩, ⟨rfl, rfl, rfl, rfl, rfl, rfl, trivial⟩⟩ ?_))
 rintro mz _ _ ⟨j, rfl, rfl, rfl, hj, hT⟩
 refine To.s (To.g (To.lt ?_))
 refine To.n (To.t (To.s (To.cp rfl (fun c19 => ?_) (fun c19 => ?_))))
 obtain ⟨x, hx⟩ : ∃ z0, F.comps[j]? = some z0 := ⟨F.comps[j]'(by omega), gge _⟩
 refine To.sp (To.t (To.s (To.b (To.s (To.g (To.m ?_))))))
 refine To.r (Rd.ixo encC_ok (i := 2) (j := j) rfl rfl rfl s30 rfl hx) ?_
 refine To.r (Rd.lS (i := 2) rfl rfl r103 rfl (rsg encC_ok hx) (encC_ok.len _)) ?_
 refine To.alloc rfl rfl rfl rfl z103 (fun b9 => ?_)
 refine To.a ?_
 refine To.u (Up.storeS (i := 0) rfl rfl rfl r103 rfl rfl rfl (bta rfl)) ?_
 refine To.n (To.t (To.s (To.s (To.g (To.f fl103_0 ?_)))))
 refine To.lo 0 c9 ?_
 refine To.m ?_
 refine To.r (Rd.neqZ rfl rfl rfl) ?_
 refine To.n (To.t (To.cp rfl (fun c26 => ?_) (fun c26 => ?_)))
 refine To.ex (To.tx (To.bx (To.t (To.g (To.r (Rd.inc rfl rfl rfl (by omega)) ?_)))))
 refine To.m (To.n (To.t ?_))
 refine To.del0 (To.agS (F.comps.length - (j + 1)) (by omega) ⟨⟨j + 1, rfl, rfl, rfl, (by omega), (by rw [hT, mdg Cm.pure hx, tgF_cons, if_neg (show ¬ (Cm.pure x).name = cn from c26)])⟩, ⟨rfl, rfl, rfl, rfl, rfl, rfl, trivial⟩⟩)
 refine To.sp (To.t (To.s (To.part 2 rfl (x.kids eR) (x.lax eR) (fun z hz => fl_cm hx hz) (To.g (To.r (Rd.lS (i := 1) rfl rfl r103 rfl box_whole rfl) ?_)))))
 refine To.cl [0] rfl rfl rfl (Ent.fn rfl rfl ca28) rfl (handlersN_fn x (hB.each x (mog hx)).2.1 (hB.each x (mog hx)).2.2) ?_
 rintro _ _ ⟨Ah, qh, rfl, rfl⟩
 refine To.r (Rd.len rfl rfl Tryz.underlying74) ?_
 refine To.m (To.n (To.t (To.b ?_)))
 refine To.del1 (To.up3 (To.up3 (To.up3 (To.loopS (fun mz ρ Γ => ∃ (k : Nat), ρ = [(0, pv mb), (1, .string cn), (2, .string hn), (8, nv j), (16, .slice F.Ac F.comps.length F.qc), (17, nv F.comps.length), (18, nv j), (28, .slice Ah ((hnames (x.vers.map Vs.pure)).length) qh), (29, nv ((hnames (x.vers.map Vs.pure)).length)), (30, nv k)] ∧ Γ = [box mb [.string F.name, .slice F.Af F.flags.length F.qf, .slice F.Al F.links.length F.ql, .slice F.Ac F.comps.length F.qc, nv ci, .slice Ap ps.length qp, .slice A l.length q] 154, all (Fl.kids eR F), ros encC F.Ac F.comps, rows encZ 9 1 Ah qh (hnames (x.vers.map Vs.pure))] ∧ mz = (hnames (x.vers.map Vs.pure)).length - k ∧ (k ≤ (hnames (x.vers.map Vs.pure)).length) ∧ (ixF hn 0 (hnames (x.vers.map Vs.pure)) = ixF hn k ((hnames (x.vers.map Vs.pure)).drop k))) ((hnames (x.vers.map Vs.pure)).length - 0) ⟨⟨0, rfl, rfl, rfl, (Nat.zero_le _), rfl⟩, ⟨rfl, rfl, rfl, rfl, rfl, rfl, rfl, rfl, rfl, rfl, trivial⟩⟩ ?_))))
 rintro mz _ _ ⟨k, rfl, rfl, rfl, hk, hN⟩
 have hkb := hnames_le x ((hB.each x (mog hx)).2.1) ((hB.each x (mog hx)).2.2)
 refine To.s (To.g (To.lt ?_))
 refine To.n (To.t (To.s (To.cp rfl (fun c31 => ?_) (fun c31 => ?_))))
 obtain ⟨y, hy⟩ : ∃ z0, (hnames (x.vers.map Vs.pure))[k]? = some z0 := ⟨(hnames (x.vers.map Vs.pure))[k]'(by omega), gge _⟩
 refine To.sp (To.t (To.s (To.b (To.s (To.g (To.m ?_))))))
 refine To.r (Rd.ixr (i := 3) (j := k) rfl rfl rfl s74 rfl hy) ?_
 refine To.r (Rd.ld (i := 3) rfl rfl c9 rfl (gives_1 (rwg encZ_ok hy) rfl)) ?_
 refine To.a ?_
 refine To.a (To.n (To.t (To.s (To.g ?_))))
 refine To.m ?_
 refine To.m ?_
 refine To.r (Rd.eqlZ rfl rfl rfl) ?_
 refine To.n (To.t (To.cp rfl (fun c37 => ?_) (fun c37 => ?_)))
 refine To.s (To.g (To.m ?_))
 refine To.m ?_
 refine To.a ?_
 refine To.a (To.n (To.t (To.rt (To.br (To.tr (To.tr (To.br (To.br (To.tr (To.tr (To.br (To.tr (To.del3 ?_)))))))))))))
 refine To.del2 (To.end2 (.inl rfl) Tryz.results168 rfl rfl ?_)
 have hr : tgF cn hn 0 F.pure.comps = (((j : Nat) : Int), ((k : Nat) : Int)) := by
  have hn0 : ixF hn 0 (hnames (x.vers.map Vs.pure)) = some k := by rw [hN, dog hy, ixF_cons, if_pos c37]
  rw [hT, mdg Cm.pure hx, tgF_cons, if_pos (show (Cm.pure x).name = cn from Decidable.not_not.1 c26)]
  show (match ixF hn 0 (hnames (x.vers.map Vs.pure)) with | some h => _ | none => _) = _
  rw [hn0]
 rw [hr]; exact ⟨rfl, rfl⟩
 refine To.sp (To.bn (To.t (To.g (To.r (Rd.inc rfl rfl rfl (by omega)) ?_))))
 refine To.m (To.n (To.t ?_))
 refine To.agS ((hnames (x.vers.map Vs.pure)).length - (k + 1)) (by omega) ⟨⟨k + 1, rfl, rfl, rfl, (by omega), (by rw [hN, dog hy, ixF_cons, if_neg c37])⟩, ⟨rfl, rfl, rfl, rfl, rfl, rfl, rfl, rfl, rfl, rfl, trivial⟩⟩
 refine To.ex (To.tx (To.tx (To.bx (To.bn (To.t (To.g (To.r (Rd.inc rfl rfl rfl (by omega)) ?_)))))))
 refine To.m (To.n (To.t ?_))
 refine To.sub [(0, pv mb), (1, .string cn), (2, .string hn), (16, .slice F.Ac F.comps.length F.qc), (17, nv F.comps.length), (18, nv ((j + 1)))] ⟨rfl, rfl, rfl, rfl, rfl, rfl, trivial⟩ (To.del3 ?_)
 refine To.ag (F.comps.length - (j + 1)) (by omega) ⟨j + 1, rfl, rfl, rfl, (by omega), (by
  have hn0 : ixF hn 0 (hnames (x.vers.map Vs.pure)) = none := by rw [hN, List.drop_eq_nil_of_le (by omega)]; rfl
  rw [hT, mdg Cm.pure hx, tgF_cons, if_pos (show (Cm.pure x).name = cn from Decidable.not_not.1 c26)]
  show (match ixF hn 0 (hnames (x.vers.map Vs.pure)) with | some h => _ | none => _) = _
  rw [hn0])⟩
 refine To.ex (To.tx (To.tx (To.bx (To.t (To.s (To.g (To.a ?_)))))))
 refine To.a (To.n (To.t (To.rt (To.del2 ?_))))
 refine To.end2 (.inl rfl) Tryz.results168 rfl rfl ?_
 have hr : tgF cn hn 0 F.pure.comps = (-1, -1) := by rw [hT, List.drop_eq_nil_of_le (by omega)]; rfl
 rw [hr]; exact ⟨rfl, rfl⟩
end Go.Proofs.YtllalpnmagpkfaaGreatDoor
