/- Own text. -/
import Derived.Test.YtllalpnmagpkfaaGreatDoorRe
set_option linter.unusedVariables false
set_option linter.unusedSimpArgs false
namespace Go.Proofs.YtllalpnmagpkfaaGreatDoor
open Go.RowKit Go.Flow Go.Mem Go.Sep Go.In
theorem set_eqI {L : List Ins} {j : Nat} {x : Ins} (h : L[j]? = some x) : L.set j ⟨x.op, x.a, x.b, x.n⟩ = L := by
 obtain ⟨h1, h2⟩ := List.getElem?_eq_some_iff.1 h
 show L.set j x = L
 rw [← h2]; exact List.set_getElem_self h1
set_option maxHeartbeats 8000000 in
set_option maxRecDepth 100000 in
theorem sp0_fn (p : Pl) (hp : p.Ok) (w : Nat) (hw : w < 256) :
    Does Tryz.prog 18 [.agg #[.int .u8 ((p.flags : Nat) : Int), .slice p.Al p.links.length p.ql, .slice p.Ac p.comps.length p.qc], .int .u8 ((w : Nat) : Int), .slice none 0 0] [all p.kids] (fun v Γ' => ∃ (F : Fl) (np : Nat) (st : Int) (A : Option Addr) (q : Nat) (l : List Ins), v = .agg #[nv np, .int .i64 st, .slice A l.length q] ∧ Γ' = [rows Ins.rc 54 4 A q l] ∧ GoodF F.pure ∧ ∃ (ci : Nat) (c : Cm) (s : ByteArray), F.comps[ci]? = some c ∧ np = (rU F c 1 s).np ∧ st = (rU F c 1 s).st ∧ l = (rU F c 1 s).l) := by
 have hpq := hp.comps
 refine Does.enter Tryz.func18 rfl Tryz.ntmps18 rfl (fun w0 => ?_)
 refine To.s (To.g (To.boxed rfl rfl rfl rfl rfl rfl (fun b3 => ?_)))
 refine To.alloc rfl rfl rfl rfl z37 (fun b6 => ?_)
 refine To.n (To.t (To.s (To.g (To.r (Rd.lS (i := 1) rfl rfl r25 rfl box_whole rfl) ?_))))
 refine To.cl [2] rfl rfl rfl (Ent.fn rfl rfl ca23) rfl (build_fn p hp) ?_
 rintro _ _ ⟨F, rfl, rfl, hG⟩
 refine To.alloc rfl rfl rfl rfl z32 (fun b7 => ?_)
 refine To.u (Up.storeS (i := 0) rfl rfl rfl r32 rfl rfl rfl (bta rfl)) ?_
 refine To.n (To.t (To.s ?_))
 have hcl := goodF_pos hG
 refine To.g (To.m ?_)
 refine To.r (Rd.conv rfl rfl Tryz.underlying5 Tryz.underlying3 (IntWalk.i64_in _ (by omega))) ?_
 refine To.f fl32_3 ?_
 refine To.lo 0 c30 ?_
 refine To.r (Rd.len rfl rfl Tryz.underlying30) ?_
 refine To.r (Rd.remN (a := w) (b := F.comps.length) rfl rfl rfl (by omega)) ?_
 refine To.a (To.n (To.t (To.s ?_)))
 refine To.as [box b7 [.string F.name, .slice F.Af F.flags.length F.qf, .slice F.Al F.links.length F.ql, .slice F.Ac F.comps.length F.qc] 32, all (Fl.kids eR F), box b6 [.int .i64 0, .int .i64 0, .slice none 0 0] 37, box b3 [.int .u8 ((p.flags : Nat) : Int), .slice p.Al p.links.length p.ql, .slice p.Ac p.comps.length p.qc] 25] rfl ?_
 obtain ⟨ci, hci⟩ : ∃ z0, z0 = (w % F.comps.length) := ⟨_, rfl⟩
 rw [← hci]
 have hcil : ci < F.comps.length := by rw [hci]; exact Nat.mod_lt _ (by omega)
 obtain ⟨c, hc⟩ : ∃ z0, F.comps[ci]? = some z0 := ⟨F.comps[ci]'(by omega), gge _⟩
 have hgv := goodF_vers hG hc
 have hB := bndF_of hG
 have hcb := hB.each c (mog hc)
 have hh : w / 8 % (hnames (c.vers.map Vs.pure)).length < (hnames (c.vers.map Vs.pure)).length := Nat.mod_lt _ (by omega)
 obtain ⟨s, hs⟩ : ∃ z0, (hnames (c.vers.map Vs.pure))[w / 8 % (hnames (c.vers.map Vs.pure)).length]? = some z0 := ⟨_, gge hh⟩
 refine To.part 1 rfl (c.kids eR) (c.lax eR) (fun z hz => fl_cm hc hz) (To.one 2 rfl (ros encC F.Ac F.comps) rfl (fl_comps F) (To.flow [] [⟨1, [], 0⟩, ⟨2, [], 0⟩, ⟨3, [], 0⟩, ⟨4, [], 0⟩, ⟨5, [], 0⟩, ⟨7, [], 0⟩, ⟨6, [], 1⟩, ⟨8, [], 1⟩, ⟨9, [], 1⟩, ⟨10, [], 4⟩, ⟨11, [10], 0⟩, ⟨12, [10], 0⟩, ⟨13, [10], 0⟩, ⟨0, [], 1⟩, ⟨14, [10], 4⟩, ⟨15, [10, 14], 0⟩, ⟨16, [10, 14], 0⟩, ⟨17, [10, 14], 0⟩, ⟨18, [], 2⟩, ⟨19, [10, 14, 18], 5⟩, ⟨20, [], 0⟩] mixed (by kernel_rfl) (ocn _) (W.mo ?_)))
 refine W.mo ?_
 refine W.f rfl (Rd.quo8 (a := w) (b := 8) rfl rfl rfl (by omega) (by omega)) ?_
 refine W.f rfl (Rd.conv rfl rfl Tryz.underlying5 Tryz.underlying3 (IntWalk.i64_in _ (by omega))) ?_
 refine W.fi fl32_3 ?_
 refine W.mo ?_
 refine W.lo 2 c30 ?_
 refine W.r rfl (Rd.ixo encC_ok (i := 0) (j := ci) rfl rfl rfl s30 rfl hc) ?_
 refine W.r rfl (Rd.lS (i := 0) rfl rfl r103 rfl (rsg encC_ok hc) (encC_ok.len _)) ?_
 refine W.callM rfl rfl rfl rfl rfl (Ent.fn rfl rfl ca28) (handlersN_fn c hcb.2.1 hcb.2.2) (by show owns (c.kids eR) ++ [] = []; rw [(c.lax eR).owns]; rfl) (ocs (oca 1 rfl) (ocn _)) ?_
 rintro _ _ ⟨Ah, qh, rfl, rfl⟩
 refine ⟨rfl, ?_⟩
 refine W.f rfl (Rd.len rfl rfl Tryz.underlying74) ?_
 refine W.f rfl (Rd.as (v' := nv ((hnames (c.vers.map Vs.pure)).length)) (congrArg (Value.int .i64) (by omega)) (Rd.max rfl rfl rfl)) ?_
 refine W.f rfl (Rd.remN (a := w / 8) (b := (hnames (c.vers.map Vs.pure)).length) rfl rfl rfl (by omega)) ?_
 refine W.r rfl (Rd.lS (i := 2) rfl rfl r32 rfl box_whole rfl) ?_
 refine W.callM rfl rfl rfl rfl rfl (Ent.fn rfl rfl ca14) (rcompile_fn F hG ci c hc 1 (w / 8 % (hnames (c.vers.map Vs.pure)).length) ⟨Nat.le_refl _, hgv.1.1⟩ hh s hs) (by show owns (F.kids eR) ++ [] = []; rw [(F.lax eR).owns]; rfl) (ocs (oca 4 rfl) (ocn _)) ?_
 rintro _ _ ⟨Au, qu, rfl, rfl⟩
 refine ⟨rfl, ?_⟩
 refine W.mo ?_
 refine W.f rfl (Rd.extract rfl rfl rfl) ?_
 refine W.f rfl (Rd.extract rfl rfl rfl) ?_
 refine W.mk rfl rfl rfl rfl rfl (Mk.alloc rfl z37) ?_
 rintro _ _ ⟨b9, rfl, rfl⟩
 refine W.up rfl rfl rfl (Up.storeS (i := 0) rfl rfl rfl r37 rfl rfl rfl (bta rfl)) (ocn _) ?_
 refine W.f rfl (Rd.assign rfl rfl) ?_
 refine W.fin ?_
 refine To.t (To.s (To.as [box b9 [nv ((rU F c 1 s).np), .int .i64 ((rU F c 1 s).st), .slice Au ((rU F c 1 s).l.length) qu] 37, rows Ins.rc 54 4 Au qu ((rU F c 1 s).l), rows encZ 9 1 Ah qh (hnames (c.vers.map Vs.pure)), ros encC F.Ac F.comps, all (Cm.kids eR c), box b7 [.string F.name, .slice F.Af F.flags.length F.qf, .slice F.Al F.links.length F.ql, .slice F.Ac F.comps.length F.qc] 32, all (Fl.kids eR F), box b6 [.int .i64 0, .int .i64 0, .slice none 0 0] 37, box b3 [.int .u8 ((p.flags : Nat) : Int), .slice p.Al p.links.length p.ql, .slice p.Ac p.comps.length p.qc] 25] rfl ?_))
 obtain ⟨u, hu⟩ : ∃ z0, z0 = (rU F c 1 s) := ⟨_, rfl⟩
 rw [← hu]
 have hul := rU_len hG hc 1 s
 rw [← hu] at hul
 have hull := hul.1
 refine To.g (To.mk rfl rfl rfl (Mk.slice0R (enc := Ins.rc) rfl s35) ?_)
 rintro _ _ ⟨A41, rfl, rfl⟩
 refine To.f fl37_2 ?_
 refine To.lo 1 c35 ?_
 refine To.ge rfl rfl rfl (Ge.appendL encRi (i := 0) (m := u.l) rfl s35 rfl rfl rfl (src_row (i := 2) rfl) (by first | omega | (simp; done) | (simp; omega)) (by first | omega | (simp; done) | (simp; omega))) ?_
 rintro _ _ ⟨A44, q44, rfl, rfl⟩
 refine To.f fl37_2 ?_
 refine To.u (Up.store (i := 1) rfl rfl rfl c35 rfl rfl (bt1 rfl)) ?_
 refine To.n (To.t (To.s (To.s (To.as [rows Ins.rc 54 4 A44 q44 (([] : List Ins) ++ u.l), box b9 [nv u.np, .int .i64 u.st, .slice A44 ((([] : List Ins) ++ u.l).length) q44] 37, rows Ins.rc 54 4 Au qu u.l, rows encZ 9 1 Ah qh (hnames (c.vers.map Vs.pure)), ros encC F.Ac F.comps, all (Cm.kids eR c), box b7 [.string F.name, .slice F.Af F.flags.length F.qf, .slice F.Al F.links.length F.ql, .slice F.Ac F.comps.length F.qc] 32, all (Fl.kids eR F), box b6 [.int .i64 0, .int .i64 0, .slice none 0 0] 37, box b3 [.int .u8 ((p.flags : Nat) : Int), .slice p.Al p.links.length p.ql, .slice p.Ac p.comps.length p.qc] 25] rfl ?_))))
 obtain ⟨M, hM⟩ : ∃ z0, z0 = (([] : List Ins) ++ u.l) := ⟨_, rfl⟩
 rw [← hM]
 have hM2 : M = u.l := by rw [hM]; rfl
 have hMl : M.length ≤ 3816 := by rw [hM2]; omega
 have hMf : ∀ x ∈ M, 1 ≤ x.op ∧ x.op ≤ 34 := fun x hx => formR_op (hul.2.2 x (by rw [← hM2]; exact hx))
 refine To.g (To.m ?_)
 refine To.r (Rd.len rfl rfl Tryz.underlying48) ?_
 refine To.m (To.n (To.t (To.b ?_)))
 refine To.rounds 1 (To.roundS (To.s (To.g (To.lt ?_))))
 refine To.n (To.t (To.s (To.condF rfl (To.ex (To.tx (To.tx (To.bx (To.t (To.s (To.s (To.g (To.f fl37_2 ?_))))))))))))
 refine To.lo 1 c35 ?_
 refine To.r (Rd.len rfl rfl Tryz.underlying35) ?_
 refine To.m (To.n (To.t (To.b ?_)))
 refine To.del9 (To.del7 (To.del6 (To.del5 (To.del4 (To.del3 (To.del2 (To.up1 (To.up2 (To.loopS (fun mz ρ Γ => ∃ (Lj : List Ins) (j : Nat), ρ = [(6, pv b6), (9, pv b9), (112, .slice A44 Lj.length q44), (113, nv Lj.length), (114, nv j)] ∧ Γ = [box b6 [.int .i64 0, .int .i64 0, .slice none 0 0] 37, box b9 [nv u.np, .int .i64 u.st, .slice A44 Lj.length q44] 37, rows Ins.rc 54 4 A44 q44 Lj] ∧ mz = Lj.length - j ∧ (j ≤ Lj.length) ∧ (Lj = M)) (M.length - 0) ⟨⟨M, 0, rfl, rfl, rfl, (Nat.zero_le _), rfl⟩, ⟨rfl, rfl, rfl, rfl, rfl, trivial⟩⟩ ?_)))))))))
 rintro mz _ _ ⟨Lj, j, rfl, rfl, rfl, hj, hLj⟩
 have hLl : Lj.length ≤ 3816 := by rw [hLj]; exact hMl
 refine To.s (To.g (To.lt ?_))
 refine To.n (To.t (To.s (To.cp rfl (fun c115 => ?_) (fun c115 => ?_))))
 obtain ⟨x, hx⟩ : ∃ z0, Lj[j]? = some z0 := ⟨Lj[j]'(by omega), gge _⟩
 have hxo := hMf x (by rw [← hLj]; exact mog hx)
 refine To.sp (To.t (To.s (To.b (To.s (To.g (To.m ?_))))))
 refine To.a (To.n (To.t ?_))
 refine To.flow [] [⟨0, [], 0⟩, ⟨2, [], 0⟩, ⟨3, [], 0⟩, ⟨5, [], 0⟩, ⟨1, [], 1⟩, ⟨4, [], 1⟩, ⟨6, [], 1⟩, ⟨7, [], 0⟩, ⟨8, [], 1⟩, ⟨9, [], 0⟩, ⟨10, [], 0⟩, ⟨11, [], 1⟩, ⟨12, [], 0⟩, ⟨13, [], 5⟩] mixed (by kernel_rfl) (ocn _) (W.fi fl37_2 ?_)
 refine W.mo ?_
 refine W.fi fl37_2 ?_
 refine W.mo ?_
 refine W.lo 1 c35 ?_
 refine W.lo 1 c35 ?_
 refine W.r rfl (Rd.ixr (i := 2) (j := j) rfl rfl rfl s35 rfl hx) ?_
 refine W.fi fl54_0 ?_
 refine W.r rfl (Rd.ld (i := 2) rfl rfl c3 rfl (gvt (f := 0) (rwg encRi hx) rfl)) ?_
 refine W.f rfl (Rd.conv rfl rfl Tryz.underlying3 Tryz.underlying5 (IntWalk.u8_in _ (by omega))) ?_
 refine W.f rfl (Rd.conv rfl rfl Tryz.underlying5 Tryz.underlying3 (IntWalk.i64_in _ (by omega))) ?_
 refine W.r rfl (Rd.ixr (i := 2) (j := j) rfl rfl rfl s35 rfl hx) ?_
 refine W.fi fl54_0 ?_
 refine W.up rfl rfl rfl (Up.store (i := 2) rfl rfl rfl c3 rfl rfl (rows_takesF (f := 0) (y := x) (z := (⟨x.op, x.a, x.b, x.n⟩ : Ins)) encRi hx (by decide) rfl)) (ocn _) ?_
 refine W.fin ?_
 refine To.bn (To.t (To.g (To.r (Rd.inc rfl rfl rfl (by omega)) ?_)))
 refine To.m (To.n (To.t ?_))
 refine To.as [box b6 [.int .i64 0, .int .i64 0, .slice none 0 0] 37, box b9 [nv u.np, .int .i64 u.st, .slice A44 (Lj.set j (⟨x.op, x.a, x.b, x.n⟩ : Ins)).length q44] 37, rows Ins.rc 54 4 A44 q44 (Lj.set j (⟨x.op, x.a, x.b, x.n⟩ : Ins))] (by rw [List.length_set] <;> rfl) (To.agS ((Lj.set j (⟨x.op, x.a, x.b, x.n⟩ : Ins)).length - (j + 1)) (by rw [List.length_set]; omega) ⟨⟨(Lj.set j (⟨x.op, x.a, x.b, x.n⟩ : Ins)), j + 1, rfl, rfl, rfl, (by rw [List.length_set]; omega), (by rw [set_eqI hx]; exact hLj)⟩, ⟨rfl, rfl, (congrArg (fun n : Nat => some (Value.slice A44 n q44)) List.length_set.symm), (congrArg (fun n : Nat => some (nv n)) List.length_set.symm), rfl, trivial⟩⟩)
 refine To.ex (To.tx (To.tx (To.bx (To.t (To.s (To.g (To.r (Rd.lS (i := 1) rfl rfl r37 rfl box_whole rfl) ?_)))))))
 refine To.u (Up.storeS (i := 0) rfl rfl rfl r37 rfl rfl rfl (bta rfl)) ?_
 refine To.n (To.t (To.rt (To.endC [2] rfl (.inl rfl) Tryz.results18 rfl (i := 0) rfl r37 rfl ?_)))
 rw [hLj, hM2]
 exact ⟨F, u.np, u.st, A44, q44, u.l, rfl, rfl, hG, ci, c, s, hc, by rw [hu], by rw [hu], by rw [hu]⟩
end Go.Proofs.YtllalpnmagpkfaaGreatDoor
