/- A unit of a plan, in which some instructions are changed. Own text (walks printed by sx.py). -/
import Derived.Test.YtllalpnmagpkfaaGreatDoorRe
set_option linter.unusedVariables false
set_option linter.unusedSimpArgs false
namespace Go.Proofs.YtllalpnmagpkfaaGreatDoor
open Go.RowKit Go.Flow Go.Mem Go.Sep Go.In
set_option maxHeartbeats 8000000 in
set_option maxRecDepth 100000 in
theorem spoiled_fn (p : Pl) (hp : p.Ok) (w : Nat) (hw : w < 256) (As : Option Addr) (qs : Nat) (sl : List Sp) (hsl : ∀ e ∈ sl, (e.t < 256 ∧ e.f < 256) ∧ -2147483648 ≤ e.v ∧ e.v ≤ 2147483647) :
    Does Tryz.prog 18 [.agg #[.int .u8 ((p.flags : Nat) : Int), .slice p.Al p.links.length p.ql, .slice p.Ac p.comps.length p.qc], .int .u8 ((w : Nat) : Int), .slice As sl.length qs] [all p.kids, ros Sp.cells As sl] (fun v Γ' => ∃ (F : Fl) (np : Nat) (st : Int) (A : Option Addr) (q : Nat) (l : List Ins), v = .agg #[nv np, .int .i64 st, .slice A l.length q] ∧ Γ' = [rows Ins.rc 54 4 A q l] ∧ GoodF F.pure ∧ SpR F sl.isEmpty np st l) := by
 have hpq := hp.comps
 refine Does.enter Tryz.func18 rfl Tryz.ntmps18 rfl (fun w0 => ?_)
 refine To.s (To.g ?_)
 refine To.boxed rfl rfl rfl rfl rfl rfl (fun b3 => ?_)
 refine To.alloc rfl rfl rfl rfl z37 (fun b6 => ?_)
 refine To.n (To.t (To.s (To.g ?_)))
 refine To.r (Rd.lS (i := 1) rfl rfl r25 rfl box_whole rfl) ?_
 refine To.cl [2] rfl rfl rfl (Ent.fn rfl rfl ca23) rfl (build_fn p hp) ?_
 rintro _ _ ⟨F, rfl, rfl, hG⟩
 refine To.alloc rfl rfl rfl rfl z32 (fun b7 => ?_)
 refine To.u (Up.storeS (i := 0) rfl rfl rfl r32 rfl rfl rfl (bta rfl)) ?_
 refine To.n (To.t (To.s ?_))
 have hcl := goodF_pos hG
 refine To.g (To.m ?_)
 refine To.r (Rd.conv rfl rfl Tryz.underlying5 Tryz.underlying3 (IntWalk.i64_in _ (by omega))) ?_
 refine To.f fl32_3 ?_
 refine To.lo 0 c30 ?_
 refine To.r (Rd.len rfl rfl Tryz.underlying30) ?_
 refine To.r (Rd.remN (a := w) (b := F.comps.length) rfl rfl rfl (by omega)) ?_
 refine To.a (To.n (To.t (To.s ?_)))
 refine To.as [box b7 [.string F.name, .slice F.Af F.flags.length F.qf, .slice F.Al F.links.length F.ql, .slice F.Ac F.comps.length F.qc] 32, all (Fl.kids eR F), box b6 [.int .i64 0, .int .i64 0, .slice none 0 0] 37, box b3 [.int .u8 ((p.flags : Nat) : Int), .slice p.Al p.links.length p.ql, .slice p.Ac p.comps.length p.qc] 25, ros Sp.cells As sl] rfl ?_
 obtain ⟨ci, hci⟩ : ∃ z0, z0 = (w % F.comps.length) := ⟨_, rfl⟩
 rw [← hci]
 have hcil : ci < F.comps.length := by rw [hci]; exact Nat.mod_lt _ (by omega)
 obtain ⟨c, hc⟩ : ∃ z0, F.comps[ci]? = some z0 := ⟨F.comps[ci]'(by omega), gge _⟩
 have hgv := goodF_vers hG hc
 have hB := bndF_of hG
 have hcb := hB.each c (mog hc)
 have hh : w / 8 % (hnames (c.vers.map Vs.pure)).length < (hnames (c.vers.map Vs.pure)).length := Nat.mod_lt _ (by omega)
 obtain ⟨s, hs⟩ : ∃ z0, (hnames (c.vers.map Vs.pure))[w / 8 % (hnames (c.vers.map Vs.pure)).length]? = some z0 := ⟨_, gge hh⟩
 refine To.part 1 rfl (c.kids eR) (c.lax eR) (fun z hz => fl_cm hc hz) ?_
 refine To.one 2 rfl (ros encC F.Ac F.comps) rfl (fl_comps F) ?_
 refine To.flow [] [⟨1, [], 0⟩, ⟨2, [], 0⟩, ⟨3, [], 0⟩, ⟨4, [], 0⟩, ⟨5, [], 0⟩, ⟨7, [], 0⟩, ⟨6, [], 1⟩, ⟨8, [], 1⟩, ⟨9, [], 1⟩, ⟨10, [], 4⟩, ⟨11, [10], 0⟩, ⟨12, [10], 0⟩, ⟨13, [10], 0⟩, ⟨0, [], 1⟩, ⟨14, [10], 4⟩, ⟨15, [10, 14], 0⟩, ⟨16, [10, 14], 0⟩, ⟨17, [10, 14], 0⟩, ⟨18, [], 2⟩, ⟨19, [10, 14, 18], 5⟩, ⟨20, [], 0⟩] mixed (by kernel_rfl) (ocn _) ?_
 refine W.mo ?_
 refine W.mo ?_
 refine W.f rfl (Rd.quo8 (a := w) (b := 8) rfl rfl rfl (by omega) (by omega)) ?_
 refine W.f rfl (Rd.conv rfl rfl Tryz.underlying5 Tryz.underlying3 (IntWalk.i64_in _ (by omega))) ?_
 refine W.fi fl32_3 ?_
 refine W.mo ?_
 refine W.lo 2 c30 ?_
 refine W.r rfl (Rd.ixo encC_ok (i := 0) (j := ci) rfl rfl rfl s30 rfl hc) ?_
 refine W.r rfl (Rd.lS (i := 0) rfl rfl r103 rfl (rsg encC_ok hc) (encC_ok.len _)) ?_
 refine W.callM rfl rfl rfl rfl rfl (Ent.fn rfl rfl ca28) (handlersN_fn c hcb.2.1 hcb.2.2) (by show owns (c.kids eR) ++ [] = []; rw [(c.lax eR).owns]; rfl) (ocs (oca 1 rfl) (ocn _)) ?_
 rintro _ _ ⟨Ah, qh, rfl, rfl⟩
 refine ⟨rfl, ?_⟩
 refine W.f rfl (Rd.len rfl rfl Tryz.underlying74) ?_
 refine W.f rfl (Rd.as (v' := nv ((hnames (c.vers.map Vs.pure)).length)) (congrArg (Value.int .i64) (by omega)) (Rd.max rfl rfl rfl)) ?_
 refine W.f rfl (Rd.remN (a := w / 8) (b := (hnames (c.vers.map Vs.pure)).length) rfl rfl rfl (by omega)) ?_
 refine W.r rfl (Rd.lS (i := 2) rfl rfl r32 rfl box_whole rfl) ?_
 refine W.callM rfl rfl rfl rfl rfl (Ent.fn rfl rfl ca14) (rcompile_fn F hG ci c hc 1 (w / 8 % (hnames (c.vers.map Vs.pure)).length) ⟨Nat.le_refl _, hgv.1.1⟩ hh s hs) (by show owns (F.kids eR) ++ [] = []; rw [(F.lax eR).owns]; rfl) (ocs (oca 4 rfl) (ocn _)) ?_
 rintro _ _ ⟨Au, qu, rfl, rfl⟩
 refine ⟨rfl, ?_⟩
 refine W.mo ?_
 refine W.f rfl (Rd.extract rfl rfl rfl) ?_
 refine W.f rfl (Rd.extract rfl rfl rfl) ?_
 refine W.mk rfl rfl rfl rfl rfl (Mk.alloc rfl z37) ?_
 rintro _ _ ⟨b9, rfl, rfl⟩
 refine W.up rfl rfl rfl (Up.storeS (i := 0) rfl rfl rfl r37 rfl rfl rfl (bta rfl)) (ocn _) ?_
 refine W.f rfl (Rd.assign rfl rfl) ?_
 refine W.fin ?_
 refine To.t (To.s ?_)
 refine To.as [box b9 [nv ((rU F c 1 s).np), .int .i64 ((rU F c 1 s).st), .slice Au ((rU F c 1 s).l.length) qu] 37, rows Ins.rc 54 4 Au qu ((rU F c 1 s).l), rows encZ 9 1 Ah qh (hnames (c.vers.map Vs.pure)), ros encC F.Ac F.comps, all (Cm.kids eR c), box b7 [.string F.name, .slice F.Af F.flags.length F.qf, .slice F.Al F.links.length F.ql, .slice F.Ac F.comps.length F.qc] 32, all (Fl.kids eR F), box b6 [.int .i64 0, .int .i64 0, .slice none 0 0] 37, box b3 [.int .u8 ((p.flags : Nat) : Int), .slice p.Al p.links.length p.ql, .slice p.Ac p.comps.length p.qc] 25, ros Sp.cells As sl] rfl ?_
 obtain ⟨u, hu⟩ : ∃ z0, z0 = (rU F c 1 s) := ⟨_, rfl⟩
 rw [← hu]
 have hul := rU_len hG hc 1 s
 rw [← hu] at hul
 have hull := hul.1
 rw [rows_ofI]
 refine To.as [box b9 [nv u.np, .int .i64 u.st, .slice Au u.l.length qu] 37, rows eIz 54 4 Au qu (u.l.map ofI), rows encZ 9 1 Ah qh (hnames (c.vers.map Vs.pure)), ros encC F.Ac F.comps, all (Cm.kids eR c), box b7 [.string F.name, .slice F.Af F.flags.length F.qf, .slice F.Al F.links.length F.ql, .slice F.Ac F.comps.length F.qc] 32, all (Fl.kids eR F), box b6 [.int .i64 0, .int .i64 0, .slice none 0 0] 37, box b3 [.int .u8 ((p.flags : Nat) : Int), .slice p.Al p.links.length p.ql, .slice p.Ac p.comps.length p.qc] 25, ros Sp.cells As sl] rfl ?_
 obtain ⟨L, hL⟩ : ∃ z0, z0 = (u.l.map ofI) := ⟨_, rfl⟩
 rw [← hL]
 have hlL : L.length = u.l.length := by rw [hL]; exact List.length_map ..
 rw [← hlL]
 refine To.g ?_
 refine To.mk rfl rfl rfl (Mk.slice0R (enc := eIz) rfl s35) ?_
 rintro _ _ ⟨A41, rfl, rfl⟩
 refine To.f fl37_2 ?_
 refine To.lo 1 c35 ?_
 refine To.ge rfl rfl rfl (Ge.appendL eIk (i := 0) (m := L) rfl s35 rfl rfl rfl (src_row (i := 2) rfl) (by first | omega | (simp; done) | (simp; omega)) (by first | omega | (simp; done) | (simp; omega))) ?_
 rintro _ _ ⟨A44, q44, rfl, rfl⟩
 refine To.f fl37_2 ?_
 refine To.u (Up.store (i := 1) rfl rfl rfl c35 rfl rfl (bt1 rfl)) ?_
 refine To.n (To.t (To.s (To.s ?_)))
 refine To.as [rows eIz 54 4 A44 q44 (([] : List Iz) ++ L), box b9 [nv u.np, .int .i64 u.st, .slice A44 ((([] : List Iz) ++ L).length) q44] 37, rows eIz 54 4 Au qu L, rows encZ 9 1 Ah qh (hnames (c.vers.map Vs.pure)), ros encC F.Ac F.comps, all (Cm.kids eR c), box b7 [.string F.name, .slice F.Af F.flags.length F.qf, .slice F.Al F.links.length F.ql, .slice F.Ac F.comps.length F.qc] 32, all (Fl.kids eR F), box b6 [.int .i64 0, .int .i64 0, .slice none 0 0] 37, box b3 [.int .u8 ((p.flags : Nat) : Int), .slice p.Al p.links.length p.ql, .slice p.Ac p.comps.length p.qc] 25, ros Sp.cells As sl] rfl ?_
 obtain ⟨M, hM⟩ : ∃ z0, z0 = (([] : List Iz) ++ L) := ⟨_, rfl⟩
 rw [← hM]
 have hM2 : M = L := by rw [hM]; rfl
 have hMl : M.length ≤ 3816 := by rw [hM2]; omega
 refine To.g (To.m ?_)
 refine To.r (Rd.len rfl rfl Tryz.underlying48) ?_
 refine To.m (To.n (To.t (To.b ?_)))
 refine To.sub [(6, pv b6), (9, pv b9), (46, .slice As sl.length qs), (47, nv sl.length), (48, nv 0)] ⟨rfl, rfl, rfl, rfl, rfl, trivial⟩ ?_
 refine To.del9 (To.del7 (To.del6 (To.del5 (To.del4 (To.del3 (To.del2 (To.up3 (To.up2 (To.up3 ?_)))))))))
 refine To.loop (fun mz ρ Γ => ∃ (Lk : List Iz) (st : Int) (k : Nat), ρ = [(6, pv b6), (9, pv b9), (46, .slice As sl.length qs), (47, nv sl.length), (48, nv k)] ∧ Γ = [box b6 [.int .i64 0, .int .i64 0, .slice none 0 0] 37, box b9 [nv u.np, .int .i64 st, .slice A44 Lk.length q44] 37, ros Sp.cells As sl, rows eIz 54 4 A44 q44 Lk] ∧ mz = sl.length - k ∧ (k ≤ sl.length) ∧ (k ≤ 3) ∧ (Lk.length ≤ 3816) ∧ (k = 0 → Lk = M ∧ st = u.st)) (sl.length - 0) ⟨M, u.st, 0, rfl, rfl, rfl, (Nat.zero_le _), (Nat.zero_le _), hMl, (fun _ => ⟨rfl, rfl⟩)⟩ ?_
 rintro mz _ _ ⟨Lk, st, k, rfl, rfl, rfl, hk, hk3, hLk, h0⟩
 refine To.s (To.g ?_)
 refine To.lt ?_
 refine To.n (To.t (To.s ?_))
 refine To.cp rfl (fun c49 => ?_) (fun c49 => ?_)
 obtain ⟨y, hy⟩ : ∃ z0, sl[k]? = some z0 := ⟨sl[k]'(by omega), gge _⟩
 have hyo := hsl y (mog hy)
 obtain ⟨⟨hyt, hyf⟩, hyv⟩ := hyo
 refine To.sp (To.t (To.s (To.b (To.s (To.g (To.m ?_))))))
 refine To.r (Rd.ixo encSp (i := 2) (j := k) rfl rfl rfl s48 rfl hy) ?_
 refine To.r (Rd.lS (i := 2) rfl rfl r169 rfl (rsg encSp hy) (encSp.len _)) ?_
 refine To.alloc rfl rfl rfl rfl z169 (fun b12 => ?_)
 refine To.a ?_
 refine To.u (Up.storeS (i := 0) rfl rfl rfl r169 rfl rfl rfl (bta rfl)) ?_
 refine To.n (To.t (To.s (To.s (To.g ?_))))
 refine To.meet (T := Bool) (fun t => ([(6, pv b6), (9, pv b9), (46, .slice As sl.length qs), (47, nv sl.length), (48, nv k), (12, pv b12), (11, nv k), (60, .bool t)], [box b12 [.int .u8 ((y.t : Nat) : Int), .int .u8 ((y.f : Nat) : Int), .int .i32 y.v] 169, box b6 [.int .i64 0, .int .i64 0, .slice none 0 0] 37, box b9 [nv u.np, .int .i64 st, .slice A44 Lk.length q44] 37, ros Sp.cells As sl, rows eIz 54 4 A44 q44 Lk])) (fun t => t = ((decide (((k : Nat) : Int) = 3)) || decide (((Lk.length : Nat) : Int) = 0))) ?_ (fun t ht => ?_)
 refine To.m ?_
 refine To.eq ?_
 refine To.rdP rfl rfl rfl (Rd.move rfl rfl) (fun g55 => ?_) (fun g55 => ?_)
 refine To.k ?_
 refine To.k ?_
 refine To.k ?_
 refine To.k ?_
 refine To.pT ?_
 refine To.n (To.t ?_)
 refine To.he true (by first | (simp [g55]; done) | (simp [g55]; omega)) ⟨rfl, rfl, rfl, rfl, rfl, rfl, rfl, rfl, trivial⟩ rfl
 refine To.f fl37_2 ?_
 refine To.lo 2 c35 ?_
 refine To.r (Rd.len rfl rfl Tryz.underlying35) ?_
 refine To.eq ?_
 refine To.pF ?_
 refine To.n (To.t ?_)
 refine To.he (decide (((Lk.length : Nat) : Int) = 0)) (by first | (simp [g55]; done) | (simp [g55]; omega)) ⟨rfl, rfl, rfl, rfl, rfl, rfl, rfl, rfl, trivial⟩ rfl
 subst ht
 show To _ [(6, pv b6), (9, pv b9), (46, .slice As sl.length qs), (47, nv sl.length), (48, nv k), (12, pv b12), (11, nv k), (60, .bool ((decide (((k : Nat) : Int) = 3)) || decide (((Lk.length : Nat) : Int) = 0)))] [box b12 [.int .u8 ((y.t : Nat) : Int), .int .u8 ((y.f : Nat) : Int), .int .i32 y.v] 169, box b6 [.int .i64 0, .int .i64 0, .slice none 0 0] 37, box b9 [nv u.np, .int .i64 st, .slice A44 Lk.length q44] 37, ros Sp.cells As sl, rows eIz 54 4 A44 q44 Lk] _
 refine To.cond rfl (fun c60 => ?_) (fun c60 => ?_)
 refine To.ex (To.tx ?_)
 refine To.blockY rfl ?_
 refine To.tx (To.tx (To.bx (To.t (To.s (To.s (To.g ?_))))))
 refine To.f fl37_2 ?_
 refine To.lo 2 c35 ?_
 refine To.r (Rd.len rfl rfl Tryz.underlying35) ?_
 refine To.m (To.n (To.t (To.b ?_)))
 refine To.sub [(6, pv b6), (9, pv b9), (112, .slice A44 Lk.length q44), (113, nv Lk.length), (114, nv 0)] ⟨rfl, rfl, rfl, rfl, rfl, trivial⟩ ?_
 refine To.del3 (To.del0 ?_)
 refine To.loop (fun mz ρ Γ => ∃ (Lj : List Iz) (j : Nat), ρ = [(6, pv b6), (9, pv b9), (112, .slice A44 Lj.length q44), (113, nv Lj.length), (114, nv j)] ∧ Γ = [box b6 [.int .i64 0, .int .i64 0, .slice none 0 0] 37, box b9 [nv u.np, .int .i64 st, .slice A44 Lj.length q44] 37, rows eIz 54 4 A44 q44 Lj] ∧ mz = Lj.length - j ∧ (j ≤ Lj.length) ∧ (Lj.length ≤ 3816) ∧ (∀ i z, i < j → Lj[i]? = some z → 0 ≤ z.o ∧ z.o < 256) ∧ ((∀ z ∈ Lk, 0 ≤ z.o ∧ z.o < 256) → Lj = Lk)) (Lk.length - 0) ⟨Lk, 0, rfl, rfl, rfl, (Nat.zero_le _), hLk, (fun i z h => by omega), (fun _ => rfl)⟩ ?_
 rintro mz _ _ ⟨Lj, j, rfl, rfl, rfl, hj, hLj, hlow, hsm⟩
 refine To.s (To.g ?_)
 refine To.lt ?_
 refine To.n (To.t (To.s ?_))
 refine To.cp rfl (fun c115 => ?_) (fun c115 => ?_)
 obtain ⟨x, hx⟩ : ∃ z0, Lj[j]? = some z0 := ⟨Lj[j]'(by omega), gge _⟩
 refine To.sp (To.t (To.s (To.b (To.s (To.g (To.m ?_))))))
 refine To.a (To.n (To.t ?_))
 refine To.flow [] [⟨0, [], 0⟩, ⟨2, [], 0⟩, ⟨3, [], 0⟩, ⟨5, [], 0⟩, ⟨1, [], 1⟩, ⟨4, [], 1⟩, ⟨6, [], 1⟩, ⟨7, [], 0⟩, ⟨8, [], 1⟩, ⟨9, [], 0⟩, ⟨10, [], 0⟩, ⟨11, [], 1⟩, ⟨12, [], 0⟩, ⟨13, [], 5⟩] mixed (by kernel_rfl) (ocn _) ?_
 refine W.fi fl37_2 ?_
 refine W.mo ?_
 refine W.fi fl37_2 ?_
 refine W.mo ?_
 refine W.lo 1 c35 ?_
 refine W.lo 1 c35 ?_
 refine W.r rfl (Rd.ixr (i := 2) (j := j) rfl rfl rfl s35 rfl hx) ?_
 refine W.fi fl54_0 ?_
 refine W.r rfl (Rd.ld (i := 2) rfl rfl c3 rfl (gvt (f := 0) (rwg eIk hx) rfl)) ?_
 refine W.f rfl (Rd.convW rfl rfl Tryz.underlying3 Tryz.underlying5) ?_
 refine W.f rfl (Rd.conv rfl rfl Tryz.underlying5 Tryz.underlying3 (IntWalk.i64_in _ (by have := u8w x.o; omega))) ?_
 refine W.r rfl (Rd.ixr (i := 2) (j := j) rfl rfl rfl s35 rfl hx) ?_
 refine W.fi fl54_0 ?_
 refine W.up rfl rfl rfl (Up.store (i := 2) rfl rfl rfl c3 rfl rfl (rows_takesF (f := 0) (y := x) (z := (⟨IntKind.u8.wrap x.o, x.a, x.b, x.n⟩ : Iz)) eIk hx (by decide) rfl)) (ocn _) ?_
 refine W.fin ?_
 refine To.bn (To.t (To.g ?_))
 refine To.r (Rd.inc rfl rfl rfl (by omega)) ?_
 refine To.m (To.n (To.t ?_))
 refine To.sub [(6, pv b6), (9, pv b9), (112, .slice A44 (Lj.set j (⟨IntKind.u8.wrap x.o, x.a, x.b, x.n⟩ : Iz)).length q44), (113, nv ((Lj.set j (⟨IntKind.u8.wrap x.o, x.a, x.b, x.n⟩ : Iz)).length)), (114, nv ((j + 1)))] ⟨rfl, rfl, (congrArg (fun n : Nat => some (Value.slice A44 n q44)) List.length_set.symm), (congrArg (fun n : Nat => some (nv n)) List.length_set.symm), rfl, trivial⟩ ?_
 refine To.as [box b6 [.int .i64 0, .int .i64 0, .slice none 0 0] 37, box b9 [nv u.np, .int .i64 st, .slice A44 (Lj.set j (⟨IntKind.u8.wrap x.o, x.a, x.b, x.n⟩ : Iz)).length q44] 37, rows eIz 54 4 A44 q44 (Lj.set j (⟨IntKind.u8.wrap x.o, x.a, x.b, x.n⟩ : Iz))] (by rw [List.length_set] <;> rfl) ?_
 refine To.ag ((Lj.set j (⟨IntKind.u8.wrap x.o, x.a, x.b, x.n⟩ : Iz)).length - (j + 1)) (by rw [List.length_set]; omega) ⟨(Lj.set j (⟨IntKind.u8.wrap x.o, x.a, x.b, x.n⟩ : Iz)), j + 1, rfl, rfl, rfl, (by rw [List.length_set]; omega), (by rw [List.length_set]; exact hLj), (low_set hlow hx (u8w _)), (fun hh => by
  have e := hsm hh
  have hr := hh x (mog (by rw [← e]; exact hx))
  rw [set_eq hx (by rw [IntWalk.u8_in _ (by omega)])]; exact e)⟩
 refine To.ex (To.tx (To.tx (To.bx (To.t (To.s (To.g ?_))))))
 refine To.r (Rd.lS (i := 1) rfl rfl r37 rfl box_whole rfl) ?_
 refine To.u (Up.storeS (i := 0) rfl rfl rfl r37 rfl rfl rfl (bta rfl)) ?_
 refine To.n (To.t (To.rt ?_))
 have hall : ∀ z ∈ Lj, 0 ≤ z.o ∧ z.o < 256 := fun z hz => by
  obtain ⟨i, hi⟩ := List.getElem?_of_mem hz
  have hil := (List.getElem?_eq_some_iff.1 hi).1
  exact hlow i z (by omega) hi
 obtain ⟨l2, hl2⟩ : ∃ l2, l2 = Lj.map toI := ⟨_, rfl⟩
 have hback : l2.map ofI = Lj := by rw [hl2]; exact ofIs_toIs fun z hz => (hall z hz).1
 have hll : l2.length = Lj.length := by rw [hl2, List.length_map]
 refine To.as [box b6 [nv u.np, .int .i64 st, .slice A44 Lj.length q44] 37, box b9 [nv u.np, .int .i64 st, .slice A44 Lj.length q44] 37, rows eIz 54 4 A44 q44 Lj] rfl ?_
 rw [← hback, List.length_map, ← rows_ofI]
 refine To.endC [2] rfl (.inl rfl) Tryz.results18 rfl (i := 0) rfl r37 rfl ?_
 refine ⟨F, u.np, st, A44, q44, l2, rfl, rfl, hG, ⟨fun x hx => ?_, by omega, hul.2.1, fun hn => ?_⟩⟩
 · rw [hl2] at hx
   obtain ⟨z, hz, rfl⟩ := List.mem_map.1 hx
   have := hall z hz
   show z.o.toNat < 256
   omega
 · have hs0 : sl.length = 0 := by cases sl with
     | nil => rfl
     | cons a r => cases hn
   obtain ⟨e1, e2⟩ := h0 (by omega)
   have hr : ∀ z ∈ Lk, 0 ≤ z.o ∧ z.o < 256 := fun z hz => by
    rw [e1, hM2, hL] at hz
    obtain ⟨x, hx, rfl⟩ := List.mem_map.1 hz
    have := formR_op (hul.2.2 x hx)
    show (0 : Int) ≤ ((x.op : Nat) : Int) ∧ ((x.op : Nat) : Int) < 256
    omega
   have e3 := hsm hr
   refine ⟨ci, c, s, hc, by rw [hu], by rw [e2, hu], ?_⟩
   rw [hl2, e3, e1, hM2, hL, toIs_ofIs, hu]
 simp only [Bool.or_eq_false_iff, decide_eq_false_iff_not] at c60
 obtain ⟨c60, c60b⟩ := c60
 have hym : y.t % Lk.length < Lk.length := Nat.mod_lt _ (by omega)
 obtain ⟨z, hz⟩ : ∃ z0, Lk[(y.t % Lk.length)]? = some z0 := ⟨Lk[(y.t % Lk.length)]'hym, gge _⟩
 refine To.sp (To.t (To.s ?_))
 refine To.flow [] [⟨0, [], 0⟩, ⟨2, [], 0⟩, ⟨5, [], 0⟩, ⟨1, [], 1⟩, ⟨3, [], 1⟩, ⟨4, [], 0⟩, ⟨6, [], 1⟩, ⟨7, [], 0⟩, ⟨8, [], 0⟩, ⟨9, [], 1⟩, ⟨10, [], 0⟩] mixed (by kernel_rfl) (ocn _) ?_
 refine W.fi fl37_2 ?_
 refine W.fi fl169_0 ?_
 refine W.fi fl37_2 ?_
 refine W.lo 2 c35 ?_
 refine W.lo 0 c5 ?_
 refine W.f rfl (Rd.conv rfl rfl Tryz.underlying5 Tryz.underlying3 (IntWalk.i64_in _ (by omega))) ?_
 refine W.lo 2 c35 ?_
 refine W.f rfl (Rd.len rfl rfl Tryz.underlying35) ?_
 refine W.f rfl (Rd.remN (a := y.t) (b := Lk.length) rfl rfl rfl (by omega)) ?_
 refine W.r rfl (Rd.ixr (i := 4) (j := (y.t % Lk.length)) rfl rfl rfl s35 rfl hz) ?_
 refine W.f rfl (Rd.assign rfl rfl) ?_
 refine W.fin ?_
 refine To.t (To.s (To.g ?_))
 refine To.f fl169_1 ?_
 refine To.lo 0 c5 ?_
 refine To.r (Rd.remN (a := y.f) (b := 5) rfl rfl rfl (by omega)) ?_
 refine To.n (To.t (To.b (To.s (To.g ?_))))
 refine To.eq ?_
 refine To.a (To.n (To.t ?_))
 refine To.cp rfl (fun c78 => ?_) (fun c78 => ?_)
 refine To.g (To.m ?_)
 refine To.f fl169_2 ?_
 refine To.lo 0 c21 ?_
 refine To.r (Rd.conv rfl rfl Tryz.underlying21 Tryz.underlying3 (IntWalk.i64_in _ (by omega))) ?_
 refine To.nc ?_
 refine To.f fl54_0 ?_
 refine To.u (Up.store (i := 4) rfl rfl rfl c3 rfl rfl (rows_takesF (f := 0) (y := z) (z := (⟨y.v, z.a, z.b, z.n⟩ : Iz)) eIk hz (by decide) rfl)) ?_
 refine To.n (To.bn (To.bn (To.t (To.g ?_))))
 refine To.r (Rd.inc rfl rfl rfl (by omega)) ?_
 refine To.m (To.n (To.t ?_))
 refine To.sub [(6, pv b6), (9, pv b9), (46, .slice As sl.length qs), (47, nv sl.length), (48, nv ((k + 1)))] ⟨rfl, rfl, rfl, rfl, rfl, trivial⟩ ?_
 refine To.del0 ?_
 refine To.as [box b6 [.int .i64 0, .int .i64 0, .slice none 0 0] 37, box b9 [nv u.np, .int .i64 st, .slice A44 (Lk.set (y.t % Lk.length) (⟨y.v, z.a, z.b, z.n⟩ : Iz)).length q44] 37, ros Sp.cells As sl, rows eIz 54 4 A44 q44 (Lk.set (y.t % Lk.length) (⟨y.v, z.a, z.b, z.n⟩ : Iz))] (by rw [List.length_set] <;> rfl) ?_
 refine To.ag (sl.length - (k + 1)) (by omega) ⟨(Lk.set (y.t % Lk.length) (⟨y.v, z.a, z.b, z.n⟩ : Iz)), st, k + 1, rfl, rfl, rfl, (by omega), (by omega), (by rw [List.length_set]; exact hLk), (fun h => by omega)⟩
 refine To.s (To.g ?_)
 refine To.eq ?_
 refine To.a (To.n (To.t ?_))
 refine To.cp rfl (fun c86 => ?_) (fun c86 => ?_)
 refine To.g (To.m ?_)
 refine To.f fl169_2 ?_
 refine To.lo 0 c21 ?_
 refine To.r (Rd.conv rfl rfl Tryz.underlying21 Tryz.underlying3 (IntWalk.i64_in _ (by omega))) ?_
 refine To.nc ?_
 refine To.f fl54_1 ?_
 refine To.u (Up.store (i := 4) rfl rfl rfl c3 rfl rfl (rows_takesF (f := 1) (y := z) (z := (⟨z.o, y.v, z.b, z.n⟩ : Iz)) eIk hz (by decide) rfl)) ?_
 refine To.n (To.bn (To.bn (To.t (To.g ?_))))
 refine To.r (Rd.inc rfl rfl rfl (by omega)) ?_
 refine To.m (To.n (To.t ?_))
 refine To.sub [(6, pv b6), (9, pv b9), (46, .slice As sl.length qs), (47, nv sl.length), (48, nv ((k + 1)))] ⟨rfl, rfl, rfl, rfl, rfl, trivial⟩ ?_
 refine To.del0 ?_
 refine To.as [box b6 [.int .i64 0, .int .i64 0, .slice none 0 0] 37, box b9 [nv u.np, .int .i64 st, .slice A44 (Lk.set (y.t % Lk.length) (⟨z.o, y.v, z.b, z.n⟩ : Iz)).length q44] 37, ros Sp.cells As sl, rows eIz 54 4 A44 q44 (Lk.set (y.t % Lk.length) (⟨z.o, y.v, z.b, z.n⟩ : Iz))] (by rw [List.length_set] <;> rfl) ?_
 refine To.ag (sl.length - (k + 1)) (by omega) ⟨(Lk.set (y.t % Lk.length) (⟨z.o, y.v, z.b, z.n⟩ : Iz)), st, k + 1, rfl, rfl, rfl, (by omega), (by omega), (by rw [List.length_set]; exact hLk), (fun h => by omega)⟩
 refine To.s (To.g ?_)
 refine To.eq ?_
 refine To.a (To.n (To.t ?_))
 refine To.cp rfl (fun c94 => ?_) (fun c94 => ?_)
 refine To.g (To.m ?_)
 refine To.f fl169_2 ?_
 refine To.lo 0 c21 ?_
 refine To.r (Rd.conv rfl rfl Tryz.underlying21 Tryz.underlying3 (IntWalk.i64_in _ (by omega))) ?_
 refine To.nc ?_
 refine To.f fl54_2 ?_
 refine To.u (Up.store (i := 4) rfl rfl rfl c3 rfl rfl (rows_takesF (f := 2) (y := z) (z := (⟨z.o, z.a, y.v, z.n⟩ : Iz)) eIk hz (by decide) rfl)) ?_
 refine To.n (To.bn (To.bn (To.t (To.g ?_))))
 refine To.r (Rd.inc rfl rfl rfl (by omega)) ?_
 refine To.m (To.n (To.t ?_))
 refine To.sub [(6, pv b6), (9, pv b9), (46, .slice As sl.length qs), (47, nv sl.length), (48, nv ((k + 1)))] ⟨rfl, rfl, rfl, rfl, rfl, trivial⟩ ?_
 refine To.del0 ?_
 refine To.as [box b6 [.int .i64 0, .int .i64 0, .slice none 0 0] 37, box b9 [nv u.np, .int .i64 st, .slice A44 (Lk.set (y.t % Lk.length) (⟨z.o, z.a, y.v, z.n⟩ : Iz)).length q44] 37, ros Sp.cells As sl, rows eIz 54 4 A44 q44 (Lk.set (y.t % Lk.length) (⟨z.o, z.a, y.v, z.n⟩ : Iz))] (by rw [List.length_set] <;> rfl) ?_
 refine To.ag (sl.length - (k + 1)) (by omega) ⟨(Lk.set (y.t % Lk.length) (⟨z.o, z.a, y.v, z.n⟩ : Iz)), st, k + 1, rfl, rfl, rfl, (by omega), (by omega), (by rw [List.length_set]; exact hLk), (fun h => by omega)⟩
 refine To.s (To.g ?_)
 refine To.eq ?_
 refine To.a (To.n (To.t ?_))
 refine To.cp rfl (fun c102 => ?_) (fun c102 => ?_)
 refine To.g (To.m ?_)
 refine To.f fl169_2 ?_
 refine To.lo 0 c21 ?_
 refine To.r (Rd.conv rfl rfl Tryz.underlying21 Tryz.underlying2 (IntWalk.i64_in _ (by omega))) ?_
 refine To.nc ?_
 refine To.f fl54_3 ?_
 refine To.u (Up.store (i := 4) rfl rfl rfl c2 rfl rfl (rows_takesF (f := 3) (y := z) (z := (⟨z.o, z.a, z.b, y.v⟩ : Iz)) eIk hz (by decide) rfl)) ?_
 refine To.n (To.bn (To.bn (To.t (To.g ?_))))
 refine To.r (Rd.inc rfl rfl rfl (by omega)) ?_
 refine To.m (To.n (To.t ?_))
 refine To.sub [(6, pv b6), (9, pv b9), (46, .slice As sl.length qs), (47, nv sl.length), (48, nv ((k + 1)))] ⟨rfl, rfl, rfl, rfl, rfl, trivial⟩ ?_
 refine To.del0 ?_
 refine To.as [box b6 [.int .i64 0, .int .i64 0, .slice none 0 0] 37, box b9 [nv u.np, .int .i64 st, .slice A44 (Lk.set (y.t % Lk.length) (⟨z.o, z.a, z.b, y.v⟩ : Iz)).length q44] 37, ros Sp.cells As sl, rows eIz 54 4 A44 q44 (Lk.set (y.t % Lk.length) (⟨z.o, z.a, z.b, y.v⟩ : Iz))] (by rw [List.length_set] <;> rfl) ?_
 refine To.ag (sl.length - (k + 1)) (by omega) ⟨(Lk.set (y.t % Lk.length) (⟨z.o, z.a, z.b, y.v⟩ : Iz)), st, k + 1, rfl, rfl, rfl, (by omega), (by omega), (by rw [List.length_set]; exact hLk), (fun h => by omega)⟩
 refine To.g ?_
 refine To.f fl169_2 ?_
 refine To.lo 0 c21 ?_
 refine To.r (Rd.conv rfl rfl Tryz.underlying21 Tryz.underlying3 (IntWalk.i64_in _ (by omega))) ?_
 refine To.f fl37_1 ?_
 refine To.u (Up.store (i := 2) rfl rfl rfl c3 rfl rfl (bt1 rfl)) ?_
 refine To.n (To.bn (To.bn (To.t (To.g ?_))))
 refine To.r (Rd.inc rfl rfl rfl (by omega)) ?_
 refine To.m (To.n (To.t ?_))
 refine To.sub [(6, pv b6), (9, pv b9), (46, .slice As sl.length qs), (47, nv sl.length), (48, nv ((k + 1)))] ⟨rfl, rfl, rfl, rfl, rfl, trivial⟩ ?_
 refine To.del0 ?_
 refine To.ag (sl.length - (k + 1)) (by omega) ⟨Lk, y.v, k + 1, rfl, rfl, rfl, (by omega), (by omega), hLk, (fun h => by omega)⟩
 refine To.ex (To.tx (To.tx (To.bx (To.t (To.s (To.s (To.g ?_)))))))
 refine To.f fl37_2 ?_
 refine To.lo 1 c35 ?_
 refine To.r (Rd.len rfl rfl Tryz.underlying35) ?_
 refine To.m (To.n (To.t (To.b ?_)))
 refine To.sub [(6, pv b6), (9, pv b9), (112, .slice A44 Lk.length q44), (113, nv Lk.length), (114, nv 0)] ⟨rfl, rfl, rfl, rfl, rfl, trivial⟩ ?_
 refine To.del2 ?_
 refine To.loop (fun mz ρ Γ => ∃ (Lj : List Iz) (j : Nat), ρ = [(6, pv b6), (9, pv b9), (112, .slice A44 Lj.length q44), (113, nv Lj.length), (114, nv j)] ∧ Γ = [box b6 [.int .i64 0, .int .i64 0, .slice none 0 0] 37, box b9 [nv u.np, .int .i64 st, .slice A44 Lj.length q44] 37, rows eIz 54 4 A44 q44 Lj] ∧ mz = Lj.length - j ∧ (j ≤ Lj.length) ∧ (Lj.length ≤ 3816) ∧ (∀ i z, i < j → Lj[i]? = some z → 0 ≤ z.o ∧ z.o < 256) ∧ ((∀ z ∈ Lk, 0 ≤ z.o ∧ z.o < 256) → Lj = Lk)) (Lk.length - 0) ⟨Lk, 0, rfl, rfl, rfl, (Nat.zero_le _), hLk, (fun i z h => by omega), (fun _ => rfl)⟩ ?_
 rintro mz _ _ ⟨Lj, j, rfl, rfl, rfl, hj, hLj, hlow, hsm⟩
 refine To.s (To.g ?_)
 refine To.lt ?_
 refine To.n (To.t (To.s ?_))
 refine To.cp rfl (fun c115 => ?_) (fun c115 => ?_)
 obtain ⟨x, hx⟩ : ∃ z0, Lj[j]? = some z0 := ⟨Lj[j]'(by omega), gge _⟩
 refine To.sp (To.t (To.s (To.b (To.s (To.g (To.m ?_))))))
 refine To.a (To.n (To.t ?_))
 refine To.flow [] [⟨0, [], 0⟩, ⟨2, [], 0⟩, ⟨3, [], 0⟩, ⟨5, [], 0⟩, ⟨1, [], 1⟩, ⟨4, [], 1⟩, ⟨6, [], 1⟩, ⟨7, [], 0⟩, ⟨8, [], 1⟩, ⟨9, [], 0⟩, ⟨10, [], 0⟩, ⟨11, [], 1⟩, ⟨12, [], 0⟩, ⟨13, [], 5⟩] mixed (by kernel_rfl) (ocn _) ?_
 refine W.fi fl37_2 ?_
 refine W.mo ?_
 refine W.fi fl37_2 ?_
 refine W.mo ?_
 refine W.lo 1 c35 ?_
 refine W.lo 1 c35 ?_
 refine W.r rfl (Rd.ixr (i := 2) (j := j) rfl rfl rfl s35 rfl hx) ?_
 refine W.fi fl54_0 ?_
 refine W.r rfl (Rd.ld (i := 2) rfl rfl c3 rfl (gvt (f := 0) (rwg eIk hx) rfl)) ?_
 refine W.f rfl (Rd.convW rfl rfl Tryz.underlying3 Tryz.underlying5) ?_
 refine W.f rfl (Rd.conv rfl rfl Tryz.underlying5 Tryz.underlying3 (IntWalk.i64_in _ (by have := u8w x.o; omega))) ?_
 refine W.r rfl (Rd.ixr (i := 2) (j := j) rfl rfl rfl s35 rfl hx) ?_
 refine W.fi fl54_0 ?_
 refine W.up rfl rfl rfl (Up.store (i := 2) rfl rfl rfl c3 rfl rfl (rows_takesF (f := 0) (y := x) (z := (⟨IntKind.u8.wrap x.o, x.a, x.b, x.n⟩ : Iz)) eIk hx (by decide) rfl)) (ocn _) ?_
 refine W.fin ?_
 refine To.bn (To.t (To.g ?_))
 refine To.r (Rd.inc rfl rfl rfl (by omega)) ?_
 refine To.m (To.n (To.t ?_))
 refine To.sub [(6, pv b6), (9, pv b9), (112, .slice A44 (Lj.set j (⟨IntKind.u8.wrap x.o, x.a, x.b, x.n⟩ : Iz)).length q44), (113, nv ((Lj.set j (⟨IntKind.u8.wrap x.o, x.a, x.b, x.n⟩ : Iz)).length)), (114, nv ((j + 1)))] ⟨rfl, rfl, (congrArg (fun n : Nat => some (Value.slice A44 n q44)) List.length_set.symm), (congrArg (fun n : Nat => some (nv n)) List.length_set.symm), rfl, trivial⟩ ?_
 refine To.as [box b6 [.int .i64 0, .int .i64 0, .slice none 0 0] 37, box b9 [nv u.np, .int .i64 st, .slice A44 (Lj.set j (⟨IntKind.u8.wrap x.o, x.a, x.b, x.n⟩ : Iz)).length q44] 37, rows eIz 54 4 A44 q44 (Lj.set j (⟨IntKind.u8.wrap x.o, x.a, x.b, x.n⟩ : Iz))] (by rw [List.length_set] <;> rfl) ?_
 refine To.ag ((Lj.set j (⟨IntKind.u8.wrap x.o, x.a, x.b, x.n⟩ : Iz)).length - (j + 1)) (by rw [List.length_set]; omega) ⟨(Lj.set j (⟨IntKind.u8.wrap x.o, x.a, x.b, x.n⟩ : Iz)), j + 1, rfl, rfl, rfl, (by rw [List.length_set]; omega), (by rw [List.length_set]; exact hLj), (low_set hlow hx (u8w _)), (fun hh => by
  have e := hsm hh
  have hr := hh x (mog (by rw [← e]; exact hx))
  rw [set_eq hx (by rw [IntWalk.u8_in _ (by omega)])]; exact e)⟩
 refine To.ex (To.tx (To.tx (To.bx (To.t (To.s (To.g ?_))))))
 refine To.r (Rd.lS (i := 1) rfl rfl r37 rfl box_whole rfl) ?_
 refine To.u (Up.storeS (i := 0) rfl rfl rfl r37 rfl rfl rfl (bta rfl)) ?_
 refine To.n (To.t (To.rt ?_))
 have hall : ∀ z ∈ Lj, 0 ≤ z.o ∧ z.o < 256 := fun z hz => by
  obtain ⟨i, hi⟩ := List.getElem?_of_mem hz
  have hil := (List.getElem?_eq_some_iff.1 hi).1
  exact hlow i z (by omega) hi
 obtain ⟨l2, hl2⟩ : ∃ l2, l2 = Lj.map toI := ⟨_, rfl⟩
 have hback : l2.map ofI = Lj := by rw [hl2]; exact ofIs_toIs fun z hz => (hall z hz).1
 have hll : l2.length = Lj.length := by rw [hl2, List.length_map]
 refine To.as [box b6 [nv u.np, .int .i64 st, .slice A44 Lj.length q44] 37, box b9 [nv u.np, .int .i64 st, .slice A44 Lj.length q44] 37, rows eIz 54 4 A44 q44 Lj] rfl ?_
 rw [← hback, List.length_map, ← rows_ofI]
 refine To.endC [2] rfl (.inl rfl) Tryz.results18 rfl (i := 0) rfl r37 rfl ?_
 refine ⟨F, u.np, st, A44, q44, l2, rfl, rfl, hG, ⟨fun x hx => ?_, by omega, hul.2.1, fun hn => ?_⟩⟩
 · rw [hl2] at hx
   obtain ⟨z, hz, rfl⟩ := List.mem_map.1 hx
   have := hall z hz
   show z.o.toNat < 256
   omega
 · have hs0 : sl.length = 0 := by cases sl with
     | nil => rfl
     | cons a r => cases hn
   obtain ⟨e1, e2⟩ := h0 (by omega)
   have hr : ∀ z ∈ Lk, 0 ≤ z.o ∧ z.o < 256 := fun z hz => by
    rw [e1, hM2, hL] at hz
    obtain ⟨x, hx, rfl⟩ := List.mem_map.1 hz
    have := formR_op (hul.2.2 x hx)
    show (0 : Int) ≤ ((x.op : Nat) : Int) ∧ ((x.op : Nat) : Int) < 256
    omega
   have e3 := hsm hr
   refine ⟨ci, c, s, hc, by rw [hu], by rw [e2, hu], ?_⟩
   rw [hl2, e3, e1, hM2, hL, toIs_ofIs, hu]
end Go.Proofs.YtllalpnmagpkfaaGreatDoor
