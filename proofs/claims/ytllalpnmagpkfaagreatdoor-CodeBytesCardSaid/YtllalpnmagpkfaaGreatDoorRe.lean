/- Merged out of R6p, R6, S1p by merge.py. Own text. -/
import Derived.Test.YtllalpnmagpkfaaGreatDoorRc
set_option linter.unusedVariables false
set_option linter.unusedSimpArgs false
namespace Go.Proofs.YtllalpnmagpkfaaGreatDoor
open Go.RowKit Go.Flow Go.Mem Go.Sep Go.In
theorem pure_comp {F : Fl} {ci : Nat} {c : Cm} (hc : F.comps[ci]? = some c) : F.pure.comps[ci]? = some c.pure := by
 show (F.comps.map Cm.pure)[ci]? = _
 rw [List.getElem?_map, hc]; rfl
theorem varsOf_len (a b : Nat) : (varsOf a b).length = a + 1 + b := by
 unfold varsOf; simp only [lap, List.length_map, List.length_range, lc1, ln0]
theorem bndF_of {F : Fl} (h : GoodF F.pure) : BndF F := by
 obtain ⟨ars, ho, hl, hg⟩ := h.comps
 refine ⟨by have : F.flags.length ≤ 2 := h.flags.1; omega, ?_, fun c hc => ?_⟩
 · have h1 : (F.comps.map Cm.pure).length = ars.length := hl
   rw [List.length_map] at h1; have := ho.1.2; omega
 · obtain ⟨i, hi⟩ := List.getElem?_of_mem hc
   have g := hg i _ (pure_comp hi)
   obtain ⟨ints, tables, ar, hin, ht, ha, hv, hvs, hvn, hx⟩ := g.vers
   have har := (ho.2 ar (mog ha)).2.1
   refine ⟨?_, ?_, fun v hv' => ?_⟩
   · have h2 : c.vars = varsOf ints tables := hv
     rw [h2, varsOf_len]; omega
   · have h3 : (c.vers.map Vs.pure).length ≤ 2 := hvn.2
     rw [List.length_map] at h3; omega
   · have h4 := (hvs v.pure (List.mem_map.2 ⟨v, hv', rfl⟩)).2.1
     have h5 : v.pure.length = v.l.length := List.length_map ..
     omega
abbrev codeR (F : Fl) (c : Cm) (x : Hd) : List Ins := cB (ccR F.pure c.name c.vars x.ps) (St.pL x.body) 0
structure GoodCode (F : Fl) (c : Cm) (x : Hd) : Prop where
 ps : x.ps.length ≤ 2
 len : (codeR F c x).length ≤ 3816
 form : ∀ i ∈ codeR F c x, formR ((x.ps.length : Nat) : Int) (codeR F c x).length i = true
theorem good_code {F : Fl} (h : GoodF F.pure) {ci : Nat} {c : Cm} (hc : F.comps[ci]? = some c) {v : Vs} (hv : v ∈ c.vers) {x : Hd} (hx : x ∈ v.l) : GoodCode F c x := by
 obtain ⟨ct, ar, ok⟩ := h.okC (pure_comp hc)
 have hgv := ok.vers v.pure (List.mem_map.2 ⟨v, hv, rfl⟩)
 obtain ⟨k, hk⟩ := List.getElem?_of_mem hx
 have gh := hgv.2.2 k x.pure (by show (v.l.map Hd.pure)[k]? = _; rw [List.getElem?_map, hk]; rfl)
 obtain ⟨np, hnp, hps, hst⟩ := gh.ps
 have hnp2 : np ≤ 2 := (ok.ok.each ar (mog ok.arr)).2.2 np (mog hnp)
 have hps : x.ps = nms 112 np := hps
 have hst : ∀ s ∈ St.pL x.body, StE ct np 3 s := hst
 have hcn : PS.cntL (St.pL x.body) ≤ 12 := gh.cnt
 have his : (ccR F.pure c.name c.vars (nms 112 np)).Is ct np := ok.isR hnp2
 have hwf : ∀ s ∈ St.pL x.body, WfS s := fun s hs => (hst s hs).wf ok.ok
 have hpl : x.ps.length = np := by rw [hps, nms_len]
 have hlen : (codeR F c x).length ≤ 318 * PS.cntL (St.pL x.body) := cB_len _ _ fun s hs => cS_len (hwf s hs)
 have fe := form_each ok.ok (np := np) (n := (codeR F c x).length) (by omega)
 refine ⟨by omega, by omega, ?_⟩
 rw [hpl]
 have e1 : codeR F c x = cB (ccR F.pure c.name c.vars (nms 112 np)) (St.pL x.body) 0 := by show cB (ccR F.pure c.name c.vars x.ps) _ _ = _; rw [hps]
 have := cB_all (Q := fun i => formR ((np : Nat) : Int) (codeR F c x).length i = true) (n := (codeR F c x).length) (St.pL x.body) 0 (cc := ccR F.pure c.name c.vars (nms 112 np)) (fun s hs p hp => (hst s hs).all ok.ok fe.1 fe.2 his p hp) (by rw [← e1]; omega)
 rw [← e1] at this
 exact this
theorem fndH_mem {s : ByteArray} {x : Hd} : ∀ {l : List Hd} {o : Option Hd}, fndH s o l = some x → o = some x ∨ x ∈ l
 | [], o, h => .inl h
 | a :: r, o, h => by
   rw [fndH_cons] at h
   rcases fndH_mem h with h | h
   · split at h
     · cases h; exact .inr (List.mem_cons_self ..)
     · exact .inl h
   · exact .inr (List.mem_cons_of_mem _ h)
theorem fndV_mem {s : ByteArray} {x : Hd} : ∀ {l : List Vs} {o : Option Hd}, fndV s o l = some x → o = some x ∨ ∃ v ∈ l, x ∈ v.l
 | [], o, h => .inl h
 | a :: r, o, h => by
   rw [fndV_cons] at h
   rcases fndV_mem h with h | ⟨v, hv, hx⟩
   · rcases fndH_mem h with h | h
     · exact .inl h
     · exact .inr ⟨a, List.mem_cons_self .., h⟩
   · exact .inr ⟨v, List.mem_cons_of_mem _ hv, hx⟩
theorem fnd_good {F : Fl} (h : GoodF F.pure) {ci : Nat} {c : Cm} (hc : F.comps[ci]? = some c) {vn : Nat} {s : ByteArray} {x : Hd} (hf : fndV s none (c.vers.take vn) = some x) : ∃ v ∈ c.vers, x ∈ v.l := by
 rcases fndV_mem hf with hf | ⟨v, hv, hx⟩
 · cases hf
 · exact ⟨v, List.mem_of_mem_take hv, hx⟩
structure RU where
 ok : Bool
 np : Nat
 st : Int
 l : List Ins
def rU (F : Fl) (c : Cm) (vn : Nat) (s : ByteArray) : RU := match fndV s none (c.vers.take vn) with
 | none => ⟨false, 0, 0, []⟩
 | some x => ⟨true, x.ps.length, (heightR (codeR F c x)).1, codeR F c x⟩
set_option maxHeartbeats 6000000 in
set_option maxRecDepth 100000 in
theorem rcompile_fn (F : Fl) (hG : GoodF F.pure) (ci : Nat) (c : Cm) (hc : F.comps[ci]? = some c) (vn h : Nat) (hvn : 1 ≤ vn ∧ vn ≤ c.vers.length) (hh : h < (hnames (c.vers.map Vs.pure)).length) (s : ByteArray) (hs : (hnames (c.vers.map Vs.pure))[h]? = some s) :
    Does Tryz.prog 14 [.agg #[.string F.name, .slice F.Af F.flags.length F.qf, .slice F.Al F.links.length F.ql, .slice F.Ac F.comps.length F.qc], nv ci, nv vn, nv h] [all (Fl.kids eR F)] (fun v Γ' => ∃ (A : Option Addr) (q : Nat), v = .tuple #[.agg #[nv ((rU F c vn s).np), .int .i64 (rU F c vn s).st, .slice A (rU F c vn s).l.length q], .bool (rU F c vn s).ok] ∧ Γ' = [rows Ins.rc 54 4 A q (rU F c vn s).l]) := by
 have hci : ci < F.comps.length := (List.getElem?_eq_some_iff.1 hc).1
 have hB := bndF_of hG
 have hcb := hB.each c (mog hc)
 have hcm := hB.comps
 refine Does.enter Tryz.func14 rfl Tryz.ntmps14 rfl (fun w0 => ?_)
 refine To.s (To.g (To.boxed rfl rfl rfl rfl rfl rfl (fun b4 => ?_)))
 refine To.alloc rfl rfl rfl rfl z37 (fun b8 => ?_)
 refine To.a (To.n (To.t (To.s (To.s ?_))))
 refine To.one 2 rfl (ros encC F.Ac F.comps) rfl (fl_comps F) (To.g (To.m ?_))
 refine To.lt ?_
 refine To.rdP rfl rfl rfl (Rd.move rfl rfl) (fun g17 => ?_) (fun g17 => ?_)
 exact absurd g17 (by omega)
 refine To.m ?_
 refine To.f fl32_3 ?_
 refine To.lo 2 c30 ?_
 refine To.r (Rd.len rfl rfl Tryz.underlying30) ?_
 refine To.gq ?_
 refine To.pF ?_
 refine To.rdP rfl rfl rfl (Rd.move rfl rfl) (fun g24 => ?_) (fun g24 => ?_)
 exact absurd g24 (by omega)
 refine To.m ?_
 refine To.lt ?_
 refine To.pF ?_
 refine To.rdP rfl rfl rfl (Rd.move rfl rfl) (fun g28 => ?_) (fun g28 => ?_)
 exact absurd g28 (by omega)
 refine To.m ?_
 refine To.f fl32_3 ?_
 refine To.lo 2 c30 ?_
 refine To.m ?_
 refine To.r (Rd.ixo encC_ok (i := 0) (j := ci) rfl rfl rfl s30 rfl hc) ?_
 refine To.f fl103_2 ?_
 refine To.r (Rd.ld (i := 0) rfl rfl c101 rfl (gvt (rsg encC_ok hc) rfl)) ?_
 refine To.r (Rd.len rfl rfl Tryz.underlying101) ?_
 refine To.gt ?_
 refine To.pF ?_
 refine To.n (To.t (To.cp rfl (fun c38 => ?_) (fun c38 => ?_)))
 exact absurd c38 (by omega)
 refine To.sp (To.t (To.s (To.part 3 rfl (c.kids eR) (c.lax eR) (fun z hz => fl_cm hc hz) (To.g (To.f fl32_3 ?_)))))
 refine To.lo 3 c30 ?_
 refine To.m ?_
 refine To.r (Rd.ixo encC_ok (i := 1) (j := ci) rfl rfl rfl s30 rfl hc) ?_
 refine To.r (Rd.lS (i := 1) rfl rfl r103 rfl (rsg encC_ok hc) (encC_ok.len _)) ?_
 refine To.cl [0] rfl rfl rfl (Ent.fn rfl rfl ca28) rfl (handlersN_fn c hcb.2.1 hcb.2.2) ?_
 rintro _ _ ⟨Ah, qh, rfl, rfl⟩
 refine To.a (To.n (To.t (To.s (To.s (To.g ?_)))))
 refine To.m ?_
 refine To.lt ?_
 refine To.rdP rfl rfl rfl (Rd.move rfl rfl) (fun g48 => ?_) (fun g48 => ?_)
 exact absurd g48 (by omega)
 refine To.m ?_
 refine To.m ?_
 refine To.r (Rd.len rfl rfl Tryz.underlying74) ?_
 refine To.gq ?_
 refine To.pF ?_
 refine To.n (To.t (To.cp rfl (fun c53 => ?_) (fun c53 => ?_)))
 exact absurd c53 (by omega)
 refine To.sp (To.t (To.s (To.part 4 rfl (c.kids eR) (c.lax eR) (fun z hz => fl_cm hc hz) (To.flow [] [⟨0, [], 0⟩, ⟨2, [], 0⟩, ⟨5, [], 0⟩, ⟨6, [], 0⟩, ⟨7, [], 0⟩, ⟨1, [], 1⟩, ⟨3, [], 1⟩, ⟨4, [], 1⟩, ⟨8, [], 1⟩, ⟨9, [], 1⟩, ⟨10, [], 4⟩, ⟨11, [10], 0⟩, ⟨12, [10], 0⟩, ⟨13, [10], 0⟩, ⟨14, [], 2⟩, ⟨15, [10, 14], 5⟩, ⟨16, [], 0⟩] mixed (by kernel_rfl) (ocn _) (W.fi fl32_3 ?_)))))
 refine W.mo ?_
 refine W.mo ?_
 refine W.mo ?_
 refine W.mo ?_
 refine W.lo 4 c30 ?_
 refine W.r rfl (Rd.ixo encC_ok (i := 2) (j := ci) rfl rfl rfl s30 rfl hc) ?_
 refine W.r rfl (Rd.lS (i := 2) rfl rfl r103 rfl (rsg encC_ok hc) (encC_ok.len _)) ?_
 refine W.r rfl (Rd.ixr (i := 1) (j := h) rfl rfl rfl s74 rfl hs) ?_
 refine W.r rfl (Rd.ld (i := 1) rfl rfl c9 rfl (gives_1 (rwg encZ_ok hs) rfl)) ?_
 refine W.callM rfl rfl rfl rfl rfl (Ent.fn rfl rfl ca43) (find_fn c hcb.2.1 hcb.2.2 vn s) (by show owns (c.kids eR) ++ [] = []; rw [(c.lax eR).owns]; rfl) (ocs (oca 0 rfl) (ocn _)) ?_
 rintro _ _ ⟨rfl, rfl⟩
 refine ⟨rfl, ?_⟩
 refine W.mo ?_
 refine W.f rfl (Rd.extract rfl rfl rfl) ?_
 refine W.f rfl (Rd.extract rfl rfl rfl) ?_
 refine W.mk rfl rfl rfl rfl rfl (Mk.alloc rfl z149) ?_
 rintro _ _ ⟨b11, rfl, rfl⟩
 refine W.up rfl rfl rfl (Up.storeS (i := 0) rfl rfl rfl r149 rfl rfl rfl (bta rfl)) (ocn _) ?_
 refine W.f rfl (Rd.assign rfl rfl) ?_
 refine W.fin ?_
 refine To.t (To.s (To.s (To.g (To.m ?_))))
 refine To.nt ?_
 refine To.n (To.t (To.cond rfl (fun c70 => ?_) (fun c70 => ?_)))
 have hno : fndV s none (c.vers.take vn) = none := by
  cases ho : fndV s none (c.vers.take vn) with
  | none => rfl
  | some x => rw [ho] at c70; cases c70
 refine To.s (To.g (To.r (Rd.build (vs := []) (cells := [.int .i64 0, .int .i64 0, .slice none 0 0]) rfl rfl rfl (by kernel_rfl)) ?_))
 refine To.u (Up.storeS (i := 4) rfl rfl rfl r37 rfl rfl rfl (bta rfl)) ?_
 refine To.a (To.n (To.t (To.rt (To.tr ?_))))
 refine To.nilRow (Ins.rc) 54 4 (To.endCT [0] rfl (.inl rfl) Tryz.results14 rfl (i := 5) rfl r37 rfl rfl ?_)
 have hr : rU F c vn s = ⟨false, 0, 0, []⟩ := by unfold rU; rw [hno]
 rw [hr]; exact ⟨none, 0, rfl, rfl⟩
 obtain ⟨x, ho⟩ : ∃ x, fndV s none (c.vers.take vn) = some x := by
  cases ho : fndV s none (c.vers.take vn) with
  | none => rw [ho] at c70; cases c70
  | some x => exact ⟨x, rfl⟩
 obtain ⟨v, hv, hx⟩ := fnd_good hG hc ho
 have gc := good_code hG hc hv hx
 have hcl := gc.len
 have hcp := gc.ps
 refine To.sp (To.t (To.s (To.as [box b11 [.string ((hdOr (fndV s none (c.vers.take vn))).name), .slice ((hdOr (fndV s none (c.vers.take vn))).Ap) ((hdOr (fndV s none (c.vers.take vn))).ps.length) ((hdOr (fndV s none (c.vers.take vn))).qp), .slice ((hdOr (fndV s none (c.vers.take vn))).Ab) ((hdOr (fndV s none (c.vers.take vn))).body.length) ((hdOr (fndV s none (c.vers.take vn))).qb)] 149, all (Cm.kids eR c), rows encZ 9 1 Ah qh (hnames (c.vers.map Vs.pure)), ros encC F.Ac F.comps, box b8 [.int .i64 0, .int .i64 0, .slice none 0 0] 37, box b4 [.string F.name, .slice F.Af F.flags.length F.qf, .slice F.Al F.links.length F.ql, .slice F.Ac F.comps.length F.qc] 32, all (Fl.kids eR F)] rfl ?_)))
 rw [ho]
 refine To.as [box b11 [.string (x.name), .slice x.Ap x.ps.length x.qp, .slice x.Ab x.body.length x.qb] 149, all (Cm.kids eR c), rows encZ 9 1 Ah qh (hnames (c.vers.map Vs.pure)), ros encC F.Ac F.comps, box b8 [.int .i64 0, .int .i64 0, .slice none 0 0] 37, box b4 [.string F.name, .slice F.Af F.flags.length F.qf, .slice F.Al F.links.length F.ql, .slice F.Ac F.comps.length F.qc] 32, all (Fl.kids eR F)] rfl ?_
 have hxm : ∀ z ∈ x.kids eR, z ∈ F.kids eR := fun z hz => fl_cm hc (List.mem_cons_of_mem _ (List.mem_cons_of_mem _ (List.mem_flatMap.2 ⟨v, hv, List.mem_cons_of_mem _ (List.mem_flatMap.2 ⟨x, hx, hz⟩)⟩)))
 refine To.one 6 rfl (ros encZ x.Ap x.ps) rfl (hxm _ (List.mem_cons_self ..)) (To.g (To.r (Rd.lS (i := 6) rfl rfl r32 rfl box_whole rfl) ?_))
 refine To.m ?_
 refine To.f fl149_1 ?_
 refine To.lo 1 c74 ?_
 refine To.r (Rd.build (vs := [(0, .agg #[.string F.name, .slice F.Af F.flags.length F.qf, .slice F.Al F.links.length F.ql, .slice F.Ac F.comps.length F.qc]), (1, nv ci), (2, .slice x.Ap x.ps.length x.qp)]) (cells := [.string F.name, .slice F.Af F.flags.length F.qf, .slice F.Al F.links.length F.ql, .slice F.Ac F.comps.length F.qc, nv ci, .slice x.Ap x.ps.length x.qp, .slice none 0 0]) rfl rfl rfl (by kernel_rfl)) ?_
 refine To.boxed rfl rfl rfl rfl rfl rfl (fun b77 => ?_)
 refine To.a (To.n (To.t (To.s ?_)))
 refine To.nilRow (Ins.rc) 54 4 (To.part 9 rfl (lsS x.Ab x.body) (lsS_lax _ _) (fun z hz => hxm _ (List.mem_cons_of_mem _ hz)) (To.g (To.m ?_)))
 refine To.f fl149_2 ?_
 refine To.lo 4 c147 ?_
 refine To.cl [2, 1, 8, 1, 0] rfl rfl rfl (Ent.fn rfl rfl ca44) rfl (rbody_fn F hB ci c hc x.Ap x.qp x.ps (by omega) b77 x.Ab x.qb x.body none 0 [] (by show ([] ++ codeR F c x).length ≤ _; rw [List.nil_append]; omega)) ?_
 rintro _ _ ⟨Ak, qk, rfl⟩
 refine To.n (To.sub [(0, .agg #[.string F.name, .slice F.Af F.flags.length F.qf, .slice F.Al F.links.length F.ql, .slice F.Ac F.comps.length F.qc]), (1, nv ci), (2, nv vn), (3, nv h), (4, pv b4), (8, pv b8), (9, .bool false), (38, .bool (decide (((c.vers.length : Nat) : Int) < ((vn : Nat) : Int)))), (10, .slice Ah ((hnames (c.vers.map Vs.pure)).length) qh), (53, .bool (decide ((((hnames (c.vers.map Vs.pure)).length : Nat) : Int) ≤ ((h : Nat) : Int)))), (11, pv b11), (12, .bool true), (70, .bool (!(true))), (13, pv b77)] ⟨rfl, rfl, rfl, rfl, rfl, rfl, rfl, rfl, rfl, rfl, rfl, rfl, rfl, rfl, trivial⟩ (To.t (To.s (To.flow [] [⟨0, [], 0⟩, ⟨3, [], 0⟩, ⟨4, [], 0⟩, ⟨5, [], 0⟩, ⟨1, [], 1⟩, ⟨2, [], 0⟩, ⟨6, [], 1⟩, ⟨7, [], 0⟩, ⟨8, [], 2⟩, ⟨9, [8], 5⟩] mixed (by kernel_rfl) (ocn _) (W.fi fl149_1 ?_)))))
 refine W.mo ?_
 refine W.nc ?_
 refine W.fi fl154_3 ?_
 refine W.lo 4 c74 ?_
 refine W.f rfl (Rd.len rfl rfl Tryz.underlying74) ?_
 refine W.lo 0 c35 ?_
 refine W.f rfl (Rd.build (vs := [(0, nv x.ps.length), (2, .slice Ak ((codeR F c x).length) qk)]) (cells := [nv x.ps.length, .int .i64 0, .slice Ak ((codeR F c x).length) qk]) rfl rfl rfl (by kernel_rfl)) ?_
 refine W.mk rfl rfl rfl rfl rfl (Mk.alloc rfl z37) ?_
 rintro _ _ ⟨b14, rfl, rfl⟩
 refine W.up rfl rfl rfl (Up.storeS (i := 0) rfl rfl rfl r37 rfl rfl rfl (bta rfl)) (ocn _) ?_
 refine W.fin ?_
 refine To.t (To.s (To.g (To.r (Rd.lS (i := 0) rfl rfl r37 rfl box_whole rfl) ?_)))
 refine To.cV rfl rfl rfl (Ent.fn rfl rfl ca45) (rheight_fn ((x.ps.length : Nat) : Int) 0 Ak qk (codeR F c x) (by omega) (fun i hi => gc.form i hi)) rfl (ocs (oks_row 2 rfl) (ocn _)) (To.m ?_)
 refine To.r (Rd.extract rfl rfl rfl) ?_
 refine To.r (Rd.extract rfl rfl rfl) ?_
 refine To.f fl37_1 ?_
 refine To.u (Up.store (i := 0) rfl rfl rfl c3 rfl rfl (bt1 rfl)) ?_
 refine To.n (To.t (To.s (To.g (To.r (Rd.lS (i := 0) rfl rfl r37 rfl box_whole rfl) ?_))))
 refine To.u (Up.storeS (i := 9) rfl rfl rfl r37 rfl rfl rfl (bta rfl)) ?_
 refine To.a (To.n (To.t (To.rt ?_)))
 refine To.endCT [2] rfl (.inl rfl) Tryz.results14 rfl (i := 9) rfl r37 rfl rfl ?_
 have hr : rU F c vn s = ⟨true, x.ps.length, (heightR (codeR F c x)).1, codeR F c x⟩ := by unfold rU; rw [ho]
 rw [hr]; exact ⟨Ak, qk, rfl, rfl⟩
theorem Rd.convW {P : Program} {o : Oper} {ρ : Slots} {Γ : List Chunk} {x : Operand} {s d : TypeId} {k k' : IntKind} {m : Int} {ds : TypeDesc} (ho : o.op = .convert s d x) (hx : ev ρ x = some (.int k m)) (hs : P.underlying s = some ds) (hd : P.underlying d = some (.int k')) : Rd P o ρ Γ (.int k' (k'.wrap m)) := fun a w ha _ => by
 unfold execOp
 simp [ho, ha.eval hx, convert, run_underlying hs, run_underlying hd, Conv.intToInt]
structure Iz where
 o : Int
 a : Int
 b : Int
 n : Int
structure SpR (F : Fl) (nil : Bool) (np : Nat) (st : Int) (l : List Ins) : Prop where
 op : ∀ x ∈ l, x.op < 256
 len : l.length ≤ 3816
 two : np ≤ 2
 same : nil = true → ∃ (ci : Nat) (c : Cm) (s : ByteArray), F.comps[ci]? = some c ∧ np = (rU F c 1 s).np ∧ st = (rU F c 1 s).st ∧ l = (rU F c 1 s).l
theorem rU_len {F : Fl} (h : GoodF F.pure) {ci : Nat} {c : Cm} (hc : F.comps[ci]? = some c) (vn : Nat) (s : ByteArray) : (rU F c vn s).l.length ≤ 3816 ∧ (rU F c vn s).np ≤ 2 ∧ ∀ x ∈ (rU F c vn s).l, formR (((rU F c vn s).np : Nat) : Int) (rU F c vn s).l.length x = true := by
 cases ho : fndV s none (c.vers.take vn) with
 | none =>
   have e : rU F c vn s = ⟨false, 0, 0, []⟩ := by unfold rU; rw [ho]
   rw [e]; exact ⟨Nat.zero_le _, Nat.zero_le _, fun x hx => (by cases hx)⟩
 | some x =>
   have e : rU F c vn s = ⟨true, x.ps.length, (heightR (codeR F c x)).1, codeR F c x⟩ := by unfold rU; rw [ho]
   obtain ⟨v, hv, hx⟩ := fnd_good h hc ho
   have g := good_code h hc hv hx
   rw [e]
   exact ⟨g.len, g.ps, g.form⟩
theorem formR_op {pr : Int} {n : Nat} {x : Ins} (h : formR pr n x = true) : 1 ≤ x.op ∧ x.op ≤ 34 := by
 unfold formR at h
 simp only [Bool.and_eq_true, Bool.not_eq_true', Bool.or_eq_false_iff, decide_eq_false_iff_not] at h
 omega
theorem goodF_pos {F : Fl} (h : GoodF F.pure) : 1 ≤ F.comps.length ∧ F.comps.length ≤ 3 := by
 obtain ⟨ars, ho, hl, hg⟩ := h.comps
 have h1 : (F.comps.map Cm.pure).length = ars.length := hl
 rw [List.length_map] at h1; have := ho.1; omega
theorem goodF_vers {F : Fl} (h : GoodF F.pure) {ci : Nat} {c : Cm} (hc : F.comps[ci]? = some c) : (1 ≤ c.vers.length ∧ c.vers.length ≤ 2) ∧ 1 ≤ (hnames (c.vers.map Vs.pure)).length ∧ (hnames (c.vers.map Vs.pure)).length ≤ 3 := by
 obtain ⟨ct, ar, ok⟩ := h.okC (pure_comp hc)
 obtain ⟨ars, ho, hl, hg⟩ := h.comps
 obtain ⟨ints, tables, ar2, hin, ht, ha, hv, hvs, hvn, hx⟩ := (hg ci _ (pure_comp hc)).vers
 have h3 : 1 ≤ (c.vers.map Vs.pure).length ∧ (c.vers.map Vs.pure).length ≤ 2 := hvn
 rw [List.length_map] at h3
 have h4 : hnames (c.vers.map Vs.pure) = nms 104 ar.length := ok.hn
 have h5 := ok.ok.each ar (mog ok.arr)
 rw [h4, nms_len]; exact ⟨h3, h5.1, h5.2.1⟩
end Go.Proofs.YtllalpnmagpkfaaGreatDoor
