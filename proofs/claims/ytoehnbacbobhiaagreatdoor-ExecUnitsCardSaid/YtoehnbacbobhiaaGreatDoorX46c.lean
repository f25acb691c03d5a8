/- The law ExecUnits. Own text (walks printed by sx.py). -/
import Derived.Test.YtoehnbacbobhiaaGreatDoorL1
import Derived.Test.YtoehnbacbobhiaaGreatDoorX46
set_option linter.unusedVariables false
set_option linter.unusedSimpArgs false
namespace Go.Proofs.YtoehnbacbobhiaaGreatDoor
open Go.RowKit Go.Flow Go.Mem Go.Sep
set_option maxHeartbeats 12000000 in
set_option maxRecDepth 100000 in
theorem units_ok_fn (A : Option Addr) (ca : Nat) (l : List Ins) (hca : l.length ≤ ca) (h0 h1 h2 h3 : Nat) (hh : h0 < 256 ∧ h1 < 256 ∧ h2 < 256 ∧ h3 < 256) (w : Wx) (hw : w.ok) (hwf : w.flags < 256) (hbl : l.length ≤ 60 → verifyV ((h0 % 5 : Nat) : Int) ((h1 % 8 : Nat) : Int) (l.map m36) = 0) (hb60 : 60 < l.length → verifyV ((h0 % 5 : Nat) : Int) ((h1 % 8 : Nat) : Int) ((l.take 60).map m36) = 0) (hfl_ : l.length ≤ 60 → ((((h3 % 5) : Nat) : Int) = ((h0 % 5 : Nat) : Int) ∧ ∀ x ∈ l.map m36, referB x (h2 % 4) (h2 / 4 % 3) (h3 / 8 % 3) = true)) (hf60 : 60 < l.length → ((((h3 % 5) : Nat) : Int) = ((h0 % 5 : Nat) : Int) ∧ ∀ x ∈ (l.take 60).map m36, referB x (h2 % 4) (h2 / 4 % 3) (h3 / 8 % 3) = true)) :
    Does Tryz.prog 3 [.slice A l.length ca, .agg #[.int .u8 ((h0 : Nat) : Int), .int .u8 ((h1 : Nat) : Int), .int .u8 ((h2 : Nat) : Int), .int .u8 ((h3 : Nat) : Int)], .agg #[.slice w.Av w.vars.length w.qv, .slice w.At w.tabs.length w.qt, .slice w.Ad w.disk.length w.qd, .slice w.Aa w.args.length w.qa, .int .i64 w.now, .int .u8 ((w.flags : Nat) : Int), .int .u8 ((w.before : Nat) : Int), .slice w.Af w.fail.length w.qf]] [ros Ins.cells A l, ros encI w.Av w.vars, ros encEn w.At w.tabs, ros encEn w.Ad w.disk, ros encI w.Aa w.args, ros encY w.Af w.fail, tabC] (fun v _ => v = .bool true) := by
  refine Does.enter Tryz.func3 rfl Tryz.ntmps3 rfl (fun w0 => ?_)
  refine To.seq (To.reg ?_)
  refine To.boxed rfl rfl rfl rfl rfl rfl (fun b4 => ?_)
  refine To.boxed rfl rfl rfl rfl rfl rfl (fun b5 => ?_)
  refine To.a (To.nil (To.thenN (To.seq (To.seq (To.reg ?_)))))
  refine To.m ?_
  refine To.r (Rd.len rfl rfl Tryz.underlying22) ?_
  refine To.r (Rd.gtr rfl rfl rfl) ?_
  refine To.nil (To.thenN ?_)
  refine To.condP rfl (fun k19 => ?_) (fun k19 => ?_)
  ·
   refine To.reg (To.m ?_)
   refine To.r (Rd.as (v' := .slice A (l.take 60).length ca) (congrArg (fun z => Value.slice A z ca) (by rw [List.length_take]; omega)) (Rd.sliceHi (hi := 60) rfl s22 rfl rfl (by omega))) ?_
   refine To.a (To.nil (To.thenN (To.seq ?_)))
   refine To.take 60 2 rfl ?_
   have hlt : (l.take 60).length ≤ 60 := by rw [List.length_take]; omega
   refine To.reg ?_
   refine To.r (Rd.indexArr (j := 0) rfl (ArrTy.of (size := 1) Tryz.underlying23 (by kernel_rfl)) rfl rfl (by decide)) ?_
   refine To.lo 2 c5 ?_
   refine To.r (Rd.remN (a := h0) (b := 5) rfl rfl rfl (by omega)) ?_
   refine To.r (Rd.conv rfl rfl Tryz.underlying5 Tryz.underlying3 (IntWalk.i64_in _ (by omega))) ?_
   refine To.r (Rd.indexArr (j := 1) rfl (ArrTy.of (size := 1) Tryz.underlying23 (by kernel_rfl)) rfl rfl (by decide)) ?_
   refine To.lo 2 c5 ?_
   refine To.r (Rd.remN (a := h1) (b := 8) rfl rfl rfl (by omega)) ?_
   refine To.r (Rd.conv rfl rfl Tryz.underlying5 Tryz.underlying3 (IntWalk.i64_in _ (by omega))) ?_
   refine To.r (Rd.build (vs := [(0, .int .i64 ((h0 % 5 : Nat) : Int)), (1, .int .i64 ((h1 % 8 : Nat) : Int))]) (cells := [.int .i64 ((h0 % 5 : Nat) : Int), .int .i64 ((h1 % 8 : Nat) : Int), .slice none 0 0]) rfl rfl rfl (by kernel_rfl)) ?_
   refine To.alloc rfl rfl rfl rfl z31 (fun b7 => ?_)
   refine To.u (Up.storeS (i := 0) rfl rfl rfl r31 rfl rfl rfl (box_takesAll rfl)) ?_
   refine To.nil (To.thenN (To.seq (To.seq (To.reg (To.m ?_)))))
   refine To.r (Rd.len rfl rfl Tryz.underlying22) ?_
   refine To.m (To.nil (To.thenN (To.block ?_)))
   refine To.nilRow (Ins.cells) 36 4 ?_
   refine To.sub [(4, .pointer (some ⟨b4, 0, none⟩)), (5, .pointer (some ⟨b5, 0, none⟩)), (6, .bool false), (7, .pointer (some ⟨b7, 0, none⟩)), (31, .slice A ((l.take 60).length) ca), (32, .int .i64 (((l.take 60).length : Nat) : Int)), (33, .int .i64 ((0 : Nat) : Int))] ⟨rfl, rfl, rfl, rfl, rfl, rfl, rfl, trivial⟩ ?_
   refine To.del5 ?_
   refine To.up10 ?_
   refine To.up10 ?_
   refine To.up10 ?_
   refine To.up10 ?_
   refine To.up10 ?_
   refine To.up10 ?_
   refine To.up9 ?_
   refine To.up10 ?_
   refine To.up8 ?_
   refine To.up9 ?_
   refine To.loop (fun mz ρ Γ => ∃ (Ao : Option Addr) (qo : Nat) (O : List Ins) (i : Nat), ρ = [(4, .pointer (some ⟨b4, 0, none⟩)), (5, .pointer (some ⟨b5, 0, none⟩)), (6, .bool false), (7, .pointer (some ⟨b7, 0, none⟩)), (31, .slice A ((l.take 60).length) ca), (32, .int .i64 (((l.take 60).length : Nat) : Int)), (33, .int .i64 ((i : Nat) : Int))] ∧ Γ = [box b7 [.int .i64 ((h0 % 5 : Nat) : Int), .int .i64 ((h1 % 8 : Nat) : Int), .slice Ao O.length qo] 31, rows Ins.cells 36 4 Ao qo O, box b4 [.int .u8 ((h0 : Nat) : Int), .int .u8 ((h1 : Nat) : Int), .int .u8 ((h2 : Nat) : Int), .int .u8 ((h3 : Nat) : Int)] 23, box b5 [.slice w.Av w.vars.length w.qv, .slice w.At w.tabs.length w.qt, .slice w.Ad w.disk.length w.qd, .slice w.Aa w.args.length w.qa, .int .i64 w.now, .int .u8 ((w.flags : Nat) : Int), .int .u8 ((w.before : Nat) : Int), .slice w.Af w.fail.length w.qf] 28, ros encI w.Av w.vars, ros encEn w.At w.tabs, ros encEn w.Ad w.disk, ros encI w.Aa w.args, ros encY w.Af w.fail, tabC, ros Ins.cells A (l.take 60)] ∧ mz = (l.take 60).length - i ∧ (i ≤ (l.take 60).length) ∧ (O = ((l.take 60).take i).map m36)) ((l.take 60).length - 0) ⟨none, 0, ([] : List Ins), 0, rfl, rfl, rfl, (Nat.zero_le _), rfl⟩ ?_
   rintro mz _ _ ⟨Ao, qo, O, i, rfl, rfl, rfl, hi, hO⟩
   have hOl : O.length ≤ 60 := by rw [hO, List.length_map, List.length_take]; omega
   refine To.seq (To.reg ?_)
   refine To.r (Rd.lss rfl rfl rfl) ?_
   refine To.nil (To.thenN (To.seq ?_))
   refine To.condP rfl (fun k34 => ?_) (fun k34 => ?_)
   ·
    obtain ⟨x, hx⟩ : ∃ z0, (l.take 60)[i]? = some z0 := ⟨(l.take 60)[i]'(by omega), List.getElem?_eq_getElem _⟩
    refine To.skip (To.thenN (To.seq (To.block (To.seq (To.reg ?_)))))
    refine To.r (Rd.indexRos encIn (i := 10) (j := i) rfl rfl rfl s22 rfl hx) ?_
    refine To.r (Rd.loadS (i := 10) rfl rfl r33 rfl (ros_gives encIn hx) (encIn.len _)) ?_
    refine To.alloc rfl rfl rfl rfl z33 (fun b9 => ?_)
    refine To.u (Up.storeS (i := 0) rfl rfl rfl r33 rfl rfl rfl (box_takesAll rfl)) ?_
    refine To.nil (To.thenN (To.reg ?_))
    refine To.f fl31_2 ?_
    refine To.lo 1 c29 ?_
    refine To.f fl33_0 ?_
    refine To.lo 0 c5 ?_
    refine To.r (Rd.remN (a := x.op) (b := 36) rfl rfl rfl (by omega)) ?_
    refine To.f fl33_1 ?_
    refine To.lo 0 c3 ?_
    refine To.f fl33_2 ?_
    refine To.lo 0 c3 ?_
    refine To.f fl33_3 ?_
    refine To.lo 0 c2 ?_
    refine To.r (Rd.build (vs := [(0, .int .u8 ((x.op % 36 : Nat) : Int)), (1, .int .i64 x.a), (2, .int .i64 x.b), (3, .int .i64 x.n)]) (cells := [.int .u8 ((x.op % 36 : Nat) : Int), .int .i64 x.a, .int .i64 x.b, .int .i64 x.n]) rfl rfl rfl (by kernel_rfl)) ?_
    refine To.mk rfl rfl rfl (Mk.sliceN (us := [.int .u8 ((x.op % 36 : Nat) : Int), .int .i64 x.a, .int .i64 x.b, .int .i64 x.n]) rfl s29 rfl rfl rfl rfl rfl rfl) ?_
    rintro _ _ ⟨b49, rfl, rfl⟩
    refine To.ge rfl rfl rfl (Ge.append1 encIn (i := 3) (j := 0) (el := (m36 x)) rfl s29 rfl rfl rfl rfl rfl (by first | omega | (simp only [List.length_append, List.length_cons, List.length_nil]; omega)) (by first | omega | (simp only [List.length_append, List.length_cons, List.length_nil]; omega))) ?_
    rintro _ _ ⟨A50, q50, rfl, rfl⟩
    refine To.f fl31_2 ?_
    refine To.u (Up.store (i := 2) rfl rfl rfl c29 rfl rfl (box_takes1 rfl)) ?_
    refine To.nil (To.blockN (To.thenN (To.reg ?_)))
    refine To.r (Rd.inc rfl rfl rfl (by omega)) ?_
    refine To.m (To.nil (To.thenN ?_))
    refine To.sub [(4, .pointer (some ⟨b4, 0, none⟩)), (5, .pointer (some ⟨b5, 0, none⟩)), (6, .bool false), (7, .pointer (some ⟨b7, 0, none⟩)), (31, .slice A ((l.take 60).length) ca), (32, .int .i64 (((l.take 60).length : Nat) : Int)), (33, .int .i64 (((i + 1) : Nat) : Int))] ⟨rfl, rfl, rfl, rfl, rfl, rfl, rfl, trivial⟩ ?_
    refine To.del1 ?_
    refine To.del0 ?_
    refine To.again ((l.take 60).length - (i + 1)) (by omega) ⟨A50, q50, (O ++ [(m36 x)]), i + 1, rfl, rfl, rfl, (by omega), (by rw [map_snoc hx, hO])⟩
   refine To.exit (To.thenX (To.thenX (To.blockX (To.thenN (To.seq ?_)))))
   obtain ⟨U, hU⟩ : ∃ U, U = (l.take 60).map m36 := ⟨_, rfl⟩
   obtain rfl : O = U := by rw [hO, hU, List.take_of_length_le (by omega)]
   have hUop : ∀ x ∈ O, x.op < 256 := by rw [hU]; exact m36_op
   have hv0 : verifyV ((h0 % 5 : Nat) : Int) ((h1 % 8 : Nat) : Int) O = 0 := by rw [hU]; exact hb60 (by omega)
   have hfc := hf60 (by omega)
   rw [← hU] at hfc
   refine To.reg ?_
   refine To.r (Rd.loadS (i := 3) rfl rfl r28 rfl box_whole rfl) ?_
   refine To.r (Rd.indexArr (j := 2) rfl (ArrTy.of (size := 1) Tryz.underlying23 (by kernel_rfl)) rfl rfl (by decide)) ?_
   refine To.lo 2 c5 ?_
   refine To.r (Rd.remN (a := h2) (b := 4) rfl rfl rfl (by omega)) ?_
   refine To.r (Rd.conv rfl rfl Tryz.underlying5 Tryz.underlying3 (IntWalk.i64_in _ (by omega))) ?_
   refine To.r (Rd.indexArr (j := 2) rfl (ArrTy.of (size := 1) Tryz.underlying23 (by kernel_rfl)) rfl rfl (by decide)) ?_
   refine To.lo 2 c5 ?_
   refine To.r (Rd.quo8 (a := h2) (b := 4) rfl rfl rfl (by omega) (by omega)) ?_
   refine To.r (Rd.remN (a := (h2 / 4)) (b := 3) rfl rfl rfl (by omega)) ?_
   refine To.r (Rd.conv rfl rfl Tryz.underlying5 Tryz.underlying3 (IntWalk.i64_in _ (by omega))) ?_
   refine To.r (Rd.indexArr (j := 3) rfl (ArrTy.of (size := 1) Tryz.underlying23 (by kernel_rfl)) rfl rfl (by decide)) ?_
   refine To.lo 2 c5 ?_
   refine To.r (Rd.remN (a := h3) (b := 5) rfl rfl rfl (by omega)) ?_
   refine To.r (Rd.conv rfl rfl Tryz.underlying5 Tryz.underlying3 (IntWalk.i64_in _ (by omega))) ?_
   refine To.r (Rd.indexArr (j := 3) rfl (ArrTy.of (size := 1) Tryz.underlying23 (by kernel_rfl)) rfl rfl (by decide)) ?_
   refine To.lo 2 c5 ?_
   refine To.r (Rd.quo8 (a := h3) (b := 8) rfl rfl rfl (by omega) (by omega)) ?_
   refine To.r (Rd.remN (a := (h3 / 8)) (b := 3) rfl rfl rfl (by omega)) ?_
   refine To.r (Rd.conv rfl rfl Tryz.underlying5 Tryz.underlying3 (IntWalk.i64_in _ (by omega))) ?_
   refine To.call [4, 4, 4, 4, 4] rfl rfl rfl (Ent.fn rfl rfl ca4) rfl (make_fn w hw hwf (h2 % 4) (h2 / 4 % 3) (h3 % 5) (h3 / 8 % 3) (by omega) (by omega) (by omega) (by omega)) ?_
   rintro _ _ ⟨a, b, Ff, qf, Fl, Ap, qp, P, Gp, qg, G, rfl, rfl, hva, hvb, hFl, hP, hG, hcaps, hcapd⟩
   refine To.m ?_
   refine To.r (Rd.extract rfl rfl rfl) ?_
   refine To.r (Rd.extract rfl rfl rfl) ?_
   refine To.r (Rd.extract rfl rfl rfl) ?_
   refine To.r (Rd.extract rfl rfl rfl) ?_
   refine To.alloc rfl rfl rfl rfl z42 (fun b10 => ?_)
   refine To.alloc rfl rfl rfl rfl z46 (fun b11 => ?_)
   refine To.alloc rfl rfl rfl rfl z50 (fun b12 => ?_)
   refine To.alloc rfl rfl rfl rfl z51 (fun b13 => ?_)
   refine To.u (Up.storeS (i := 3) rfl rfl rfl r42 rfl rfl rfl (box_takesAll rfl)) ?_
   refine To.u (Up.storeS (i := 2) rfl rfl rfl r46 rfl rfl rfl (box_takesAll rfl)) ?_
   refine To.u (Up.storeS (i := 1) rfl rfl rfl r50 rfl rfl rfl (box_takesAll rfl)) ?_
   refine To.u (Up.storeS (i := 0) rfl rfl rfl r51 rfl rfl rfl (box_takesAll rfl)) ?_
   refine To.nil (To.thenN (To.seq ?_))
   refine To.up16 ?_
   refine To.layRow ?_
   refine To.up5 ?_
   refine To.layRow ?_
   refine To.up6 ?_
   refine To.layRow ?_
   refine To.up9 ?_
   refine To.layRow ?_
   refine To.up10 ?_
   refine To.layRow ?_
   refine To.up13 ?_
   refine To.layRow ?_
   refine To.up14 ?_
   refine To.layRow ?_
   refine To.up15 ?_
   refine To.layRow ?_
   have hga := stV_good hva (by omega)
   have hgb := stV_good hvb (by omega)
   have hPl : P.length = (h3 % 5) := by rw [hP, pad_len]
   have hGl : G.length = (h3 / 8 % 3) := by rw [hG, flags_len]
   have hab : a.val = b.val := hva.trans hvb.symm
   have hlv : b.vars.length = a.vars.length := by rw [hga.1, hgb.1]
   have hlt2 : b.tabs.length = a.tabs.length := by rw [hga.2.1, hgb.2.1]
   have hfit := fit_shape (p := id) hga.1 hga.2.1 hPl hGl hfc
   obtain ⟨hpr, href⟩ := hfit
   have hdsk : 0 ≤ ((w.before : Nat) : Int) ∧ ((w.before : Nat) : Int) ≤ 1000000000 := by have := hw.before; omega
   refine To.dup 7 rfl rfl ?_
   refine To.dup 7 rfl rfl ?_
   refine To.dup 7 rfl rfl ?_
   refine To.dup 15 rfl rfl ?_
   refine To.dup 17 rfl rfl ?_
   refine To.dup 7 rfl rfl ?_
   refine To.dup 7 rfl rfl ?_
   refine To.dup 7 rfl rfl ?_
   refine To.dup 27 rfl rfl ?_
   refine To.reg ?_
   refine To.r (Rd.loadS (i := 25) rfl rfl r31 rfl box_whole rfl) ?_
   refine To.r (Rd.loadS (i := 20) rfl rfl r42 rfl box_whole rfl) ?_
   refine To.r (Rd.loadS (i := 18) rfl rfl r50 rfl box_whole rfl) ?_
   refine To.call [8, 7, 6, 5, 4, 3, 2, 1, 0] rfl rfl rfl (Ent.fn rfl rfl ca5) rfl (runOk_fn ((h0 % 5 : Nat) : Int) ((h1 % 8 : Nat) : Int) Ao qo O a (⟨Ap, qp, P, w.now, Gp, qg, G, ((w.before : Nat) : Int), Ff, qf, Fl⟩ : Cl) hv0 (by omega) hpr href (by omega) (by show Fl.length ≤ 12; omega) hdsk hga.2.2.1 hga.2.2.2 hcaps hcapd) ?_
   rintro _ _ ⟨d, rfl, rfl, hrun, _⟩
   refine To.m ?_
   refine To.r (Rd.extract rfl rfl rfl) ?_
   refine To.r (Rd.extract rfl rfl rfl) ?_
   refine To.alloc rfl rfl rfl rfl z56 (fun b14 => ?_)
   refine To.u (Up.storeS (i := 0) rfl rfl rfl r56 rfl rfl rfl (box_takesAll rfl)) ?_
   refine To.a (To.nil (To.thenN (To.seq (To.seq (To.reg ?_)))))
   refine To.callV rfl rfl rfl (Ent.fn rfl rfl ca6) (awake_fn) rfl (oks_cons (oks_at 26 rfl) (oks_nil _)) ?_
   refine To.r (Rd.not rfl rfl) ?_
   refine To.nil (To.thenN ?_)
   refine To.condF rfl ?_
   refine To.skip (To.thenN (To.seq (To.seq (To.reg ?_))))
   refine To.r (Rd.loadS (i := 23) rfl rfl r31 rfl box_whole rfl) ?_
   refine To.callV rfl rfl rfl (Ent.fn rfl rfl ca7) ((verify_fn ((h0 % 5 : Nat) : Int) ((h1 % 8 : Nat) : Int) Ao qo O).mono (R' := fun v _ => v = .int .i64 0) (fun v _ h => by rw [h, hv0])) rfl (oks_cons (oks_at 14 rfl) (oks_cons (oks_at 26 rfl) (oks_nil _))) ?_
   refine To.a (To.nil (To.thenN (To.seq (To.reg ?_))))
   refine To.m ?_
   refine To.r (Rd.neq rfl rfl rfl) ?_
   refine To.nil (To.thenN ?_)
   refine To.condF rfl ?_
   refine To.skip (To.thenN (To.seq (To.seq ?_)))
   refine To.flow [] [⟨2, [], 0⟩, ⟨0, [], 1⟩, ⟨1, [], 4⟩, ⟨3, [], 1⟩, ⟨4, [], 1⟩, ⟨5, [], 1⟩, ⟨6, [1], 3⟩, ⟨7, [1], 0⟩] mixed (by kernel_rfl) (oks_nil _) ?_
   refine FlowS.fi fl31_0 ?_
   refine FlowS.r rfl (Rd.loadS (i := 23) rfl rfl r31 rfl box_whole rfl) ?_
   refine FlowS.callM rfl rfl rfl rfl rfl (Ent.fn rfl rfl ca9) (instrs_fn ((h0 % 5 : Nat) : Int) ((h1 % 8 : Nat) : Int) Ao qo O (by omega) hUop) rfl (oks_cons (oks_at 14 rfl) (oks_nil _)) ?_
   rintro _ _ ⟨Bi, qi, rfl, rfl⟩
   refine ⟨rfl, ?_⟩
   refine FlowS.lo 23 c3 ?_
   refine FlowS.r rfl (Rd.loadS (i := 17) rfl rfl r46 rfl box_whole rfl) ?_
   refine FlowS.r rfl (Rd.loadS (i := 15) rfl rfl r51 rfl box_whole rfl) ?_
   refine FlowS.callQ rfl rfl rfl rfl (Ent.fn rfl rfl ca8) ((rfits_fn Bi qi ((h0 % 5 : Nat) : Int) O b (⟨Ap, qp, P, w.now, Gp, qg, G, ((w.before : Nat) : Int), Ff, qf, Fl⟩ : Cl) (by omega)).mono (R' := fun v _ => v = .bool true) (fun v _ h => by rw [h]; exact congrArg Value.bool (decide_eq_true (by rw [hlv, hlt2]; exact ⟨hpr, href⟩)))) rfl (oks_cons (oks_row 0 rfl) (oks_nil _)) ?_
   refine FlowS.f rfl (Rd.not rfl rfl) ?_
   refine FlowS.fin ?_
   refine To.thenN ?_
   refine To.condF rfl ?_
   refine To.skip (To.thenN (To.seq ?_))
   have hsmall := run_small (c := (⟨Ap, qp, P, w.now, Gp, qg, G, ((w.before : Nat) : Int), Ff, qf, Fl⟩ : Cl)) (d := d) (by omega) (by omega) hv0 hpr href (by show Fl.length ≤ 12; omega) hdsk hga hrun
   refine To.flow [box b14 [.slice d.Av d.vars.length d.qv, .slice d.At d.tabs.length d.qt, .slice d.dk.A d.dk.l.length d.dk.q, .slice d.Ae d.effs.length d.qe, .int .i64 d.cost] 56, box b7 [.int .i64 ((h0 % 5 : Nat) : Int), .int .i64 ((h1 % 8 : Nat) : Int), .slice Ao O.length qo] 31, box b11 [.slice b.Av b.vars.length b.qv, .slice b.At b.tabs.length b.qt, .slice b.dk.A b.dk.l.length b.dk.q] 46, box b13 [.slice Ap P.length qp, .int .i64 w.now, .slice Gp G.length qg, .int .i64 ((w.before : Nat) : Int), .slice Ff Fl.length qf] 51] [⟨0, [], 0⟩, ⟨1, [], 0⟩, ⟨2, [], 0⟩, ⟨3, [], 0⟩, ⟨4, [], 0⟩, ⟨6, [], 0⟩, ⟨7, [], 0⟩, ⟨5, [], 5⟩, ⟨8, [], 5⟩, ⟨9, [], 3⟩, ⟨10, [], 0⟩, ⟨11, [], 0⟩] mixed (by kernel_rfl) (oks_cons (oks_at 1 rfl) (oks_cons (oks_at 24 rfl) (oks_cons (oks_at 18 rfl) (oks_cons (oks_at 16 rfl) (oks_nil _))))) ?_
   refine FlowS.mo ?_
   refine FlowS.f rfl (Rd.eql rfl rfl rfl) ?_
   refine FlowS.mo ?_
   refine FlowS.f rfl (Rd.loadS (i := 0) rfl rfl r56 rfl box_whole rfl) ?_
   refine FlowS.f rfl (Rd.loadS (i := 1) rfl rfl r31 rfl box_whole rfl) ?_
   refine FlowS.f rfl (Rd.loadS (i := 2) rfl rfl r46 rfl box_whole rfl) ?_
   refine FlowS.f rfl (Rd.loadS (i := 3) rfl rfl r51 rfl box_whole rfl) ?_
   refine FlowS.callG [15] rfl rfl rfl rfl (Ent.fn rfl rfl ca9) rfl (instrs_fn ((h0 % 5 : Nat) : Int) ((h1 % 8 : Nat) : Int) Ao qo O (by omega) hUop) ?_
   rintro _ _ ⟨Bi_2, qi_2, rfl, rfl⟩
   refine ⟨oks_cons (oks_at 2 rfl) (oks_cons (oks_at 24 rfl) (oks_cons (oks_at 18 rfl) (oks_cons (oks_at 16 rfl) (oks_nil _)))), ?_⟩
   refine FlowS.callG [0, 12, 11, 19, 19, 10, 9, 8] rfl rfl rfl rfl (Ent.fn rfl rfl ca11) rfl (Does.layRow (rrun_fn Bi_2 qi_2 ((h0 % 5 : Nat) : Int) ((h1 % 8 : Nat) : Int) O b (⟨Ap, qp, P, w.now, Gp, qg, G, ((w.before : Nat) : Int), Ff, qf, Fl⟩ : Cl) hv0 (by omega) hpr (by rw [hlv, hlt2]; exact href) (by omega) (by show Fl.length ≤ 12; omega) hdsk hgb.2.2.1 hgb.2.2.2)) ?_
   rintro _ _ ⟨e, rfl, rfl, hre⟩
   refine ⟨oks_cons (oks_at 7 rfl) (oks_cons (oks_at 22 rfl) (oks_cons (oks_at 18 rfl) (oks_cons (oks_at 16 rfl) (oks_nil _)))), ?_⟩
   refine FlowS.callQ rfl rfl rfl rfl (Ent.fn rfl rfl ca10) ((same_fn d e hsmall.1 hsmall.2.1 hsmall.2.2.1 hsmall.2.2.2).mono (R' := fun v _ => v = .bool true) (fun v _ h => by rw [h]; exact congrArg Value.bool (decide_eq_true (by rw [hrun, ← hre, d0G_val hab])))) rfl (oks_cons (oks_row 8 rfl) (oks_cons (oks_row 9 rfl) (oks_cons (oks_at 10 rfl) (oks_cons (oks_at 11 rfl) (oks_cons (oks_row 12 rfl) (oks_cons (oks_at 13 rfl) (oks_cons (oks_row 0 rfl) (oks_cons (oks_row 1 rfl) (oks_cons (oks_at 2 rfl) (oks_cons (oks_at 3 rfl) (oks_cons (oks_row 4 rfl) (oks_cons (oks_at 5 rfl) (oks_nil _))))))))))))) ?_
   refine FlowS.f rfl (Rd.pickT rfl rfl rfl) ?_
   refine FlowS.f rfl (Rd.assign rfl rfl) ?_
   refine FlowS.fin ?_
   refine To.thenN (To.ret ?_)
   refine To.del26 ?_
   refine To.del25 ?_
   refine To.del24 ?_
   refine To.del23 ?_
   refine To.del22 ?_
   refine To.del21 ?_
   refine To.del20 ?_
   refine To.del19 ?_
   refine To.del18 ?_
   refine To.del17 ?_
   refine To.del16 ?_
   refine To.del15 ?_
   refine To.del14 ?_
   refine To.del13 ?_
   refine To.del12 ?_
   refine To.del11 ?_
   refine To.del10 ?_
   refine To.del9 ?_
   refine To.del8 ?_
   refine To.del7 ?_
   refine To.del6 ?_
   refine To.del5 ?_
   refine To.del4 ?_
   refine To.del3 ?_
   refine To.del2 ?_
   refine To.del1 ?_
   refine To.del0 ?_
   refine To.end1 (.inl rfl) Tryz.results3 rfl ?_
   rfl
  refine To.skip (To.thenN (To.seq ?_))
  have hlt : l.length ≤ 60 := by omega
  refine To.reg ?_
  refine To.r (Rd.indexArr (j := 0) rfl (ArrTy.of (size := 1) Tryz.underlying23 (by kernel_rfl)) rfl rfl (by decide)) ?_
  refine To.lo 1 c5 ?_
  refine To.r (Rd.remN (a := h0) (b := 5) rfl rfl rfl (by omega)) ?_
  refine To.r (Rd.conv rfl rfl Tryz.underlying5 Tryz.underlying3 (IntWalk.i64_in _ (by omega))) ?_
  refine To.r (Rd.indexArr (j := 1) rfl (ArrTy.of (size := 1) Tryz.underlying23 (by kernel_rfl)) rfl rfl (by decide)) ?_
  refine To.lo 1 c5 ?_
  refine To.r (Rd.remN (a := h1) (b := 8) rfl rfl rfl (by omega)) ?_
  refine To.r (Rd.conv rfl rfl Tryz.underlying5 Tryz.underlying3 (IntWalk.i64_in _ (by omega))) ?_
  refine To.r (Rd.build (vs := [(0, .int .i64 ((h0 % 5 : Nat) : Int)), (1, .int .i64 ((h1 % 8 : Nat) : Int))]) (cells := [.int .i64 ((h0 % 5 : Nat) : Int), .int .i64 ((h1 % 8 : Nat) : Int), .slice none 0 0]) rfl rfl rfl (by kernel_rfl)) ?_
  refine To.alloc rfl rfl rfl rfl z31 (fun b7 => ?_)
  refine To.u (Up.storeS (i := 0) rfl rfl rfl r31 rfl rfl rfl (box_takesAll rfl)) ?_
  refine To.nil (To.thenN (To.seq (To.seq (To.reg (To.m ?_)))))
  refine To.r (Rd.len rfl rfl Tryz.underlying22) ?_
  refine To.m (To.nil (To.thenN (To.block ?_)))
  refine To.nilRow (Ins.cells) 36 4 ?_
  refine To.sub [(4, .pointer (some ⟨b4, 0, none⟩)), (5, .pointer (some ⟨b5, 0, none⟩)), (6, .bool false), (7, .pointer (some ⟨b7, 0, none⟩)), (31, .slice A l.length ca), (32, .int .i64 ((l.length : Nat) : Int)), (33, .int .i64 ((0 : Nat) : Int))] ⟨rfl, rfl, rfl, rfl, rfl, rfl, rfl, trivial⟩ ?_
  refine To.up10 ?_
  refine To.up10 ?_
  refine To.up10 ?_
  refine To.up10 ?_
  refine To.up10 ?_
  refine To.up10 ?_
  refine To.up8 ?_
  refine To.up9 ?_
  refine To.up8 ?_
  refine To.up9 ?_
  refine To.loop (fun mz ρ Γ => ∃ (Ao : Option Addr) (qo : Nat) (O : List Ins) (i : Nat), ρ = [(4, .pointer (some ⟨b4, 0, none⟩)), (5, .pointer (some ⟨b5, 0, none⟩)), (6, .bool false), (7, .pointer (some ⟨b7, 0, none⟩)), (31, .slice A l.length ca), (32, .int .i64 ((l.length : Nat) : Int)), (33, .int .i64 ((i : Nat) : Int))] ∧ Γ = [box b7 [.int .i64 ((h0 % 5 : Nat) : Int), .int .i64 ((h1 % 8 : Nat) : Int), .slice Ao O.length qo] 31, rows Ins.cells 36 4 Ao qo O, box b4 [.int .u8 ((h0 : Nat) : Int), .int .u8 ((h1 : Nat) : Int), .int .u8 ((h2 : Nat) : Int), .int .u8 ((h3 : Nat) : Int)] 23, box b5 [.slice w.Av w.vars.length w.qv, .slice w.At w.tabs.length w.qt, .slice w.Ad w.disk.length w.qd, .slice w.Aa w.args.length w.qa, .int .i64 w.now, .int .u8 ((w.flags : Nat) : Int), .int .u8 ((w.before : Nat) : Int), .slice w.Af w.fail.length w.qf] 28, ros encI w.Av w.vars, ros encEn w.At w.tabs, ros encEn w.Ad w.disk, ros encI w.Aa w.args, ros encY w.Af w.fail, tabC, ros Ins.cells A l] ∧ mz = l.length - i ∧ (i ≤ l.length) ∧ (O = (l.take i).map m36)) (l.length - 0) ⟨none, 0, ([] : List Ins), 0, rfl, rfl, rfl, (Nat.zero_le _), rfl⟩ ?_
  rintro mz _ _ ⟨Ao, qo, O, i, rfl, rfl, rfl, hi, hO⟩
  have hOl : O.length ≤ 60 := by rw [hO, List.length_map, List.length_take]; omega
  refine To.seq (To.reg ?_)
  refine To.r (Rd.lss rfl rfl rfl) ?_
  refine To.nil (To.thenN (To.seq ?_))
  refine To.condP rfl (fun k34 => ?_) (fun k34 => ?_)
  ·
   obtain ⟨x, hx⟩ : ∃ z0, l[i]? = some z0 := ⟨l[i]'(by omega), List.getElem?_eq_getElem _⟩
   refine To.skip (To.thenN (To.seq (To.block (To.seq (To.reg ?_)))))
   refine To.r (Rd.indexRos encIn (i := 10) (j := i) rfl rfl rfl s22 rfl hx) ?_
   refine To.r (Rd.loadS (i := 10) rfl rfl r33 rfl (ros_gives encIn hx) (encIn.len _)) ?_
   refine To.alloc rfl rfl rfl rfl z33 (fun b9 => ?_)
   refine To.u (Up.storeS (i := 0) rfl rfl rfl r33 rfl rfl rfl (box_takesAll rfl)) ?_
   refine To.nil (To.thenN (To.reg ?_))
   refine To.f fl31_2 ?_
   refine To.lo 1 c29 ?_
   refine To.f fl33_0 ?_
   refine To.lo 0 c5 ?_
   refine To.r (Rd.remN (a := x.op) (b := 36) rfl rfl rfl (by omega)) ?_
   refine To.f fl33_1 ?_
   refine To.lo 0 c3 ?_
   refine To.f fl33_2 ?_
   refine To.lo 0 c3 ?_
   refine To.f fl33_3 ?_
   refine To.lo 0 c2 ?_
   refine To.r (Rd.build (vs := [(0, .int .u8 ((x.op % 36 : Nat) : Int)), (1, .int .i64 x.a), (2, .int .i64 x.b), (3, .int .i64 x.n)]) (cells := [.int .u8 ((x.op % 36 : Nat) : Int), .int .i64 x.a, .int .i64 x.b, .int .i64 x.n]) rfl rfl rfl (by kernel_rfl)) ?_
   refine To.mk rfl rfl rfl (Mk.sliceN (us := [.int .u8 ((x.op % 36 : Nat) : Int), .int .i64 x.a, .int .i64 x.b, .int .i64 x.n]) rfl s29 rfl rfl rfl rfl rfl rfl) ?_
   rintro _ _ ⟨b49, rfl, rfl⟩
   refine To.ge rfl rfl rfl (Ge.append1 encIn (i := 3) (j := 0) (el := (m36 x)) rfl s29 rfl rfl rfl rfl rfl (by first | omega | (simp only [List.length_append, List.length_cons, List.length_nil]; omega)) (by first | omega | (simp only [List.length_append, List.length_cons, List.length_nil]; omega))) ?_
   rintro _ _ ⟨A50, q50, rfl, rfl⟩
   refine To.f fl31_2 ?_
   refine To.u (Up.store (i := 2) rfl rfl rfl c29 rfl rfl (box_takes1 rfl)) ?_
   refine To.nil (To.blockN (To.thenN (To.reg ?_)))
   refine To.r (Rd.inc rfl rfl rfl (by omega)) ?_
   refine To.m (To.nil (To.thenN ?_))
   refine To.sub [(4, .pointer (some ⟨b4, 0, none⟩)), (5, .pointer (some ⟨b5, 0, none⟩)), (6, .bool false), (7, .pointer (some ⟨b7, 0, none⟩)), (31, .slice A l.length ca), (32, .int .i64 ((l.length : Nat) : Int)), (33, .int .i64 (((i + 1) : Nat) : Int))] ⟨rfl, rfl, rfl, rfl, rfl, rfl, rfl, trivial⟩ ?_
   refine To.del1 ?_
   refine To.del0 ?_
   refine To.again (l.length - (i + 1)) (by omega) ⟨A50, q50, (O ++ [(m36 x)]), i + 1, rfl, rfl, rfl, (by omega), (by rw [map_snoc hx, hO])⟩
  refine To.exit (To.thenX (To.thenX (To.blockX (To.thenN (To.seq ?_)))))
  obtain ⟨U, hU⟩ : ∃ U, U = l.map m36 := ⟨_, rfl⟩
  obtain rfl : O = U := by rw [hO, hU, List.take_of_length_le (by omega)]
  have hUop : ∀ x ∈ O, x.op < 256 := by rw [hU]; exact m36_op
  have hv0 : verifyV ((h0 % 5 : Nat) : Int) ((h1 % 8 : Nat) : Int) O = 0 := by rw [hU]; exact hbl (by omega)
  have hfc := hfl_ (by omega)
  rw [← hU] at hfc
  refine To.reg ?_
  refine To.r (Rd.loadS (i := 3) rfl rfl r28 rfl box_whole rfl) ?_
  refine To.r (Rd.indexArr (j := 2) rfl (ArrTy.of (size := 1) Tryz.underlying23 (by kernel_rfl)) rfl rfl (by decide)) ?_
  refine To.lo 2 c5 ?_
  refine To.r (Rd.remN (a := h2) (b := 4) rfl rfl rfl (by omega)) ?_
  refine To.r (Rd.conv rfl rfl Tryz.underlying5 Tryz.underlying3 (IntWalk.i64_in _ (by omega))) ?_
  refine To.r (Rd.indexArr (j := 2) rfl (ArrTy.of (size := 1) Tryz.underlying23 (by kernel_rfl)) rfl rfl (by decide)) ?_
  refine To.lo 2 c5 ?_
  refine To.r (Rd.quo8 (a := h2) (b := 4) rfl rfl rfl (by omega) (by omega)) ?_
  refine To.r (Rd.remN (a := (h2 / 4)) (b := 3) rfl rfl rfl (by omega)) ?_
  refine To.r (Rd.conv rfl rfl Tryz.underlying5 Tryz.underlying3 (IntWalk.i64_in _ (by omega))) ?_
  refine To.r (Rd.indexArr (j := 3) rfl (ArrTy.of (size := 1) Tryz.underlying23 (by kernel_rfl)) rfl rfl (by decide)) ?_
  refine To.lo 2 c5 ?_
  refine To.r (Rd.remN (a := h3) (b := 5) rfl rfl rfl (by omega)) ?_
  refine To.r (Rd.conv rfl rfl Tryz.underlying5 Tryz.underlying3 (IntWalk.i64_in _ (by omega))) ?_
  refine To.r (Rd.indexArr (j := 3) rfl (ArrTy.of (size := 1) Tryz.underlying23 (by kernel_rfl)) rfl rfl (by decide)) ?_
  refine To.lo 2 c5 ?_
  refine To.r (Rd.quo8 (a := h3) (b := 8) rfl rfl rfl (by omega) (by omega)) ?_
  refine To.r (Rd.remN (a := (h3 / 8)) (b := 3) rfl rfl rfl (by omega)) ?_
  refine To.r (Rd.conv rfl rfl Tryz.underlying5 Tryz.underlying3 (IntWalk.i64_in _ (by omega))) ?_
  refine To.call [4, 4, 4, 4, 4] rfl rfl rfl (Ent.fn rfl rfl ca4) rfl (make_fn w hw hwf (h2 % 4) (h2 / 4 % 3) (h3 % 5) (h3 / 8 % 3) (by omega) (by omega) (by omega) (by omega)) ?_
  rintro _ _ ⟨a, b, Ff, qf, Fl, Ap, qp, P, Gp, qg, G, rfl, rfl, hva, hvb, hFl, hP, hG, hcaps, hcapd⟩
  refine To.m ?_
  refine To.r (Rd.extract rfl rfl rfl) ?_
  refine To.r (Rd.extract rfl rfl rfl) ?_
  refine To.r (Rd.extract rfl rfl rfl) ?_
  refine To.r (Rd.extract rfl rfl rfl) ?_
  refine To.alloc rfl rfl rfl rfl z42 (fun b10 => ?_)
  refine To.alloc rfl rfl rfl rfl z46 (fun b11 => ?_)
  refine To.alloc rfl rfl rfl rfl z50 (fun b12 => ?_)
  refine To.alloc rfl rfl rfl rfl z51 (fun b13 => ?_)
  refine To.u (Up.storeS (i := 3) rfl rfl rfl r42 rfl rfl rfl (box_takesAll rfl)) ?_
  refine To.u (Up.storeS (i := 2) rfl rfl rfl r46 rfl rfl rfl (box_takesAll rfl)) ?_
  refine To.u (Up.storeS (i := 1) rfl rfl rfl r50 rfl rfl rfl (box_takesAll rfl)) ?_
  refine To.u (Up.storeS (i := 0) rfl rfl rfl r51 rfl rfl rfl (box_takesAll rfl)) ?_
  refine To.nil (To.thenN (To.seq ?_))
  refine To.up16 ?_
  refine To.layRow ?_
  refine To.up5 ?_
  refine To.layRow ?_
  refine To.up6 ?_
  refine To.layRow ?_
  refine To.up9 ?_
  refine To.layRow ?_
  refine To.up10 ?_
  refine To.layRow ?_
  refine To.up13 ?_
  refine To.layRow ?_
  refine To.up14 ?_
  refine To.layRow ?_
  refine To.up15 ?_
  refine To.layRow ?_
  have hga := stV_good hva (by omega)
  have hgb := stV_good hvb (by omega)
  have hPl : P.length = (h3 % 5) := by rw [hP, pad_len]
  have hGl : G.length = (h3 / 8 % 3) := by rw [hG, flags_len]
  have hab : a.val = b.val := hva.trans hvb.symm
  have hlv : b.vars.length = a.vars.length := by rw [hga.1, hgb.1]
  have hlt2 : b.tabs.length = a.tabs.length := by rw [hga.2.1, hgb.2.1]
  have hfit := fit_shape (p := id) hga.1 hga.2.1 hPl hGl hfc
  obtain ⟨hpr, href⟩ := hfit
  have hdsk : 0 ≤ ((w.before : Nat) : Int) ∧ ((w.before : Nat) : Int) ≤ 1000000000 := by have := hw.before; omega
  refine To.dup 7 rfl rfl ?_
  refine To.dup 7 rfl rfl ?_
  refine To.dup 7 rfl rfl ?_
  refine To.dup 15 rfl rfl ?_
  refine To.dup 17 rfl rfl ?_
  refine To.dup 7 rfl rfl ?_
  refine To.dup 7 rfl rfl ?_
  refine To.dup 7 rfl rfl ?_
  refine To.dup 27 rfl rfl ?_
  refine To.reg ?_
  refine To.r (Rd.loadS (i := 25) rfl rfl r31 rfl box_whole rfl) ?_
  refine To.r (Rd.loadS (i := 20) rfl rfl r42 rfl box_whole rfl) ?_
  refine To.r (Rd.loadS (i := 18) rfl rfl r50 rfl box_whole rfl) ?_
  refine To.call [8, 7, 6, 5, 4, 3, 2, 1, 0] rfl rfl rfl (Ent.fn rfl rfl ca5) rfl (runOk_fn ((h0 % 5 : Nat) : Int) ((h1 % 8 : Nat) : Int) Ao qo O a (⟨Ap, qp, P, w.now, Gp, qg, G, ((w.before : Nat) : Int), Ff, qf, Fl⟩ : Cl) hv0 (by omega) hpr href (by omega) (by show Fl.length ≤ 12; omega) hdsk hga.2.2.1 hga.2.2.2 hcaps hcapd) ?_
  rintro _ _ ⟨d, rfl, rfl, hrun, _⟩
  refine To.m ?_
  refine To.r (Rd.extract rfl rfl rfl) ?_
  refine To.r (Rd.extract rfl rfl rfl) ?_
  refine To.alloc rfl rfl rfl rfl z56 (fun b14 => ?_)
  refine To.u (Up.storeS (i := 0) rfl rfl rfl r56 rfl rfl rfl (box_takesAll rfl)) ?_
  refine To.a (To.nil (To.thenN (To.seq (To.seq (To.reg ?_)))))
  refine To.callV rfl rfl rfl (Ent.fn rfl rfl ca6) (awake_fn) rfl (oks_cons (oks_at 26 rfl) (oks_nil _)) ?_
  refine To.r (Rd.not rfl rfl) ?_
  refine To.nil (To.thenN ?_)
  refine To.condF rfl ?_
  refine To.skip (To.thenN (To.seq (To.seq (To.reg ?_))))
  refine To.r (Rd.loadS (i := 23) rfl rfl r31 rfl box_whole rfl) ?_
  refine To.callV rfl rfl rfl (Ent.fn rfl rfl ca7) ((verify_fn ((h0 % 5 : Nat) : Int) ((h1 % 8 : Nat) : Int) Ao qo O).mono (R' := fun v _ => v = .int .i64 0) (fun v _ h => by rw [h, hv0])) rfl (oks_cons (oks_at 14 rfl) (oks_cons (oks_at 26 rfl) (oks_nil _))) ?_
  refine To.a (To.nil (To.thenN (To.seq (To.reg ?_))))
  refine To.m ?_
  refine To.r (Rd.neq rfl rfl rfl) ?_
  refine To.nil (To.thenN ?_)
  refine To.condF rfl ?_
  refine To.skip (To.thenN (To.seq (To.seq ?_)))
  refine To.flow [] [⟨2, [], 0⟩, ⟨0, [], 1⟩, ⟨1, [], 4⟩, ⟨3, [], 1⟩, ⟨4, [], 1⟩, ⟨5, [], 1⟩, ⟨6, [1], 3⟩, ⟨7, [1], 0⟩] mixed (by kernel_rfl) (oks_nil _) ?_
  refine FlowS.fi fl31_0 ?_
  refine FlowS.r rfl (Rd.loadS (i := 23) rfl rfl r31 rfl box_whole rfl) ?_
  refine FlowS.callM rfl rfl rfl rfl rfl (Ent.fn rfl rfl ca9) (instrs_fn ((h0 % 5 : Nat) : Int) ((h1 % 8 : Nat) : Int) Ao qo O (by omega) hUop) rfl (oks_cons (oks_at 14 rfl) (oks_nil _)) ?_
  rintro _ _ ⟨Bi, qi, rfl, rfl⟩
  refine ⟨rfl, ?_⟩
  refine FlowS.lo 23 c3 ?_
  refine FlowS.r rfl (Rd.loadS (i := 17) rfl rfl r46 rfl box_whole rfl) ?_
  refine FlowS.r rfl (Rd.loadS (i := 15) rfl rfl r51 rfl box_whole rfl) ?_
  refine FlowS.callQ rfl rfl rfl rfl (Ent.fn rfl rfl ca8) ((rfits_fn Bi qi ((h0 % 5 : Nat) : Int) O b (⟨Ap, qp, P, w.now, Gp, qg, G, ((w.before : Nat) : Int), Ff, qf, Fl⟩ : Cl) (by omega)).mono (R' := fun v _ => v = .bool true) (fun v _ h => by rw [h]; exact congrArg Value.bool (decide_eq_true (by rw [hlv, hlt2]; exact ⟨hpr, href⟩)))) rfl (oks_cons (oks_row 0 rfl) (oks_nil _)) ?_
  refine FlowS.f rfl (Rd.not rfl rfl) ?_
  refine FlowS.fin ?_
  refine To.thenN ?_
  refine To.condF rfl ?_
  refine To.skip (To.thenN (To.seq ?_))
  have hsmall := run_small (c := (⟨Ap, qp, P, w.now, Gp, qg, G, ((w.before : Nat) : Int), Ff, qf, Fl⟩ : Cl)) (d := d) (by omega) (by omega) hv0 hpr href (by show Fl.length ≤ 12; omega) hdsk hga hrun
  refine To.flow [box b14 [.slice d.Av d.vars.length d.qv, .slice d.At d.tabs.length d.qt, .slice d.dk.A d.dk.l.length d.dk.q, .slice d.Ae d.effs.length d.qe, .int .i64 d.cost] 56, box b7 [.int .i64 ((h0 % 5 : Nat) : Int), .int .i64 ((h1 % 8 : Nat) : Int), .slice Ao O.length qo] 31, box b11 [.slice b.Av b.vars.length b.qv, .slice b.At b.tabs.length b.qt, .slice b.dk.A b.dk.l.length b.dk.q] 46, box b13 [.slice Ap P.length qp, .int .i64 w.now, .slice Gp G.length qg, .int .i64 ((w.before : Nat) : Int), .slice Ff Fl.length qf] 51] [⟨0, [], 0⟩, ⟨1, [], 0⟩, ⟨2, [], 0⟩, ⟨3, [], 0⟩, ⟨4, [], 0⟩, ⟨6, [], 0⟩, ⟨7, [], 0⟩, ⟨5, [], 5⟩, ⟨8, [], 5⟩, ⟨9, [], 3⟩, ⟨10, [], 0⟩, ⟨11, [], 0⟩] mixed (by kernel_rfl) (oks_cons (oks_at 1 rfl) (oks_cons (oks_at 24 rfl) (oks_cons (oks_at 18 rfl) (oks_cons (oks_at 16 rfl) (oks_nil _))))) ?_
  refine FlowS.mo ?_
  refine FlowS.f rfl (Rd.eql rfl rfl rfl) ?_
  refine FlowS.mo ?_
  refine FlowS.f rfl (Rd.loadS (i := 0) rfl rfl r56 rfl box_whole rfl) ?_
  refine FlowS.f rfl (Rd.loadS (i := 1) rfl rfl r31 rfl box_whole rfl) ?_
  refine FlowS.f rfl (Rd.loadS (i := 2) rfl rfl r46 rfl box_whole rfl) ?_
  refine FlowS.f rfl (Rd.loadS (i := 3) rfl rfl r51 rfl box_whole rfl) ?_
  refine FlowS.callG [15] rfl rfl rfl rfl (Ent.fn rfl rfl ca9) rfl (instrs_fn ((h0 % 5 : Nat) : Int) ((h1 % 8 : Nat) : Int) Ao qo O (by omega) hUop) ?_
  rintro _ _ ⟨Bi_2, qi_2, rfl, rfl⟩
  refine ⟨oks_cons (oks_at 2 rfl) (oks_cons (oks_at 24 rfl) (oks_cons (oks_at 18 rfl) (oks_cons (oks_at 16 rfl) (oks_nil _)))), ?_⟩
  refine FlowS.callG [0, 12, 11, 19, 19, 10, 9, 8] rfl rfl rfl rfl (Ent.fn rfl rfl ca11) rfl (Does.layRow (rrun_fn Bi_2 qi_2 ((h0 % 5 : Nat) : Int) ((h1 % 8 : Nat) : Int) O b (⟨Ap, qp, P, w.now, Gp, qg, G, ((w.before : Nat) : Int), Ff, qf, Fl⟩ : Cl) hv0 (by omega) hpr (by rw [hlv, hlt2]; exact href) (by omega) (by show Fl.length ≤ 12; omega) hdsk hgb.2.2.1 hgb.2.2.2)) ?_
  rintro _ _ ⟨e, rfl, rfl, hre⟩
  refine ⟨oks_cons (oks_at 7 rfl) (oks_cons (oks_at 22 rfl) (oks_cons (oks_at 18 rfl) (oks_cons (oks_at 16 rfl) (oks_nil _)))), ?_⟩
  refine FlowS.callQ rfl rfl rfl rfl (Ent.fn rfl rfl ca10) ((same_fn d e hsmall.1 hsmall.2.1 hsmall.2.2.1 hsmall.2.2.2).mono (R' := fun v _ => v = .bool true) (fun v _ h => by rw [h]; exact congrArg Value.bool (decide_eq_true (by rw [hrun, ← hre, d0G_val hab])))) rfl (oks_cons (oks_row 8 rfl) (oks_cons (oks_row 9 rfl) (oks_cons (oks_at 10 rfl) (oks_cons (oks_at 11 rfl) (oks_cons (oks_row 12 rfl) (oks_cons (oks_at 13 rfl) (oks_cons (oks_row 0 rfl) (oks_cons (oks_row 1 rfl) (oks_cons (oks_at 2 rfl) (oks_cons (oks_at 3 rfl) (oks_cons (oks_row 4 rfl) (oks_cons (oks_at 5 rfl) (oks_nil _))))))))))))) ?_
  refine FlowS.f rfl (Rd.pickT rfl rfl rfl) ?_
  refine FlowS.f rfl (Rd.assign rfl rfl) ?_
  refine FlowS.fin ?_
  refine To.thenN (To.ret ?_)
  refine To.del26 ?_
  refine To.del25 ?_
  refine To.del24 ?_
  refine To.del23 ?_
  refine To.del22 ?_
  refine To.del21 ?_
  refine To.del20 ?_
  refine To.del19 ?_
  refine To.del18 ?_
  refine To.del17 ?_
  refine To.del16 ?_
  refine To.del15 ?_
  refine To.del14 ?_
  refine To.del13 ?_
  refine To.del12 ?_
  refine To.del11 ?_
  refine To.del10 ?_
  refine To.del9 ?_
  refine To.del8 ?_
  refine To.del7 ?_
  refine To.del6 ?_
  refine To.del5 ?_
  refine To.del4 ?_
  refine To.del3 ?_
  refine To.del2 ?_
  refine To.del1 ?_
  refine To.del0 ?_
  refine To.end1 (.inl rfl) Tryz.results3 rfl ?_
  rfl
end Go.Proofs.YtoehnbacbobhiaaGreatDoor
