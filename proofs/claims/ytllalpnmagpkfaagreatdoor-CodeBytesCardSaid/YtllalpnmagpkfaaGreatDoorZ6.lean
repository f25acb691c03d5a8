/- Own text. -/
import Derived.Test.YtllalpnmagpkfaaGreatDoorS0
import Derived.Test.YtllalpnmagpkfaaGreatDoorZx
import Derived.Test.YtllalpnmagpkfaaGreatDoorA19
namespace Go.Proofs.YtllalpnmagpkfaaGreatDoor
open Go.RowKit Go.Flow Go.Mem Go.Sep Go.In
theorem sp1_fn (p : Pl) (hp : p.Ok) (w : Nat) (hw : w < 256) : Does Tryz.prog 18 [.agg #[.int .u8 ((p.flags : Nat) : Int), .slice p.Al p.links.length p.ql, .slice p.Ac p.comps.length p.qc], .int .u8 ((w : Nat) : Int), .slice none 0 0] [all p.kids] (fun v Γ' => ∃ (np sn : Nat) (A : Option Addr) (q : Nat) (l : List Ins), v = .agg #[nv np, nv sn, .slice A l.length q] ∧ Γ' = [rows Ins.rc 54 4 A q l] ∧ (np ≤ 2 ∧ sn ≤ 10) ∧ l.length ≤ 3816 ∧ ∀ x ∈ l, InS x) :=
 (sp0_fn p hp w hw).mono fun v Γ' ⟨F, np, st, A, q, l, h1, h2, hG, hR⟩ => by
  obtain ⟨ci, c, s, hc, e1, e2, e3⟩ := hR
  obtain ⟨k1, k2, k3⟩ := rU_byt hG hc 1 s
  have k4 := rU_len hG hc 1 s
  refine ⟨np, st.toNat, A, q, l, ?_, h2, ⟨by rw [e1]; exact k4.2.1, by rw [e2]; omega⟩, by rw [e3]; exact k4.1, by rw [e3]; exact k1⟩
  rw [h1]
  exact congrArg (fun z : Int => Value.agg #[nv np, .int .i64 z, .slice A l.length q]) (Int.toNat_of_nonneg (by rw [e2]; exact k2)).symm
theorem InS.op {l : List Ins} (h : ∀ x ∈ l, InS x) : ∀ x ∈ l, x.op < 256 := fun x hx => by have := (h x hx).o2; omega
theorem okS_app {a b : List Nat} (ha : ∀ x ∈ a, x < 256) (hb : ∀ x ∈ b, x < 256) (h : a.length + b.length ≤ 150000000000000) : okS (a ++ b) := ⟨by rw [lap]; omega, fun x hx => (List.mem_append.1 hx).elim (ha x) (hb x)⟩
theorem readB_fn (A : Option Addr) (q : Nat) (pr st : Nat) (l : List Ins) (m : List Nat) (h1 : pr ≤ 255) (h2 : st ≤ 255) (h3 : l.length ≤ 4000) (h : ∀ x ∈ l, InS x) (hm : ∀ x ∈ m, x < 256) (hml : m.length ≤ 140737488355327) : Does Tryz.prog 33 [.slice A ([] ++ bytesV pr st l ++ m).length q] [ros encY A ([] ++ bytesV pr st l ++ m)]
    (fun r Γ' => ∃ (B : Option Addr) (q' : Nat), r = .tuple #[.agg #[nv pr, nv st, .slice B l.length q'], nv ((bytesV pr st l).length), .int .i64 0] ∧ Γ' = [rows Ins.cells 109 4 B q' l]) := by
 have hb := bytesV_len h1 h2 h3 h
 have := read_fn A q ([] ++ bytesV pr st l ++ m) (by rw [List.nil_append, lap]; omega) (by rw [List.nil_append]; exact okS_app (fun x hx => bytesV_mem h hx) hm (by omega))
 rw [show readV ([] ++ bytesV pr st l ++ m) = ((pr, st, l), (bytesV pr st l).length, 0) by rw [List.nil_append]; exact readV_bytes h1 h2 h3 h m] at this
 exact this
theorem readC_fn (A : Option Addr) (q : Nat) (pr st : Nat) (l : List Ins) (h1 : pr ≤ 255) (h2 : st ≤ 255) (h3 : l.length ≤ 4000) (h : ∀ x ∈ l, InS x) : Does Tryz.prog 33 [.slice A ((bytesV pr st l).length - 1) q] [ros encY A ((bytesV pr st l).take ((bytesV pr st l).length - 1))]
    (fun r Γ' => ∃ (B : Option Addr) (q' : Nat), r = .tuple #[.agg #[.int .i64 0, .int .i64 0, .slice B 0 q'], .int .i64 0, .int .i64 6] ∧ Γ' = [rows Ins.cells 109 4 B q' []]) := by
 have hb := bytesV_len h1 h2 h3 h
 have hl : ((bytesV pr st l).take ((bytesV pr st l).length - 1)).length = (bytesV pr st l).length - 1 := by rw [List.length_take]; omega
 have := read_fn A q ((bytesV pr st l).take ((bytesV pr st l).length - 1)) (by rw [hl]; omega) ⟨by rw [hl]; omega, fun x hx => bytesV_mem h (List.mem_of_mem_take hx)⟩
 rw [readV_cut h1 h2 h3 h, hl] at this
 exact this
theorem Rd.eqlStr0 {P : Program} {o : Oper} {ρ : Slots} {Γ : List Chunk} {x y : Operand} {t t' : TypeId} {s : ByteArray} (ho : o.op = .binOp .eql t x y t') (_ : P.underlying t = some .string) (hx : ev ρ x = some (.string s)) (hy : ev ρ y = some (.string s)) : Rd P o ρ Γ (.bool true) := Rd.bin ho hx hy fun w => by
 simp [eqGuard, binOp, Op.stringOp]
set_option maxRecDepth 100000 in
theorem cbytes_fn (p : Pl) (hp : p.Ok) (w : Nat) (hw : w < 256) (Am : Option Addr) (qm : Nat) (m : List Nat) (hm : ∀ x ∈ m, x < 256) (hml : m.length ≤ 140737488355327) :
    Does Tryz.prog 10 [.agg #[.int .u8 ((p.flags : Nat) : Int), .slice p.Al p.links.length p.ql, .slice p.Ac p.comps.length p.qc], .int .u8 ((w : Nat) : Int), .slice Am m.length qm] [glc, all p.kids, ros encY Am m] (fun v _ => v = .bool true) := by
 refine Does.enter Tryz.func10 rfl Tryz.ntmps10 rfl (fun w0 => ?_)
 refine To.s (To.g (To.boxed rfl rfl rfl rfl rfl rfl (fun b3 => ?_)))
 refine To.a (To.n (To.t (To.s (To.s (To.g ?_)))))
 refine To.cV rfl rfl rfl (Ent.fn rfl rfl ca12) (awake_fn) rfl (oks_gl 1 rfl) (To.nt ?_)
 refine To.n (To.t (To.condF rfl (To.sp (To.t (To.s (To.g (To.r (Rd.lS (i := 0) rfl rfl r25 rfl box_whole rfl) ?_)))))))
 refine To.m ?_
 refine To.cQ rfl rfl rfl (Ent.fn rfl rfl ca18) (sp1_fn p hp w hw) (by show owns p.kids ++ [] = []; rw [(Pl.lax p).owns]; rfl) (ocs (oca 2 rfl) (ocn _)) ?_
 rintro _ _ ⟨np, sn, Au, qu, l, rfl, rfl, ⟨hnp, hsn⟩, hll, hIn⟩
 refine ⟨rfl, ?_⟩
 refine To.alloc rfl rfl rfl rfl z37 (fun b7 => ?_)
 refine To.u (Up.storeS (i := 0) rfl rfl rfl r37 rfl rfl rfl (bta rfl)) ?_
 refine To.n (To.t (To.s (To.g (To.r (Rd.lS (i := 0) rfl rfl r37 rfl box_whole rfl) ?_))))
 refine To.cQ rfl rfl rfl (Ent.fn rfl rfl ca17) (back_fn ((np : Nat) : Int) ((sn : Nat) : Int) Au qu l (by omega) (InS.op hIn)) rfl (ocs (oks_row 1 rfl) (ocn _)) ?_
 rintro _ _ ⟨Bk, rk, rfl, rfl⟩
 refine ⟨rfl, ?_⟩
 refine To.cQ rfl rfl rfl (Ent.fn rfl rfl ca32) (bytes_fn np sn Bk rk l (by omega) (by omega) (by omega) hIn) rfl (ocs (oks_row 0 rfl) (ocn _)) ?_
 rintro _ _ ⟨Bb, rb, rfl, rfl⟩
 refine ⟨rfl, ?_⟩
 refine To.a (To.n (To.t (To.s ?_)))
 have hbl := bytesV_len (pr := np) (st := sn) (l := l) (by omega) (by omega) (by omega) hIn
 refine To.g (To.mk rfl rfl rfl (Mk.slice0R (α := Nat) (enc := encY) rfl s22) ?_)
 rintro _ _ ⟨A24, rfl, rfl⟩
 refine To.m ?_
 refine To.ge rfl rfl rfl (Ge.appendL encY_ok (i := 0) (l := ([] : List Nat)) (m := bytesV np sn l) rfl s22 rfl rfl rfl (src_row (i := 1) rfl) (by rw [ln0]; omega) (by rw [ln0]; omega)) ?_
 rintro _ _ ⟨A26, q26, rfl, rfl⟩
 refine To.m ?_
 refine To.ge rfl rfl rfl (Ge.appendBig encY_ok (i := 0) (l := [] ++ bytesV np sn l) (m := m) rfl s22 rfl rfl rfl (src_ro (i := 8) rfl) (by rw [List.nil_append]; omega)) ?_
 rintro _ _ ⟨A28, q28, rfl, rfl⟩
 refine To.cQ rfl rfl rfl (Ent.fn rfl rfl ca33) (readB_fn A28 q28 np sn l m (by omega) (by omega) (by omega) hIn hm hml) rfl (ocs (oks_row 0 rfl) (ocn _)) ?_
 rintro _ _ ⟨Br, rr, rfl, rfl⟩
 refine ⟨rfl, ?_⟩
 refine To.m ?_
 refine To.r (Rd.extract rfl rfl rfl) ?_
 refine To.r (Rd.extract rfl rfl rfl) ?_
 refine To.r (Rd.extract rfl rfl rfl) ?_
 refine To.alloc rfl rfl rfl rfl z42 (fun b9 => ?_)
 refine To.u (Up.storeS (i := 0) rfl rfl rfl r42 rfl rfl rfl (bta rfl)) ?_
 refine To.a ?_
 refine To.a (To.n (To.t (To.s ?_)))
 refine To.know (p := (bytesV np sn l).length ≤ rb) (fun w hw => rows_cap 3 rfl hw) (fun hcap => ?_)
 refine To.up3 (To.layRow (To.take ((bytesV np sn l).length - 1) 0 rfl (To.g (To.m ?_))))
 refine To.m ?_
 refine To.r (Rd.len rfl rfl Tryz.underlying22) ?_
 refine To.r (Rd.as (v' := nv ((bytesV np sn l).length - 1)) (congrArg (Value.int .i64) (by omega)) (Rd.sub64 rfl rfl rfl (by omega))) ?_
 refine To.r (Rd.sliceHi (hi := ((bytesV np sn l).length - 1)) rfl s22 rfl rfl (by omega)) ?_
 refine To.cQ rfl rfl rfl (Ent.fn rfl rfl ca33) (readC_fn Bb rb np sn l (by omega) (by omega) (by omega) hIn) rfl (ocs (oca 0 rfl) (ocn _)) ?_
 rintro _ _ ⟨Br_2, rr_2, rfl, rfl⟩
 refine ⟨rfl, ?_⟩
 refine To.m ?_
 refine To.r (Rd.extract rfl rfl rfl) ?_
 refine To.r (Rd.extract rfl rfl rfl) ?_
 refine To.r (Rd.extract rfl rfl rfl) ?_
 refine To.alloc rfl rfl rfl rfl z42 (fun b12 => ?_)
 refine To.u (Up.storeS (i := 0) rfl rfl rfl r42 rfl rfl rfl (bta rfl)) ?_
 refine To.a ?_
 refine To.a (To.n (To.t (To.s ?_)))
 refine To.flow [box b7 [nv np, nv sn, .slice Au l.length qu] 37, box b9 [nv np, nv sn, .slice Br l.length rr] 42, ros encY Bb (bytesV np sn l)] [⟨0, [], 0⟩, ⟨1, [], 0⟩, ⟨2, [], 0⟩, ⟨3, [], 4⟩, ⟨4, [3], 1⟩, ⟨5, [3], 0⟩, ⟨6, [3], 0⟩, ⟨7, [3], 0⟩, ⟨8, [3], 0⟩, ⟨9, [3], 0⟩, ⟨10, [3], 0⟩, ⟨11, [3], 0⟩, ⟨12, [3], 0⟩, ⟨13, [3], 0⟩, ⟨14, [3], 0⟩, ⟨15, [3], 0⟩, ⟨16, [3], 0⟩, ⟨17, [3], 0⟩, ⟨18, [3], 0⟩, ⟨19, [3], 4⟩, ⟨20, [3, 19], 3⟩, ⟨21, [3, 19], 0⟩, ⟨22, [3, 19], 0⟩, ⟨23, [3, 19], 0⟩, ⟨24, [3, 19], 0⟩, ⟨25, [3, 19], 0⟩, ⟨26, [3, 19], 0⟩, ⟨27, [3, 19], 0⟩, ⟨28, [3, 19], 0⟩, ⟨29, [3, 19], 0⟩, ⟨30, [3, 19], 0⟩] mixed (by kernel_rfl) (ocs (oca 8 rfl) (ocs (oca 4 rfl) (ocs (oca 3 rfl) (ocn _)))) (W.mo ?_)
 refine W.f rfl (Rd.bytesStr rfl Tryz.underlying22 Tryz.underlying5 Tryz.underlying9 rfl (oca 2 rfl)) ?_
 refine W.f rfl (Rd.lS (i := 0) rfl rfl r37 rfl box_whole rfl) ?_
 refine W.callM rfl rfl rfl rfl rfl (Ent.fn rfl rfl ca34) (rbytes_fn np sn Au qu l (by omega) (by omega) (by omega) hIn) rfl (ocs (oks_row 9 rfl) (ocn _)) ?_
 rintro _ _ ⟨Bb_2, rb_2, rfl, rfl⟩
 refine ⟨rfl, ?_⟩
 refine W.r rfl (Rd.bytesStr rfl Tryz.underlying22 Tryz.underlying5 Tryz.underlying9 rfl (oks_row 0 rfl)) ?_
 refine W.f rfl (Rd.eqlStr0 rfl Tryz.underlying9 rfl rfl) ?_
 refine W.mo ?_
 refine W.mo ?_
 refine W.f rfl (Rd.as (v' := .bool true) (congrArg Value.bool (decide_eq_true rfl)) (Rd.eql rfl rfl rfl)) ?_
 refine W.f rfl (Rd.pickT rfl rfl rfl) ?_
 refine W.mo ?_
 refine W.mo ?_
 refine W.mo ?_
 refine W.f rfl (Rd.len rfl rfl Tryz.underlying22) ?_
 refine W.f rfl (Rd.as (v' := .bool true) (congrArg Value.bool (decide_eq_true rfl)) (Rd.eql rfl rfl rfl)) ?_
 refine W.f rfl (Rd.pickT rfl rfl rfl) ?_
 refine W.mo ?_
 refine W.f rfl (Rd.lS (i := 1) rfl rfl r42 rfl box_whole rfl) ?_
 refine W.f rfl (Rd.lS (i := 0) rfl rfl r37 rfl box_whole rfl) ?_
 refine W.callMG rfl rfl rfl rfl rfl (Ent.fn rfl rfl ca17) (back_fn ((np : Nat) : Int) ((sn : Nat) : Int) Au qu l (by omega) (InS.op hIn)) rfl (ocs (oks_row 10 rfl) (ocn _)) ?_
 rintro _ _ ⟨Bk_2, rk_2, rfl, rfl⟩
 refine ⟨rfl, ?_⟩
 refine W.callQ rfl rfl rfl rfl (Ent.fn rfl rfl ca16) (same_fn ((np : Nat) : Int) ((sn : Nat) : Int) Br Bk_2 rr rk_2 l (by omega)) rfl (ocs (oks_row 7 rfl) (ocs (oks_row 0 rfl) (ocn _))) ?_
 refine W.f rfl (Rd.pickT rfl rfl rfl) ?_
 refine W.mo ?_
 refine W.mo ?_
 refine W.f rfl (Rd.as (v' := .bool true) (congrArg Value.bool (decide_eq_true rfl)) (Rd.eql rfl rfl rfl)) ?_
 refine W.f rfl (Rd.pickT rfl rfl rfl) ?_
 refine W.mo ?_
 refine W.mo ?_
 refine W.f rfl (Rd.as (v' := .bool true) (congrArg Value.bool (decide_eq_true rfl)) (Rd.eql rfl rfl rfl)) ?_
 refine W.f rfl (Rd.pickT rfl rfl rfl) ?_
 refine W.f rfl (Rd.assign rfl rfl) ?_
 refine W.fin ?_
 refine To.t (To.rt (To.del15 (To.del14 (To.del13 (To.del12 (To.del11 (To.del10 (To.del9 (To.del8 (To.del7 (To.del6 (To.del5 (To.del4 (To.del3 (To.del2 (To.del1 (To.del0 (To.end1 (.inl rfl) Tryz.results10 rfl ?_))))))))))))))))))
 rfl
end Go.Proofs.YtllalpnmagpkfaaGreatDoor
