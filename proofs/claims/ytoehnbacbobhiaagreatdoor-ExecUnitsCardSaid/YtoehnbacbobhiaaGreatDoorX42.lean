/- The reference's Run. Own text (walks printed by sx.py). -/
import Derived.Test.YtoehnbacbobhiaaGreatDoorL1
import Derived.Test.YtoehnbacbobhiaaGreatDoorX41
set_option linter.unusedVariables false
set_option linter.unusedSimpArgs false
namespace Go.Proofs.YtoehnbacbobhiaaGreatDoor
open Go.RowKit Go.Flow Go.Mem Go.Sep
set_option maxHeartbeats 2000000 in
set_option maxRecDepth 100000 in
theorem rrun_fn (A : Option Addr) (ca : Nat) (pr st : Int) (l : List Ins) (a : Sx) (c : Cl) (hv0 : verifyV pr st l = 0) (hc : l.length ≤ 4000) (hpr : (c.args.length : Int) = pr) (href : ∀ x ∈ l, referB x a.vars.length a.tabs.length c.flags.length = true) (hsm : a.vars.length ≤ 1000000 ∧ a.tabs.length ≤ 1000000) (hfl : c.fail.length ≤ 12) (hdsk : 0 ≤ c.dsk ∧ c.dsk ≤ 1000000000) (hgt : ∀ y ∈ a.tabs, Good y.l) (hgd : Good a.dk.l) :
    Does Tryz.prog 11 [.slice A l.length ca, .agg #[.slice a.Av a.vars.length a.qv, .slice a.At a.tabs.length a.qt, .slice a.dk.A a.dk.l.length a.dk.q], .agg #[.slice c.Aa c.args.length c.qa, .int .i64 c.now, .slice c.Ag c.flags.length c.qg, .int .i64 c.dsk, .slice c.Af c.fail.length c.qf]] [ros Ins.rcells A l, ros encI a.Av a.vars, ros Tb.cells a.At a.tabs, rosS encEn (a.tabs.map Tb.ar), ros encEn a.dk.A a.dk.l, ros encI c.Aa c.args, ros encB c.Ag c.flags, ros encI c.Af c.fail] (fun v Γ' => ∃ d' : Dm, v = .agg #[.slice d'.Av d'.vars.length d'.qv, .slice d'.At d'.tabs.length d'.qt, .slice d'.dk.A d'.dk.l.length d'.dk.q, .slice d'.Ae d'.effs.length d'.qe, .int .i64 d'.cost] ∧ Γ' = [rows encI 2 1 d'.Av d'.qv d'.vars, rows Tb.cells 44 1 d'.At d'.qt d'.tabs, rosS encEn (d'.tabs.map Tb.ar), ros encEn d'.dk.A d'.dk.l, rows Ef.rcells 92 8 d'.Ae d'.qe d'.effs, rosS encI (d'.effs.map Ef.ar)] ∧ rs (runV (c.sm l) 1048576 (d0G a.vars (a.tabs.map Tb.l) a.dk.l)) = rs d'.val) := by
  obtain ⟨I, hR, hI⟩ := all_run (s := c.sm l) (V := a.vars) (tb := a.tabs.map Tb.l) (dk := a.dk.l) hv0 (fun x hx => by rw [List.length_map]; exact href x hx) hpr (isortI_asc _) (by show (isort cmpI c.fail).length ≤ 1000000; rw [isort_len]; omega) hdsk (fun t ht => by obtain ⟨y, hy, rfl⟩ := List.mem_map.1 ht; exact hgt y hy) hgd
  have hform := (verified hv0).2.2.2.1
  refine Does.enter Tryz.func11 rfl Tryz.ntmps11 rfl (fun w0 => ?_)
  refine To.seq (To.reg ?_)
  refine To.boxed rfl rfl rfl rfl rfl rfl (fun b4 => ?_)
  refine To.boxed rfl rfl rfl rfl rfl rfl (fun b5 => ?_)
  refine To.alloc rfl rfl rfl rfl z68 (fun b6 => ?_)
  refine To.nil (To.thenN (To.seq ?_))
  refine To.flow [box b4 [.slice a.Av a.vars.length a.qv, .slice a.At a.tabs.length a.qt, .slice a.dk.A a.dk.l.length a.dk.q] 46, box b5 [.slice c.Aa c.args.length c.qa, .int .i64 c.now, .slice c.Ag c.flags.length c.qg, .int .i64 c.dsk, .slice c.Af c.fail.length c.qf] 51] [⟨0, [], 0⟩, ⟨1, [], 0⟩, ⟨2, [], 4⟩, ⟨3, [2], 0⟩, ⟨4, [2], 0⟩, ⟨5, [2], 2⟩, ⟨6, [2, 5], 0⟩] mixed (by kernel_rfl) (oks_cons (oks_at 2 rfl) (oks_cons (oks_at 1 rfl) (oks_nil _))) ?_
  refine FlowS.f rfl (Rd.loadS (i := 1) rfl rfl r51 rfl box_whole rfl) ?_
  refine FlowS.f rfl (Rd.loadS (i := 0) rfl rfl r46 rfl box_whole rfl) ?_
  refine FlowS.callM rfl rfl rfl rfl rfl (Ent.fn rfl rfl ca25) (copy_fn a.Av a.At a.dk.A a.qv a.qt a.dk.q a.dk.l.length a.vars a.tabs hsm.1 hsm.2) rfl (oks_cons (oks_at 4 rfl) (oks_cons (oks_at 5 rfl) (oks_nil _))) ?_
  rintro _ _ ⟨Bv, pv, Bt, pt, rfl, rfl⟩
  refine ⟨rfl, ?_⟩
  refine FlowS.f rfl (Rd.build (vs := [(0, .agg #[.slice Bv a.vars.length pv, .slice Bt a.tabs.length pt, .slice a.dk.A a.dk.l.length a.dk.q])]) (cells := [.slice Bv a.vars.length pv, .slice Bt a.tabs.length pt, .slice a.dk.A a.dk.l.length a.dk.q, .slice none 0 0, .int .i64 0]) rfl rfl rfl (by kernel_rfl)) ?_
  refine FlowS.f rfl (Rd.build (vs := [(0, .agg #[.slice c.Aa c.args.length c.qa, .int .i64 c.now, .slice c.Ag c.flags.length c.qg, .int .i64 c.dsk, .slice c.Af c.fail.length c.qf]), (1, .agg #[.slice Bv a.vars.length pv, .slice Bt a.tabs.length pt, .slice a.dk.A a.dk.l.length a.dk.q, .slice none 0 0, .int .i64 0])]) (cells := [.slice c.Aa c.args.length c.qa, .int .i64 c.now, .slice c.Ag c.flags.length c.qg, .int .i64 c.dsk, .slice c.Af c.fail.length c.qf, .slice Bv a.vars.length pv, .slice Bt a.tabs.length pt, .slice a.dk.A a.dk.l.length a.dk.q, .slice none 0 0, .int .i64 0, .slice none 0 0, .int .i64 0, .int .i64 0, .bool false, .string ByteArray.empty, .slice none 0 0, .slice none 0 0, .string ByteArray.empty, .slice none 0 0, .slice none 0 0, .slice none 0 0, .int .i64 0]) rfl rfl rfl (by kernel_rfl)) ?_
  refine FlowS.mk rfl rfl rfl rfl rfl (Mk.box rfl rfl rfl) ?_
  rintro _ _ ⟨b15, rfl, rfl⟩
  refine FlowS.f rfl (Rd.assign rfl rfl) ?_
  refine FlowS.fin ?_
  refine To.thenN (To.seq (To.reg (To.a (To.nil (To.thenN (To.seq (To.seq (To.reg ?_))))))))
  refine To.a (To.nil (To.thenN (To.block ?_)))
  refine To.nilRow (Ef.rcells) 92 8 ?_
  refine To.nilRow (encI) 2 1 ?_
  refine To.nilS (enc := encI) ?_
  have hJ0 : RJ (c.sm l) I (d0G a.vars (a.tabs.map Tb.l) a.dk.l) 0 0 (⟨Bv, pv, a.vars, Bt, pt, a.tabs, a.dk, none, 0, [], 0, none, 0, [], 0, 0, 0, false⟩ : Dm).val := .inl ⟨rfl, Int.le_refl _, rfl, hI⟩
  refine To.sub [(0, .slice A l.length ca), (6, .pointer (some ⟨b6, 0, none⟩)), (7, .pointer (some ⟨b15, 0, none⟩)), (8, .int .i64 0), (9, .int .i64 ((0 : Nat) : Int))] ⟨rfl, rfl, rfl, rfl, rfl, trivial⟩ ?_
  refine To.del11 ?_
  refine To.del10 ?_
  refine To.del8 ?_
  refine To.del7 ?_
  refine To.up12 ?_
  refine To.up12 ?_
  refine To.up12 ?_
  refine To.up4 ?_
  refine To.up4 ?_
  refine To.up5 ?_
  refine To.up12 ?_
  refine To.up12 ?_
  refine To.up10 ?_
  refine To.up10 ?_
  refine To.up10 ?_
  refine To.up11 ?_
  refine To.loop (fun mz ρ Γ => ∃ (d : Dm) (k : Nat) (z : Int), ρ = [(0, .slice A l.length ca), (6, .pointer (some ⟨b6, 0, none⟩)), (7, .pointer (some ⟨b15, 0, none⟩)), (8, .int .i64 z), (9, .int .i64 ((k : Nat) : Int))] ∧ Γ = [box b6 [.slice none 0 0, .slice none 0 0, .slice none 0 0, .slice none 0 0, .int .i64 0] 68, box b15 [.slice c.Aa c.args.length c.qa, .int .i64 c.now, .slice c.Ag c.flags.length c.qg, .int .i64 c.dsk, .slice c.Af c.fail.length c.qf, .slice d.Av d.vars.length d.qv, .slice d.At d.tabs.length d.qt, .slice d.dk.A d.dk.l.length d.dk.q, .slice d.Ae d.effs.length d.qe, .int .i64 d.cost, .slice d.As d.stack.length d.qs, .int .i64 d.disks, .int .i64 d.sends, .bool d.fault, .string ByteArray.empty, .slice none 0 0, .slice none 0 0, .string ByteArray.empty, .slice none 0 0, .slice none 0 0, .slice none 0 0, .int .i64 0] 106, rows encI 2 1 d.Av d.qv d.vars, rows Tb.cells 44 1 d.At d.qt d.tabs, rosS encEn (d.tabs.map Tb.ar), ros encEn d.dk.A d.dk.l, rows Ef.rcells 92 8 d.Ae d.qe d.effs, rosS encI (d.effs.map Ef.ar), rows encI 2 1 d.As d.qs d.stack, ros encI c.Aa c.args, ros encB c.Ag c.flags, ros encI c.Af c.fail, ros Ins.rcells A l] ∧ mz = 1048576 - k ∧ (k ≤ 1048576) ∧ (RJ (c.sm l) I (d0G a.vars (a.tabs.map Tb.l) a.dk.l) k z d.val)) (1048576 - 0) ⟨(⟨Bv, pv, a.vars, Bt, pt, a.tabs, a.dk, none, 0, [], 0, none, 0, [], 0, 0, 0, false⟩ : Dm), 0, 0, rfl, rfl, rfl, (Nat.zero_le _), hJ0⟩ ?_
  rintro mz _ _ ⟨d, k, z, rfl, rfl, rfl, hk, hJ⟩
  refine To.seq (To.seq (To.reg (To.m ?_)))
  refine To.r (Rd.nilCheck rfl rfl) ?_
  refine To.f fl106_5 ?_
  refine To.lo 1 c4 ?_
  refine To.r (Rd.not rfl rfl) ?_
  refine To.rdB rfl rfl rfl (Rd.move rfl rfl) (fun g21 => ?_) (fun g21 => ?_)
  ·
   refine To.m ?_
   refine To.m ?_
   refine To.r (Rd.len rfl rfl Tryz.underlying63) ?_
   refine To.r (Rd.lss rfl rfl rfl) ?_
   refine To.r (Rd.pickT rfl rfl rfl) ?_
   refine To.nil (To.thenN ?_)
   refine To.condP rfl (fun k26 => ?_) (fun k26 => ?_)
   ·
    refine To.skip (To.thenN (To.seq (To.block (To.seq (To.seq (To.reg (To.m ?_)))))))
    refine To.r (Rd.eql rfl rfl rfl) ?_
    refine To.nil (To.thenN ?_)
    refine To.condP rfl (fun k30 => ?_) (fun k30 => ?_)
    ·
     refine To.seq ?_
     have hdf : d.val.fault = false := by show d.fault = false; simpa using g21
     have hel : d.effs.length ≤ 2000000 := by have h1 : (d.effs.map Ef.val).length ≤ 2000000 := RJ.effs hR hJ hdf; rwa [List.length_map] at h1
     have hk3 : k = 1048576 := by omega
     refine To.reg (To.m ?_)
     refine To.call [1, 1, 1, 1, 1, 1, 1, 1] rfl rfl rfl (Ent.fn rfl rfl ca26) rfl (fault_fn b15 (⟨none, 0, l, c.Aa, c.qa, c.args, c.now, c.Ag, c.qg, c.flags, c.dsk, c.Af, c.qf, c.fail⟩ : Sm) d (by omega)) ?_
     rintro _ _ ⟨rfl, d', rfl, hv⟩
     refine To.nil (To.thenN (To.exit (To.thenX ?_)))
     refine To.blockY rfl ?_
     refine To.thenX (To.thenX (To.blockX (To.thenN (To.seq (To.reg (To.m ?_))))))
     refine To.r (Rd.nilCheck rfl rfl) ?_
     refine To.f fl106_1 ?_
     refine To.r (Rd.loadS (i := 0) (us := [.slice d'.Av d'.vars.length d'.qv, .slice d'.At d'.tabs.length d'.qt, .slice d'.dk.A d'.dk.l.length d'.dk.q, .slice d'.Ae d'.effs.length d'.qe, .int .i64 d'.cost]) rfl rfl r68 rfl (box_gives (n := 5) rfl) rfl) ?_
     refine To.u (Up.storeS (i := 8) rfl rfl rfl r68 rfl rfl rfl (box_takesAll rfl)) ?_
     refine To.nil (To.thenN (To.ret ?_))
     refine To.endC [1, 1, 1, 1, 1, 1] rfl (.inl rfl) Tryz.results11 rfl (i := 8) rfl r68 rfl ?_
     exact ⟨d', rfl, rfl, by rw [hv]; exact RJ.late (by rw [← hk3]; exact hJ) hdf (by show z < ((l.length : Nat) : Int); omega)⟩
    refine To.skip (To.thenN ?_)
    have hdf : d.val.fault = false := by show d.fault = false; simpa using g21
    have hk2 : k < 1048576 := by omega
    have hz0 : 0 ≤ z := by
      rcases hJ with ⟨_, h, _⟩ | ⟨h, _⟩
      · exact h
      · rw [hdf] at h; cases h
    obtain ⟨a0, rfl⟩ : ∃ a0 : Nat, z = ((a0 : Nat) : Int) := ⟨z.toNat, by omega⟩
    have hal : a0 < l.length := by omega
    obtain ⟨x, hx⟩ : ∃ z0, l[a0]? = some z0 := ⟨l[a0]'(by omega), List.getElem?_eq_getElem _⟩
    obtain ⟨hfit, hok⟩ := RJ.fit hR (s := (⟨none, 0, l, c.Aa, c.qa, c.args, c.now, c.Ag, c.qg, c.flags, c.dsk, c.Af, c.qf, c.fail⟩ : Sm)) ⟨rfl, rfl, rfl, rfl, rfl, fun y => (isortI_mem).symm⟩ hJ hdf hx (by show c.fail.length ≤ 1000000; omega)
    refine To.dup 9 rfl rfl ?_
    refine To.dup 11 rfl rfl ?_
    refine To.dup 13 rfl rfl ?_
    refine To.reg (To.m ?_)
    refine To.m ?_
    refine To.m ?_
    refine To.r (Rd.indexRos encRi (i := 15) (j := a0) rfl rfl rfl s63 rfl hx) ?_
    refine To.r (Rd.loadS (i := 15) rfl rfl r89 rfl (ros_gives encRi hx) (encRi.len _)) ?_
    refine To.m ?_
    refine To.call [4, 4, 4, 4, 4, 4, 4, 4, 2, 1, 0] rfl rfl rfl (Ent.fn rfl rfl ca27) rfl (rstep_fn b15 (⟨none, 0, l, c.Aa, c.qa, c.args, c.now, c.Ag, c.qg, c.flags, c.dsk, c.Af, c.qf, c.fail⟩ : Sm) d x a0 (by omega) hfit hok hdf (fun h => formed_a0 (hform x (List.mem_of_getElem? hx)) h)) ?_
    rintro _ _ ⟨nx, d', rfl, rfl, hrs⟩
    refine To.a (To.nil (To.blockN (To.thenN (To.reg ?_))))
    refine To.m ?_
    refine To.r (Rd.inc rfl rfl rfl (by omega)) ?_
    refine To.a (To.nil (To.thenN ?_))
    refine To.sub [(0, .slice A l.length ca), (6, .pointer (some ⟨b6, 0, none⟩)), (7, .pointer (some ⟨b15, 0, none⟩)), (8, .int .i64 nx), (9, .int .i64 (((k + 1) : Nat) : Int))] ⟨rfl, rfl, rfl, rfl, rfl, trivial⟩ ?_
    refine To.up8 ?_
    refine To.again (1048576 - (k + 1)) (by omega) ⟨d', k + 1, nx, rfl, rfl, rfl, (by omega), (RJ.step hR hJ hdf hk2 hx (RStep.sameM (s := (⟨none, 0, l, c.Aa, c.qa, c.args, c.now, c.Ag, c.qg, c.flags, c.dsk, c.Af, c.qf, c.fail⟩ : Sm)) (t := c.sm l) ⟨rfl, rfl, rfl, rfl, rfl, fun y => (isortI_mem).symm⟩ hrs))⟩
   refine To.exit (To.thenX (To.thenX (To.blockX (To.thenN (To.seq (To.reg (To.m ?_)))))))
   refine To.r (Rd.nilCheck rfl rfl) ?_
   refine To.f fl106_1 ?_
   refine To.r (Rd.loadS (i := 1) (us := [.slice d.Av d.vars.length d.qv, .slice d.At d.tabs.length d.qt, .slice d.dk.A d.dk.l.length d.dk.q, .slice d.Ae d.effs.length d.qe, .int .i64 d.cost]) rfl rfl r68 rfl (box_gives (n := 5) rfl) rfl) ?_
   refine To.u (Up.storeS (i := 0) rfl rfl rfl r68 rfl rfl rfl (box_takesAll rfl)) ?_
   refine To.nil (To.thenN (To.ret ?_))
   refine To.endC [2, 2, 2, 2, 2, 2] rfl (.inl rfl) Tryz.results11 rfl (i := 0) rfl r68 rfl ?_
   exact ⟨d, rfl, rfl, RJ.over hJ (.inr (by show ¬ z < ((l.length : Nat) : Int); omega))⟩
  refine To.k ?_
  refine To.k ?_
  refine To.k ?_
  refine To.k ?_
  refine To.r (Rd.pickF rfl rfl rfl) ?_
  refine To.nil (To.thenN ?_)
  refine To.condF rfl ?_
  refine To.exit (To.thenX (To.thenX (To.blockX (To.thenN (To.seq (To.reg (To.m ?_)))))))
  refine To.r (Rd.nilCheck rfl rfl) ?_
  refine To.f fl106_1 ?_
  refine To.r (Rd.loadS (i := 1) (us := [.slice d.Av d.vars.length d.qv, .slice d.At d.tabs.length d.qt, .slice d.dk.A d.dk.l.length d.dk.q, .slice d.Ae d.effs.length d.qe, .int .i64 d.cost]) rfl rfl r68 rfl (box_gives (n := 5) rfl) rfl) ?_
  refine To.u (Up.storeS (i := 0) rfl rfl rfl r68 rfl rfl rfl (box_takesAll rfl)) ?_
  refine To.nil (To.thenN (To.ret ?_))
  refine To.endC [2, 2, 2, 2, 2, 2] rfl (.inl rfl) Tryz.results11 rfl (i := 0) rfl r68 rfl ?_
  exact ⟨d, rfl, rfl, RJ.over hJ (.inl (by show d.fault = true; simpa using g21))⟩
set_option maxHeartbeats 2000000 in
set_option maxRecDepth 100000 in
theorem rfits_fn (A : Option Addr) (ca : Nat) (pr : Int) (l : List Ins) (a : Sx) (c : Cl) (hl : l.length ≤ 1000000) :
    Does Tryz.prog 8 [.slice A l.length ca, .int .i64 pr, .agg #[.slice a.Av a.vars.length a.qv, .slice a.At a.tabs.length a.qt, .slice a.dk.A a.dk.l.length a.dk.q], .agg #[.slice c.Aa c.args.length c.qa, .int .i64 c.now, .slice c.Ag c.flags.length c.qg, .int .i64 c.dsk, .slice c.Af c.fail.length c.qf]] [ros Ins.rcells A l] (fun v _ => v = .bool (decide ((c.args.length : Int) = pr ∧ ∀ x ∈ l, referB x a.vars.length a.tabs.length c.flags.length = true))) := by
  refine Does.enter Tryz.func8 rfl Tryz.ntmps8 rfl (fun w0 => ?_)
  refine To.seq (To.reg ?_)
  refine To.boxed rfl rfl rfl rfl rfl rfl (fun b6 => ?_)
  refine To.boxed rfl rfl rfl rfl rfl rfl (fun b7 => ?_)
  refine To.a (To.nil (To.thenN (To.seq (To.seq (To.reg ?_)))))
  refine To.m ?_
  refine To.r (Rd.len rfl rfl Tryz.underlying63) ?_
  refine To.m (To.nil (To.thenN (To.block ?_)))
  refine To.sub [(1, .int .i64 pr), (6, .pointer (some ⟨b6, 0, none⟩)), (7, .pointer (some ⟨b7, 0, none⟩)), (11, .slice A l.length ca), (12, .int .i64 ((l.length : Nat) : Int)), (13, .int .i64 ((0 : Nat) : Int))] ⟨rfl, rfl, rfl, rfl, rfl, rfl, trivial⟩ ?_
  refine To.up1 ?_
  refine To.loop (fun mz ρ Γ => ∃ (i : Nat), ρ = [(1, .int .i64 pr), (6, .pointer (some ⟨b6, 0, none⟩)), (7, .pointer (some ⟨b7, 0, none⟩)), (11, .slice A l.length ca), (12, .int .i64 ((l.length : Nat) : Int)), (13, .int .i64 ((i : Nat) : Int))] ∧ Γ = [box b6 [.slice a.Av a.vars.length a.qv, .slice a.At a.tabs.length a.qt, .slice a.dk.A a.dk.l.length a.dk.q] 46, box b7 [.slice c.Aa c.args.length c.qa, .int .i64 c.now, .slice c.Ag c.flags.length c.qg, .int .i64 c.dsk, .slice c.Af c.fail.length c.qf] 51, ros Ins.rcells A l] ∧ mz = l.length - i ∧ (i ≤ l.length) ∧ (∀ x ∈ l.take i, referB x a.vars.length a.tabs.length c.flags.length = true)) (l.length - 0) ⟨0, rfl, rfl, rfl, (Nat.zero_le _), (fun y hy => by simp at hy)⟩ ?_
  rintro mz _ _ ⟨i, rfl, rfl, rfl, hi, hpre⟩
  refine To.seq (To.reg ?_)
  refine To.r (Rd.lss rfl rfl rfl) ?_
  refine To.nil (To.thenN (To.seq ?_))
  refine To.condP rfl (fun k14 => ?_) (fun k14 => ?_)
  ·
   obtain ⟨x, hx⟩ : ∃ z0, l[i]? = some z0 := ⟨l[i]'(by omega), List.getElem?_eq_getElem _⟩
   refine To.skip (To.thenN (To.seq (To.block (To.seq (To.reg ?_)))))
   refine To.r (Rd.indexRos encRi (i := 2) (j := i) rfl rfl rfl s63 rfl hx) ?_
   refine To.r (Rd.loadS (i := 2) rfl rfl r89 rfl (ros_gives encRi hx) (encRi.len _)) ?_
   refine To.alloc rfl rfl rfl rfl z89 (fun b10 => ?_)
   refine To.u (Up.storeS (i := 0) rfl rfl rfl r89 rfl rfl rfl (box_takesAll rfl)) ?_
   refine To.nil (To.thenN (To.seq (To.reg ?_)))
   refine To.f fl89_0 ?_
   refine To.lo 0 c3 ?_
   refine To.nil (To.thenN (To.block (To.seq (To.seq (To.reg ?_)))))
   refine To.r (Rd.eql rfl rfl rfl) ?_
   refine To.a (To.nil (To.thenN ?_))
   refine To.condP rfl (fun k19 => ?_) (fun k19 => ?_)
   ·
    refine To.skip (To.thenN ?_)
    refine To.condT (congrArg (fun b => some (Value.bool b)) (decide_eq_true k19)) ?_
    refine To.seq (To.reg ?_)
    refine To.f fl89_1 ?_
    refine To.lo 0 c3 ?_
    refine To.f fl46_0 ?_
    refine To.lo 1 c24 ?_
    refine To.r (Rd.len rfl rfl Tryz.underlying24) ?_
    refine To.r (Rd.geq rfl rfl rfl) ?_
    refine To.nil (To.thenN ?_)
    refine To.condP rfl (fun k28 => ?_) (fun k28 => ?_)
    ·
     refine To.seq (To.reg (To.a (To.nil (To.thenN (To.ret (To.blockR (To.blockR (To.thenR (To.thenR (To.blockR (To.thenR ?_)))))))))))
     refine To.del3 ?_
     refine To.del2 ?_
     refine To.del1 ?_
     refine To.del0 ?_
     refine To.end1 (.inl rfl) Tryz.results8 rfl ?_
     have hno : ¬ referB x a.vars.length a.tabs.length c.flags.length = true := by
       unfold referB
       repeat (first | rw [if_pos (by omega)] | rw [if_neg (by omega)])
       simp only [decide_eq_true_eq]; omega
     exact congrArg Value.bool (decide_eq_false (fun h => hno (h.2 x (List.mem_of_getElem? hx)))).symm
    refine To.skip (To.blockN (To.blockN (To.thenN (To.reg ?_))))
    refine To.r (Rd.inc rfl rfl rfl (by omega)) ?_
    refine To.m (To.nil (To.thenN ?_))
    refine To.sub [(1, .int .i64 pr), (6, .pointer (some ⟨b6, 0, none⟩)), (7, .pointer (some ⟨b7, 0, none⟩)), (11, .slice A l.length ca), (12, .int .i64 ((l.length : Nat) : Int)), (13, .int .i64 (((i + 1) : Nat) : Int))] ⟨rfl, rfl, rfl, rfl, rfl, rfl, trivial⟩ ?_
    refine To.del0 ?_
    refine To.again (l.length - (i + 1)) (by omega) ⟨i + 1, rfl, rfl, rfl, (by omega), (fun y hy => by
      rw [take_of_get hx] at hy
      rcases List.mem_append.1 hy with h1 | h1
      · exact hpre y h1
      · rw [List.mem_singleton.1 h1]; unfold referB; repeat (first | rw [if_pos (by omega)] | rw [if_neg (by omega)])
        all_goals first | rfl | exact decide_eq_true (by omega))⟩
   refine To.seq (To.reg ?_)
   refine To.r (Rd.eql rfl rfl rfl) ?_
   refine To.a (To.nil (To.thenN ?_))
   refine To.condP rfl (fun k19_2 => ?_) (fun k19_2 => ?_)
   ·
    refine To.skip (To.thenN ?_)
    refine To.condT (congrArg (fun b => some (Value.bool b)) (decide_eq_true k19_2)) ?_
    refine To.seq (To.reg ?_)
    refine To.f fl89_1 ?_
    refine To.lo 0 c3 ?_
    refine To.f fl46_0 ?_
    refine To.lo 1 c24 ?_
    refine To.r (Rd.len rfl rfl Tryz.underlying24) ?_
    refine To.r (Rd.geq rfl rfl rfl) ?_
    refine To.nil (To.thenN ?_)
    refine To.condP rfl (fun k28 => ?_) (fun k28 => ?_)
    ·
     refine To.seq (To.reg (To.a (To.nil (To.thenN (To.ret (To.blockR (To.blockR (To.thenR (To.thenR (To.blockR (To.thenR ?_)))))))))))
     refine To.del3 ?_
     refine To.del2 ?_
     refine To.del1 ?_
     refine To.del0 ?_
     refine To.end1 (.inl rfl) Tryz.results8 rfl ?_
     have hno : ¬ referB x a.vars.length a.tabs.length c.flags.length = true := by
       unfold referB
       repeat (first | rw [if_pos (by omega)] | rw [if_neg (by omega)])
       simp only [decide_eq_true_eq]; omega
     exact congrArg Value.bool (decide_eq_false (fun h => hno (h.2 x (List.mem_of_getElem? hx)))).symm
    refine To.skip (To.blockN (To.blockN (To.thenN (To.reg ?_))))
    refine To.r (Rd.inc rfl rfl rfl (by omega)) ?_
    refine To.m (To.nil (To.thenN ?_))
    refine To.sub [(1, .int .i64 pr), (6, .pointer (some ⟨b6, 0, none⟩)), (7, .pointer (some ⟨b7, 0, none⟩)), (11, .slice A l.length ca), (12, .int .i64 ((l.length : Nat) : Int)), (13, .int .i64 (((i + 1) : Nat) : Int))] ⟨rfl, rfl, rfl, rfl, rfl, rfl, trivial⟩ ?_
    refine To.del0 ?_
    refine To.again (l.length - (i + 1)) (by omega) ⟨i + 1, rfl, rfl, rfl, (by omega), (fun y hy => by
      rw [take_of_get hx] at hy
      rcases List.mem_append.1 hy with h1 | h1
      · exact hpre y h1
      · rw [List.mem_singleton.1 h1]; unfold referB; repeat (first | rw [if_pos (by omega)] | rw [if_neg (by omega)])
        all_goals first | rfl | exact decide_eq_true (by omega))⟩
   refine To.reg ?_
   refine To.r (Rd.eql rfl rfl rfl) ?_
   refine To.a (To.nil (To.thenN ?_))
   refine To.condP rfl (fun k19_3 => ?_) (fun k19_3 => ?_)
   ·
    refine To.seq (To.reg ?_)
    refine To.f fl89_1 ?_
    refine To.lo 0 c3 ?_
    refine To.f fl46_0 ?_
    refine To.lo 1 c24 ?_
    refine To.r (Rd.len rfl rfl Tryz.underlying24) ?_
    refine To.r (Rd.geq rfl rfl rfl) ?_
    refine To.nil (To.thenN ?_)
    refine To.condP rfl (fun k28 => ?_) (fun k28 => ?_)
    ·
     refine To.seq (To.reg (To.a (To.nil (To.thenN (To.ret (To.blockR (To.blockR (To.thenR (To.thenR (To.blockR (To.thenR ?_)))))))))))
     refine To.del3 ?_
     refine To.del2 ?_
     refine To.del1 ?_
     refine To.del0 ?_
     refine To.end1 (.inl rfl) Tryz.results8 rfl ?_
     have hno : ¬ referB x a.vars.length a.tabs.length c.flags.length = true := by
       unfold referB
       repeat (first | rw [if_pos (by omega)] | rw [if_neg (by omega)])
       simp only [decide_eq_true_eq]; omega
     exact congrArg Value.bool (decide_eq_false (fun h => hno (h.2 x (List.mem_of_getElem? hx)))).symm
    refine To.skip (To.blockN (To.blockN (To.thenN (To.reg ?_))))
    refine To.r (Rd.inc rfl rfl rfl (by omega)) ?_
    refine To.m (To.nil (To.thenN ?_))
    refine To.sub [(1, .int .i64 pr), (6, .pointer (some ⟨b6, 0, none⟩)), (7, .pointer (some ⟨b7, 0, none⟩)), (11, .slice A l.length ca), (12, .int .i64 ((l.length : Nat) : Int)), (13, .int .i64 (((i + 1) : Nat) : Int))] ⟨rfl, rfl, rfl, rfl, rfl, rfl, trivial⟩ ?_
    refine To.del0 ?_
    refine To.again (l.length - (i + 1)) (by omega) ⟨i + 1, rfl, rfl, rfl, (by omega), (fun y hy => by
      rw [take_of_get hx] at hy
      rcases List.mem_append.1 hy with h1 | h1
      · exact hpre y h1
      · rw [List.mem_singleton.1 h1]; unfold referB; repeat (first | rw [if_pos (by omega)] | rw [if_neg (by omega)])
        all_goals first | rfl | exact decide_eq_true (by omega))⟩
   refine To.seq (To.reg ?_)
   refine To.r (Rd.eql rfl rfl rfl) ?_
   refine To.a (To.nil (To.thenN ?_))
   refine To.condP rfl (fun k29 => ?_) (fun k29 => ?_)
   ·
    refine To.seq (To.reg ?_)
    refine To.f fl89_1 ?_
    refine To.lo 0 c3 ?_
    refine To.f fl51_2 ?_
    refine To.lo 2 c47 ?_
    refine To.r (Rd.len rfl rfl Tryz.underlying47) ?_
    refine To.r (Rd.geq rfl rfl rfl) ?_
    refine To.nil (To.thenN ?_)
    refine To.condP rfl (fun k36 => ?_) (fun k36 => ?_)
    ·
     refine To.seq (To.reg (To.a (To.nil (To.thenN (To.ret (To.blockR (To.blockR (To.thenR (To.thenR (To.blockR (To.thenR ?_)))))))))))
     refine To.del3 ?_
     refine To.del2 ?_
     refine To.del1 ?_
     refine To.del0 ?_
     refine To.end1 (.inl rfl) Tryz.results8 rfl ?_
     have hno : ¬ referB x a.vars.length a.tabs.length c.flags.length = true := by
       unfold referB
       repeat (first | rw [if_pos (by omega)] | rw [if_neg (by omega)])
       simp only [decide_eq_true_eq]; omega
     exact congrArg Value.bool (decide_eq_false (fun h => hno (h.2 x (List.mem_of_getElem? hx)))).symm
    refine To.skip (To.blockN (To.blockN (To.thenN (To.reg ?_))))
    refine To.r (Rd.inc rfl rfl rfl (by omega)) ?_
    refine To.m (To.nil (To.thenN ?_))
    refine To.sub [(1, .int .i64 pr), (6, .pointer (some ⟨b6, 0, none⟩)), (7, .pointer (some ⟨b7, 0, none⟩)), (11, .slice A l.length ca), (12, .int .i64 ((l.length : Nat) : Int)), (13, .int .i64 (((i + 1) : Nat) : Int))] ⟨rfl, rfl, rfl, rfl, rfl, rfl, trivial⟩ ?_
    refine To.del0 ?_
    refine To.again (l.length - (i + 1)) (by omega) ⟨i + 1, rfl, rfl, rfl, (by omega), (fun y hy => by
      rw [take_of_get hx] at hy
      rcases List.mem_append.1 hy with h1 | h1
      · exact hpre y h1
      · rw [List.mem_singleton.1 h1]; unfold referB; repeat (first | rw [if_pos (by omega)] | rw [if_neg (by omega)])
        all_goals first | rfl | exact decide_eq_true (by omega))⟩
   refine To.seq (To.seq (To.reg ?_))
   refine To.r (Rd.eql rfl rfl rfl) ?_
   refine To.a (To.nil (To.thenN ?_))
   refine To.condP rfl (fun k37 => ?_) (fun k37 => ?_)
   ·
    refine To.skip (To.thenN ?_)
    refine To.condT (congrArg (fun b => some (Value.bool b)) (decide_eq_true k37)) ?_
    refine To.seq (To.reg ?_)
    refine To.f fl89_1 ?_
    refine To.lo 0 c3 ?_
    refine To.f fl46_1 ?_
    refine To.lo 1 c43 ?_
    refine To.r (Rd.len rfl rfl Tryz.underlying43) ?_
    refine To.r (Rd.geq rfl rfl rfl) ?_
    refine To.nil (To.thenN ?_)
    refine To.condP rfl (fun k48 => ?_) (fun k48 => ?_)
    ·
     refine To.seq (To.reg (To.a (To.nil (To.thenN (To.ret (To.blockR (To.blockR (To.thenR (To.thenR (To.blockR (To.thenR ?_)))))))))))
     refine To.del3 ?_
     refine To.del2 ?_
     refine To.del1 ?_
     refine To.del0 ?_
     refine To.end1 (.inl rfl) Tryz.results8 rfl ?_
     have hno : ¬ referB x a.vars.length a.tabs.length c.flags.length = true := by
       unfold referB
       repeat (first | rw [if_pos (by omega)] | rw [if_neg (by omega)])
       simp only [decide_eq_true_eq]; omega
     exact congrArg Value.bool (decide_eq_false (fun h => hno (h.2 x (List.mem_of_getElem? hx)))).symm
    refine To.skip (To.blockN (To.blockN (To.thenN (To.reg ?_))))
    refine To.r (Rd.inc rfl rfl rfl (by omega)) ?_
    refine To.m (To.nil (To.thenN ?_))
    refine To.sub [(1, .int .i64 pr), (6, .pointer (some ⟨b6, 0, none⟩)), (7, .pointer (some ⟨b7, 0, none⟩)), (11, .slice A l.length ca), (12, .int .i64 ((l.length : Nat) : Int)), (13, .int .i64 (((i + 1) : Nat) : Int))] ⟨rfl, rfl, rfl, rfl, rfl, rfl, trivial⟩ ?_
    refine To.del0 ?_
    refine To.again (l.length - (i + 1)) (by omega) ⟨i + 1, rfl, rfl, rfl, (by omega), (fun y hy => by
      rw [take_of_get hx] at hy
      rcases List.mem_append.1 hy with h1 | h1
      · exact hpre y h1
      · rw [List.mem_singleton.1 h1]; unfold referB; repeat (first | rw [if_pos (by omega)] | rw [if_neg (by omega)])
        all_goals first | rfl | exact decide_eq_true (by omega))⟩
   refine To.seq (To.reg ?_)
   refine To.r (Rd.eql rfl rfl rfl) ?_
   refine To.a (To.nil (To.thenN ?_))
   refine To.condP rfl (fun k37_2 => ?_) (fun k37_2 => ?_)
   ·
    refine To.skip (To.thenN ?_)
    refine To.condT (congrArg (fun b => some (Value.bool b)) (decide_eq_true k37_2)) ?_
    refine To.seq (To.reg ?_)
    refine To.f fl89_1 ?_
    refine To.lo 0 c3 ?_
    refine To.f fl46_1 ?_
    refine To.lo 1 c43 ?_
    refine To.r (Rd.len rfl rfl Tryz.underlying43) ?_
    refine To.r (Rd.geq rfl rfl rfl) ?_
    refine To.nil (To.thenN ?_)
    refine To.condP rfl (fun k48 => ?_) (fun k48 => ?_)
    ·
     refine To.seq (To.reg (To.a (To.nil (To.thenN (To.ret (To.blockR (To.blockR (To.thenR (To.thenR (To.blockR (To.thenR ?_)))))))))))
     refine To.del3 ?_
     refine To.del2 ?_
     refine To.del1 ?_
     refine To.del0 ?_
     refine To.end1 (.inl rfl) Tryz.results8 rfl ?_
     have hno : ¬ referB x a.vars.length a.tabs.length c.flags.length = true := by
       unfold referB
       repeat (first | rw [if_pos (by omega)] | rw [if_neg (by omega)])
       simp only [decide_eq_true_eq]; omega
     exact congrArg Value.bool (decide_eq_false (fun h => hno (h.2 x (List.mem_of_getElem? hx)))).symm
    refine To.skip (To.blockN (To.blockN (To.thenN (To.reg ?_))))
    refine To.r (Rd.inc rfl rfl rfl (by omega)) ?_
    refine To.m (To.nil (To.thenN ?_))
    refine To.sub [(1, .int .i64 pr), (6, .pointer (some ⟨b6, 0, none⟩)), (7, .pointer (some ⟨b7, 0, none⟩)), (11, .slice A l.length ca), (12, .int .i64 ((l.length : Nat) : Int)), (13, .int .i64 (((i + 1) : Nat) : Int))] ⟨rfl, rfl, rfl, rfl, rfl, rfl, trivial⟩ ?_
    refine To.del0 ?_
    refine To.again (l.length - (i + 1)) (by omega) ⟨i + 1, rfl, rfl, rfl, (by omega), (fun y hy => by
      rw [take_of_get hx] at hy
      rcases List.mem_append.1 hy with h1 | h1
      · exact hpre y h1
      · rw [List.mem_singleton.1 h1]; unfold referB; repeat (first | rw [if_pos (by omega)] | rw [if_neg (by omega)])
        all_goals first | rfl | exact decide_eq_true (by omega))⟩
   refine To.seq (To.reg ?_)
   refine To.r (Rd.eql rfl rfl rfl) ?_
   refine To.a (To.nil (To.thenN ?_))
   refine To.condP rfl (fun k37_3 => ?_) (fun k37_3 => ?_)
   ·
    refine To.skip (To.thenN ?_)
    refine To.condT (congrArg (fun b => some (Value.bool b)) (decide_eq_true k37_3)) ?_
    refine To.seq (To.reg ?_)
    refine To.f fl89_1 ?_
    refine To.lo 0 c3 ?_
    refine To.f fl46_1 ?_
    refine To.lo 1 c43 ?_
    refine To.r (Rd.len rfl rfl Tryz.underlying43) ?_
    refine To.r (Rd.geq rfl rfl rfl) ?_
    refine To.nil (To.thenN ?_)
    refine To.condP rfl (fun k48 => ?_) (fun k48 => ?_)
    ·
     refine To.seq (To.reg (To.a (To.nil (To.thenN (To.ret (To.blockR (To.blockR (To.thenR (To.thenR (To.blockR (To.thenR ?_)))))))))))
     refine To.del3 ?_
     refine To.del2 ?_
     refine To.del1 ?_
     refine To.del0 ?_
     refine To.end1 (.inl rfl) Tryz.results8 rfl ?_
     have hno : ¬ referB x a.vars.length a.tabs.length c.flags.length = true := by
       unfold referB
       repeat (first | rw [if_pos (by omega)] | rw [if_neg (by omega)])
       simp only [decide_eq_true_eq]; omega
     exact congrArg Value.bool (decide_eq_false (fun h => hno (h.2 x (List.mem_of_getElem? hx)))).symm
    refine To.skip (To.blockN (To.blockN (To.thenN (To.reg ?_))))
    refine To.r (Rd.inc rfl rfl rfl (by omega)) ?_
    refine To.m (To.nil (To.thenN ?_))
    refine To.sub [(1, .int .i64 pr), (6, .pointer (some ⟨b6, 0, none⟩)), (7, .pointer (some ⟨b7, 0, none⟩)), (11, .slice A l.length ca), (12, .int .i64 ((l.length : Nat) : Int)), (13, .int .i64 (((i + 1) : Nat) : Int))] ⟨rfl, rfl, rfl, rfl, rfl, rfl, trivial⟩ ?_
    refine To.del0 ?_
    refine To.again (l.length - (i + 1)) (by omega) ⟨i + 1, rfl, rfl, rfl, (by omega), (fun y hy => by
      rw [take_of_get hx] at hy
      rcases List.mem_append.1 hy with h1 | h1
      · exact hpre y h1
      · rw [List.mem_singleton.1 h1]; unfold referB; repeat (first | rw [if_pos (by omega)] | rw [if_neg (by omega)])
        all_goals first | rfl | exact decide_eq_true (by omega))⟩
   refine To.seq (To.reg ?_)
   refine To.r (Rd.eql rfl rfl rfl) ?_
   refine To.a (To.nil (To.thenN ?_))
   refine To.condP rfl (fun k37_4 => ?_) (fun k37_4 => ?_)
   ·
    refine To.skip (To.thenN ?_)
    refine To.condT (congrArg (fun b => some (Value.bool b)) (decide_eq_true k37_4)) ?_
    refine To.seq (To.reg ?_)
    refine To.f fl89_1 ?_
    refine To.lo 0 c3 ?_
    refine To.f fl46_1 ?_
    refine To.lo 1 c43 ?_
    refine To.r (Rd.len rfl rfl Tryz.underlying43) ?_
    refine To.r (Rd.geq rfl rfl rfl) ?_
    refine To.nil (To.thenN ?_)
    refine To.condP rfl (fun k48 => ?_) (fun k48 => ?_)
    ·
     refine To.seq (To.reg (To.a (To.nil (To.thenN (To.ret (To.blockR (To.blockR (To.thenR (To.thenR (To.blockR (To.thenR ?_)))))))))))
     refine To.del3 ?_
     refine To.del2 ?_
     refine To.del1 ?_
     refine To.del0 ?_
     refine To.end1 (.inl rfl) Tryz.results8 rfl ?_
     have hno : ¬ referB x a.vars.length a.tabs.length c.flags.length = true := by
       unfold referB
       repeat (first | rw [if_pos (by omega)] | rw [if_neg (by omega)])
       simp only [decide_eq_true_eq]; omega
     exact congrArg Value.bool (decide_eq_false (fun h => hno (h.2 x (List.mem_of_getElem? hx)))).symm
    refine To.skip (To.blockN (To.blockN (To.thenN (To.reg ?_))))
    refine To.r (Rd.inc rfl rfl rfl (by omega)) ?_
    refine To.m (To.nil (To.thenN ?_))
    refine To.sub [(1, .int .i64 pr), (6, .pointer (some ⟨b6, 0, none⟩)), (7, .pointer (some ⟨b7, 0, none⟩)), (11, .slice A l.length ca), (12, .int .i64 ((l.length : Nat) : Int)), (13, .int .i64 (((i + 1) : Nat) : Int))] ⟨rfl, rfl, rfl, rfl, rfl, rfl, trivial⟩ ?_
    refine To.del0 ?_
    refine To.again (l.length - (i + 1)) (by omega) ⟨i + 1, rfl, rfl, rfl, (by omega), (fun y hy => by
      rw [take_of_get hx] at hy
      rcases List.mem_append.1 hy with h1 | h1
      · exact hpre y h1
      · rw [List.mem_singleton.1 h1]; unfold referB; repeat (first | rw [if_pos (by omega)] | rw [if_neg (by omega)])
        all_goals first | rfl | exact decide_eq_true (by omega))⟩
   refine To.reg ?_
   refine To.r (Rd.eql rfl rfl rfl) ?_
   refine To.a (To.nil (To.thenN ?_))
   refine To.condP rfl (fun k37_5 => ?_) (fun k37_5 => ?_)
   ·
    refine To.seq (To.reg ?_)
    refine To.f fl89_1 ?_
    refine To.lo 0 c3 ?_
    refine To.f fl46_1 ?_
    refine To.lo 1 c43 ?_
    refine To.r (Rd.len rfl rfl Tryz.underlying43) ?_
    refine To.r (Rd.geq rfl rfl rfl) ?_
    refine To.nil (To.thenN ?_)
    refine To.condP rfl (fun k48 => ?_) (fun k48 => ?_)
    ·
     refine To.seq (To.reg (To.a (To.nil (To.thenN (To.ret (To.blockR (To.blockR (To.thenR (To.thenR (To.blockR (To.thenR ?_)))))))))))
     refine To.del3 ?_
     refine To.del2 ?_
     refine To.del1 ?_
     refine To.del0 ?_
     refine To.end1 (.inl rfl) Tryz.results8 rfl ?_
     have hno : ¬ referB x a.vars.length a.tabs.length c.flags.length = true := by
       unfold referB
       repeat (first | rw [if_pos (by omega)] | rw [if_neg (by omega)])
       simp only [decide_eq_true_eq]; omega
     exact congrArg Value.bool (decide_eq_false (fun h => hno (h.2 x (List.mem_of_getElem? hx)))).symm
    refine To.skip (To.blockN (To.blockN (To.thenN (To.reg ?_))))
    refine To.r (Rd.inc rfl rfl rfl (by omega)) ?_
    refine To.m (To.nil (To.thenN ?_))
    refine To.sub [(1, .int .i64 pr), (6, .pointer (some ⟨b6, 0, none⟩)), (7, .pointer (some ⟨b7, 0, none⟩)), (11, .slice A l.length ca), (12, .int .i64 ((l.length : Nat) : Int)), (13, .int .i64 (((i + 1) : Nat) : Int))] ⟨rfl, rfl, rfl, rfl, rfl, rfl, trivial⟩ ?_
    refine To.del0 ?_
    refine To.again (l.length - (i + 1)) (by omega) ⟨i + 1, rfl, rfl, rfl, (by omega), (fun y hy => by
      rw [take_of_get hx] at hy
      rcases List.mem_append.1 hy with h1 | h1
      · exact hpre y h1
      · rw [List.mem_singleton.1 h1]; unfold referB; repeat (first | rw [if_pos (by omega)] | rw [if_neg (by omega)])
        all_goals first | rfl | exact decide_eq_true (by omega))⟩
   refine To.skip (To.blockN (To.blockN (To.thenN (To.reg ?_))))
   refine To.r (Rd.inc rfl rfl rfl (by omega)) ?_
   refine To.m (To.nil (To.thenN ?_))
   refine To.sub [(1, .int .i64 pr), (6, .pointer (some ⟨b6, 0, none⟩)), (7, .pointer (some ⟨b7, 0, none⟩)), (11, .slice A l.length ca), (12, .int .i64 ((l.length : Nat) : Int)), (13, .int .i64 (((i + 1) : Nat) : Int))] ⟨rfl, rfl, rfl, rfl, rfl, rfl, trivial⟩ ?_
   refine To.del0 ?_
   refine To.again (l.length - (i + 1)) (by omega) ⟨i + 1, rfl, rfl, rfl, (by omega), (fun y hy => by
     rw [take_of_get hx] at hy
     rcases List.mem_append.1 hy with h1 | h1
     · exact hpre y h1
     · rw [List.mem_singleton.1 h1]; unfold referB; repeat (first | rw [if_pos (by omega)] | rw [if_neg (by omega)])
       all_goals first | rfl | exact decide_eq_true (by omega))⟩
  refine To.exit (To.thenX (To.thenX (To.blockX (To.thenN (To.seq (To.reg ?_))))))
  refine To.f fl51_0 ?_
  refine To.lo 1 c24 ?_
  refine To.r (Rd.len rfl rfl Tryz.underlying24) ?_
  refine To.m ?_
  refine To.r (Rd.eql rfl rfl rfl) ?_
  refine To.a (To.nil (To.thenN (To.ret ?_)))
  refine To.del2 ?_
  refine To.del1 ?_
  refine To.del0 ?_
  refine To.end1 (.inl rfl) Tryz.results8 rfl ?_
  refine congrArg Value.bool (decide_eq_decide.2 ⟨fun h => ⟨h, fun y hy => hpre y (by rw [List.take_of_length_le (by omega)]; exact hy)⟩, fun h => h.1⟩)
set_option maxHeartbeats 2000000 in
set_option maxRecDepth 100000 in
theorem instrs_fn (pr st : Int) (A : Option Addr) (ca : Nat) (l : List Ins) (hl : l.length ≤ 1000000) (hop : ∀ x ∈ l, x.op < 256) :
    Does Tryz.prog 9 [.agg #[.int .i64 pr, .int .i64 st, .slice A l.length ca]] [ros Ins.cells A l] (fun v Γ' => ∃ B q, v = .slice B l.length q ∧ Γ' = [rows Ins.rcells 89 4 B q l]) := by
  refine Does.enter Tryz.func9 rfl Tryz.ntmps9 rfl (fun w0 => ?_)
  refine To.seq (To.reg ?_)
  refine To.boxed rfl rfl rfl rfl rfl rfl (fun b1 => ?_)
  refine To.a (To.nil (To.thenN (To.seq (To.reg ?_))))
  refine To.a (To.nil (To.thenN (To.seq (To.seq (To.reg ?_)))))
  refine To.f fl31_2 ?_
  refine To.lo 0 c29 ?_
  refine To.r (Rd.len rfl rfl Tryz.underlying29) ?_
  refine To.m (To.nil (To.thenN (To.block ?_)))
  refine To.nilRow (Ins.rcells) 89 4 ?_
  refine To.sub [(3, .slice none ([] : List Ins).length 0), (7, .slice A l.length ca), (8, .int .i64 ((l.length : Nat) : Int)), (9, .int .i64 ((0 : Nat) : Int))] ⟨rfl, rfl, rfl, rfl, trivial⟩ ?_
  refine To.del1 ?_
  refine To.up1 ?_
  refine To.loop (fun mz ρ Γ => ∃ (Ao : Option Addr) (qo : Nat) (O : List Ins) (i : Nat), ρ = [(3, .slice Ao O.length qo), (7, .slice A l.length ca), (8, .int .i64 ((l.length : Nat) : Int)), (9, .int .i64 ((i : Nat) : Int))] ∧ Γ = [ros Ins.cells A l, rows Ins.rcells 89 4 Ao qo O] ∧ mz = l.length - i ∧ (i ≤ l.length) ∧ (O = l.take i)) (l.length - 0) ⟨none, 0, ([] : List Ins), 0, rfl, rfl, rfl, (Nat.zero_le _), rfl⟩ ?_
  rintro mz _ _ ⟨Ao, qo, O, i, rfl, rfl, rfl, hi, hO⟩
  have hOl : O.length ≤ l.length := by rw [hO, List.length_take]; omega
  refine To.seq (To.reg ?_)
  refine To.r (Rd.lss rfl rfl rfl) ?_
  refine To.nil (To.thenN (To.seq ?_))
  refine To.condP rfl (fun k10 => ?_) (fun k10 => ?_)
  ·
   obtain ⟨x, hx⟩ : ∃ z0, l[i]? = some z0 := ⟨l[i]'(by omega), List.getElem?_eq_getElem _⟩
   have hop2 := hop x (List.mem_of_getElem? hx)
   refine To.skip (To.thenN (To.seq (To.block (To.seq (To.reg ?_)))))
   refine To.r (Rd.indexRos encIn (i := 0) (j := i) rfl rfl rfl s29 rfl hx) ?_
   refine To.r (Rd.loadS (i := 0) rfl rfl r36 rfl (ros_gives encIn hx) (encIn.len _)) ?_
   refine To.alloc rfl rfl rfl rfl z36 (fun b5 => ?_)
   refine To.u (Up.storeS (i := 0) rfl rfl rfl r36 rfl rfl rfl (box_takesAll rfl)) ?_
   refine To.nil (To.thenN (To.reg (To.m ?_)))
   refine To.f fl36_0 ?_
   refine To.lo 0 c34 ?_
   refine To.r (Rd.conv rfl rfl Tryz.underlying34 Tryz.underlying3 (IntWalk.i64_in _ (by omega))) ?_
   refine To.f fl36_1 ?_
   refine To.lo 0 c3 ?_
   refine To.f fl36_2 ?_
   refine To.lo 0 c3 ?_
   refine To.f fl36_3 ?_
   refine To.lo 0 c2 ?_
   refine To.r (Rd.build (vs := [(0, .int .i64 ((x.op : Nat) : Int)), (1, .int .i64 x.a), (2, .int .i64 x.b), (3, .int .i64 x.n)]) (cells := [.int .i64 ((x.op : Nat) : Int), .int .i64 x.a, .int .i64 x.b, .int .i64 x.n]) rfl rfl rfl (by kernel_rfl)) ?_
   refine To.mk rfl rfl rfl (Mk.sliceN (us := [.int .i64 ((x.op : Nat) : Int), .int .i64 x.a, .int .i64 x.b, .int .i64 x.n]) rfl s63 rfl rfl rfl rfl rfl rfl) ?_
   rintro _ _ ⟨b24, rfl, rfl⟩
   refine To.ge rfl rfl rfl (Ge.append1 encRi (i := 3) (j := 0) (el := x) rfl s63 rfl rfl rfl rfl rfl (by first | omega | (simp only [List.length_append, List.length_cons, List.length_nil]; omega)) (by first | omega | (simp only [List.length_append, List.length_cons, List.length_nil]; omega))) ?_
   rintro _ _ ⟨A25, q25, rfl, rfl⟩
   refine To.a (To.nil (To.blockN (To.thenN (To.reg ?_))))
   refine To.r (Rd.inc rfl rfl rfl (by omega)) ?_
   refine To.m (To.nil (To.thenN ?_))
   refine To.sub [(3, .slice A25 (O ++ [x]).length q25), (7, .slice A l.length ca), (8, .int .i64 ((l.length : Nat) : Int)), (9, .int .i64 (((i + 1) : Nat) : Int))] ⟨rfl, rfl, rfl, rfl, trivial⟩ ?_
   refine To.del1 ?_
   refine To.del0 ?_
   refine To.again (l.length - (i + 1)) (by omega) ⟨A25, q25, (O ++ [x]), i + 1, rfl, rfl, rfl, (by omega), (by rw [take_of_get hx, hO])⟩
  refine To.exit (To.thenX (To.thenX (To.blockX (To.thenN (To.seq (To.reg (To.m ?_)))))))
  refine To.a (To.nil (To.thenN (To.ret ?_)))
  refine To.del0 ?_
  refine To.end1 (.inl rfl) Tryz.results9 rfl ?_
  rw [show l.take i = l from List.take_of_length_le (by omega)] at hO
  exact ⟨_, _, by rw [hO], by rw [hO]⟩
end Go.Proofs.YtoehnbacbobhiaaGreatDoor
