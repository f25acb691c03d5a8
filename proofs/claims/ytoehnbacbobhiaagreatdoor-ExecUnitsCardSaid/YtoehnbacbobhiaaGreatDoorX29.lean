/- The machine uses its disk. Own text (walks printed by sx.py). -/
import Derived.Test.YtoehnbacbobhiaaGreatDoorL1
import Derived.Test.YtoehnbacbobhiaaGreatDoorX28
set_option linter.unusedVariables false
set_option linter.unusedSimpArgs false
namespace Go.Proofs.YtoehnbacbobhiaaGreatDoor
open Go.RowKit Go.Flow Go.Mem Go.Sep
set_option maxHeartbeats 2000000 in
set_option maxRecDepth 100000 in
theorem disk_fn (b : Nat) (s : Sm) (d : Dm) (x : Ins) (hop : ((x.op : Nat) : Int) = 32 ∨ ((x.op : Nat) : Int) = 33) (hf : Fit s x d.val) (ho : Okv s d.val) (hc : capsD d) :
    Does Tryz.prog 68 [.pointer (some ⟨b, 0, none⟩), .agg (Ins.cells x).toArray] [box b [.slice d.Av d.vars.length d.qv, .slice d.At d.tabs.length d.qt, .slice d.dk.A d.dk.l.length d.dk.q, .slice d.Ae d.effs.length d.qe, .int .i64 d.cost, .slice s.Ac s.code.length s.qc, .slice s.Aa s.args.length s.qa, .int .i64 s.now, .slice s.Ag s.flags.length s.qg, .int .i64 s.dsk, .slice s.Af s.fail.length s.qf, .slice d.As d.stack.length d.qs, .int .i64 d.next, .int .i64 d.sends, .int .i64 d.disks, .bool d.fault] 77, rows encI 2 1 d.Av d.qv d.vars, rows Tb.cells 40 1 d.At d.qt d.tabs, rosS encEn (d.tabs.map Tb.ar), ros encEn d.dk.A d.dk.l, rows Ef.cells 84 8 d.Ae d.qe d.effs, rosS encI (d.effs.map Ef.ar), rows encI 2 1 d.As d.qs d.stack, ros encI s.Af s.fail] (fun v Γ' => v = .tuple #[] ∧ ∃ d' : Dm, Γ' = [box b [.slice d'.Av d'.vars.length d'.qv, .slice d'.At d'.tabs.length d'.qt, .slice d'.dk.A d'.dk.l.length d'.dk.q, .slice d'.Ae d'.effs.length d'.qe, .int .i64 d'.cost, .slice s.Ac s.code.length s.qc, .slice s.Aa s.args.length s.qa, .int .i64 s.now, .slice s.Ag s.flags.length s.qg, .int .i64 s.dsk, .slice s.Af s.fail.length s.qf, .slice d'.As d'.stack.length d'.qs, .int .i64 d'.next, .int .i64 d'.sends, .int .i64 d'.disks, .bool d'.fault] 77, rows encI 2 1 d'.Av d'.qv d'.vars, rows Tb.cells 40 1 d'.At d'.qt d'.tabs, rosS encEn (d'.tabs.map Tb.ar), ros encEn d'.dk.A d'.dk.l, rows Ef.cells 84 8 d'.Ae d'.qe d'.effs, rosS encI (d'.effs.map Ef.ar), rows encI 2 1 d'.As d'.qs d'.stack] ∧ d'.val = diskV s x d.val ∧ capsD d') := by
  have hht : d.stack.length ≤ 4001 := hf.height
  have hpp : popsN x ≤ ((d.stack.length : Nat) : Int) := hf.pops
  have hpo := pops_of x
  have hvar : ((x.op : Nat) : Int) = 2 ∨ ((x.op : Nat) : Int) = 24 ∨ ((x.op : Nat) : Int) = 33 → 0 ≤ x.a ∧ x.a < ((d.vars.length : Nat) : Int) := hf.var
  have hdd : 0 ≤ d.disks ∧ d.disks ≤ 2000000 := ho.disks
  have hds : 0 ≤ s.dsk ∧ s.dsk ≤ 1000000000 := ho.dsk
  have hgd : Good d.dk.l := ho.disk
  have hgl := hgd.len
  have hel : d.effs.length ≤ 2000000 := by have : (d.effs.map Ef.val).length ≤ 2000000 := ho.effs; simpa using this
  refine Does.enter Tryz.func68 rfl Tryz.ntmps68 rfl (fun w0 => ?_)
  refine To.seq (To.reg ?_)
  refine To.boxed rfl rfl rfl rfl rfl rfl (fun b3 => ?_)
  refine To.nil (To.thenN (To.seq ?_))
  refine To.flow [] [⟨0, [], 0⟩, ⟨1, [], 0⟩, ⟨2, [], 0⟩, ⟨3, [], 0⟩, ⟨5, [], 0⟩, ⟨6, [], 0⟩, ⟨7, [], 0⟩, ⟨8, [], 0⟩, ⟨10, [], 0⟩, ⟨11, [], 0⟩, ⟨12, [], 0⟩, ⟨4, [], 1⟩, ⟨9, [], 1⟩, ⟨13, [], 1⟩, ⟨14, [], 0⟩, ⟨15, [], 3⟩, ⟨16, [], 0⟩, ⟨17, [], 0⟩, ⟨18, [], 0⟩, ⟨19, [], 0⟩, ⟨20, [], 0⟩] mixed (by kernel_rfl) (oks_nil _) ?_
  refine FlowS.mo ?_
  refine FlowS.f rfl (Rd.nilCheck rfl rfl) ?_
  refine FlowS.fi fl77_2 ?_
  refine FlowS.fi fl50_4 ?_
  refine FlowS.mo ?_
  refine FlowS.f rfl (Rd.nilCheck rfl rfl) ?_
  refine FlowS.fi fl77_2 ?_
  refine FlowS.fi fl50_3 ?_
  refine FlowS.mo ?_
  refine FlowS.f rfl (Rd.nilCheck rfl rfl) ?_
  refine FlowS.fi fl77_6 ?_
  refine FlowS.lo 1 c48 ?_
  refine FlowS.lo 1 c3 ?_
  refine FlowS.lo 1 c3 ?_
  refine FlowS.f rfl (Rd.add64 rfl rfl rfl (by omega)) ?_
  refine FlowS.callQ rfl rfl rfl rfl (Ent.fn rfl rfl ca85) (bs_fn s.Af s.qf s.fail (s.dsk + d.disks) ho.fail ho.asc) rfl (oks_cons (oks_at 9 rfl) (oks_nil _)) ?_
  refine FlowS.mo ?_
  refine FlowS.f rfl (Rd.extract rfl rfl rfl) ?_
  refine FlowS.f rfl (Rd.extract rfl rfl rfl) ?_
  refine FlowS.f rfl (Rd.assign rfl rfl) ?_
  refine FlowS.f rfl (Rd.assign rfl rfl) ?_
  refine FlowS.fin ?_
  refine To.thenN (To.seq (To.reg (To.m ?_)))
  refine To.r (Rd.nilCheck rfl rfl) ?_
  refine To.f fl77_6 ?_
  refine To.lo 1 c3 ?_
  refine To.r (Rd.add64 rfl rfl rfl (by omega)) ?_
  refine To.r (Rd.nilCheck rfl rfl) ?_
  refine To.f fl77_6 ?_
  refine To.u (Up.store (i := 1) rfl rfl rfl c3 rfl rfl (box_takes1 rfl)) ?_
  refine To.nil (To.thenN (To.seq (To.reg (To.m ?_))))
  refine To.r (Rd.build (vs := [(0, .int .u8 4), (6, .bool (decide (s.dsk + d.disks ∈ s.fail)))]) (cells := [.int .u8 4, .int .i64 0, .int .i64 0, .int .i64 0, .int .i64 0, .int .i64 0, .bool (decide (s.dsk + d.disks ∈ s.fail)), .slice none 0 0]) rfl rfl rfl (by kernel_rfl)) ?_
  refine To.alloc rfl rfl rfl rfl z84 (fun b6 => ?_)
  refine To.u (Up.storeS (i := 0) rfl rfl rfl r84 rfl rfl rfl (box_takesAll rfl)) ?_
  refine To.nil (To.thenN (To.seq (To.seq (To.reg ?_))))
  refine To.f fl36_0 ?_
  refine To.lo 1 c34 ?_
  refine To.r (Rd.eql rfl rfl rfl) ?_
  refine To.nil (To.thenN ?_)
  refine To.condP rfl (fun k37 => ?_) (fun k37 => ?_)
  ·
   refine To.reg (To.m ?_)
   refine To.call [2, 8] rfl rfl rfl (Ent.fn rfl rfl ca66) rfl (pop_fn b s (⟨d.Av, d.qv, d.vars, d.At, d.qt, d.tabs, ⟨d.dk.A, d.dk.q, d.dk.l⟩, d.Ae, d.qe, d.effs, d.cost, d.As, d.qs, d.stack, d.next, d.sends, d.disks + 1, d.fault⟩ : Dm) (by first | omega | (simp only [List.length_append, List.length_dropLast, List.length_cons, List.length_nil]; omega))) ?_
   rintro _ _ ⟨rfl, rfl⟩
   refine To.f fl84_0 ?_
   refine To.u (Up.store (i := 2) rfl rfl rfl c82 rfl rfl (box_takes1 rfl)) ?_
   refine To.f fl84_5 ?_
   refine To.u (Up.store (i := 2) rfl rfl rfl c2 rfl rfl (box_takes1 rfl)) ?_
   refine To.nil (To.thenN (To.seq (To.reg (To.m ?_))))
   refine To.call [0, 0] rfl rfl rfl (Ent.fn rfl rfl ca66) rfl (pop_fn b s (⟨d.Av, d.qv, d.vars, d.At, d.qt, d.tabs, ⟨d.dk.A, d.dk.q, d.dk.l⟩, d.Ae, d.qe, d.effs, d.cost, d.As, d.qs, (d.stack.dropLast), d.next, d.sends, d.disks + 1, d.fault⟩ : Dm) (by first | omega | (simp only [List.length_append, List.length_dropLast, List.length_cons, List.length_nil]; omega))) ?_
   rintro _ _ ⟨rfl, rfl⟩
   refine To.f fl84_4 ?_
   refine To.u (Up.store (i := 2) rfl rfl rfl c2 rfl rfl (box_takes1 rfl)) ?_
   refine To.nil (To.thenN (To.seq (To.block (To.seq (To.reg (To.m ?_))))))
   refine To.a (To.nil (To.thenN ?_))
   refine To.cond rfl (fun k69 => ?_) (fun k69 => ?_)
   ·
    refine To.reg (To.m ?_)
    refine To.f fl36_2 ?_
    refine To.lo 3 c3 ?_
    refine To.r (Rd.nilCheck rfl rfl) ?_
    refine To.f fl77_4 ?_
    refine To.u (Up.store (i := 0) rfl rfl rfl c3 rfl rfl (box_takes1 rfl)) ?_
    refine To.nil (To.blockN (To.thenN ?_))
    refine To.free (c := ros encI none []) rfl rfl (fun w => .inl rfl) ?_
    refine To.flow [] [⟨0, [], 0⟩, ⟨1, [], 0⟩, ⟨2, [], 0⟩, ⟨3, [], 0⟩, ⟨4, [], 0⟩, ⟨5, [], 1⟩, ⟨6, [], 1⟩, ⟨7, [], 2⟩, ⟨8, [7], 5⟩, ⟨9, [], 0⟩, ⟨10, [], 0⟩, ⟨11, [], 0⟩, ⟨12, [], 5⟩] mixed (by kernel_rfl) (oks_nil _) ?_
    refine FlowS.mo ?_
    refine FlowS.mo ?_
    refine FlowS.f rfl (Rd.nilCheck rfl rfl) ?_
    refine FlowS.fi fl77_0 ?_
    refine FlowS.fi fl56_1 ?_
    refine FlowS.lo 1 c54 ?_
    refine FlowS.r rfl (Rd.loadS (i := 3) rfl rfl r84 rfl box_whole rfl) ?_
    refine FlowS.mk rfl rfl rfl rfl rfl (Mk.sliceN (us := [.int .u8 3, .int .i64 0, .int .i64 0, .int .i64 0, .int .i64 ((d.stack.dropLast).getLastD 0), .int .i64 (d.stack.getLastD 0), .bool (decide (s.dsk + d.disks ∈ s.fail)), .slice none 0 0]) rfl s54 rfl rfl rfl rfl rfl rfl) ?_
    rintro _ _ ⟨b97, rfl, rfl⟩
    refine FlowS.ge rfl rfl rfl rfl (Ge.append1 encEf (i := 10) (j := 0) (el := (⟨3, 0, 0, 0, (d.stack.dropLast).getLastD 0, d.stack.getLastD 0, (decide (s.dsk + d.disks ∈ s.fail)), none, 0, ([] : List Int)⟩ : Ef)) rfl s54 rfl rfl rfl rfl rfl (by first | omega | (simp only [List.length_append, List.length_cons, List.length_nil]; omega)) (by first | omega | (simp only [List.length_append, List.length_cons, List.length_nil]; omega))) ?_
    rintro _ _ ⟨A98, q98, rfl, rfl⟩
    refine ⟨oks_nil _, ?_⟩
    refine FlowS.f rfl (Rd.nilCheck rfl rfl) ?_
    refine FlowS.fi fl77_0 ?_
    refine FlowS.fi fl56_1 ?_
    refine FlowS.up rfl rfl rfl (Up.store (i := 2) rfl rfl rfl c54 rfl rfl (box_takes1 rfl)) (oks_nil _) ?_
    refine FlowS.fin ?_
    refine To.famS ((d.effs ++ [(⟨3, 0, 0, 0, (d.stack.dropLast).getLastD 0, d.stack.getLastD 0, (decide (s.dsk + d.disks ∈ s.fail)), none, 0, ([] : List Int)⟩ : Ef)]).map Ef.ar) 11 rfl (famE_snoc (List.mem_of_getElem? (i := 1) rfl)) ?_
    refine To.del13 ?_
    refine To.del12 ?_
    refine To.del6 ?_
    refine To.del5 ?_
    refine To.del2 ?_
    refine To.del1 ?_
    refine To.up7 ?_
    refine To.up7 ?_
    refine To.up7 ?_
    refine To.up7 ?_
    refine To.up7 ?_
    refine To.up6 ?_
    refine To.end0 (.inr rfl) Tryz.results68 ?_
    have hb : decide (s.dsk + d.val.disks ∈ s.fail) = true := k69
    have hm : s.dsk + d.disks ∈ s.fail := of_decide_eq_true k69
    exact ⟨rfl, (⟨d.Av, d.qv, d.vars, d.At, d.qt, d.tabs, ⟨d.dk.A, d.dk.q, d.dk.l⟩, A98, q98, (d.effs ++ [(⟨3, 0, 0, 0, (d.stack.dropLast).getLastD 0, d.stack.getLastD 0, (decide (s.dsk + d.disks ∈ s.fail)), none, 0, ([] : List Int)⟩ : Ef)]), d.cost, d.As, d.qs, ((d.stack.dropLast).dropLast), x.b, d.sends, d.disks + 1, d.fault⟩ : Dm), rfl, by unfold diskV; simp only []; rw [if_pos (show ((x.op : Nat) : Int) = 32 from k37), hb]; simp [Dm.val, Ef.val, hm], hc⟩
   refine To.seq (To.reg ?_)
   refine To.f fl36_0 ?_
   refine To.lo 3 c34 ?_
   refine To.r (Rd.eql rfl rfl rfl) ?_
   refine To.a (To.nil (To.thenN ?_))
   refine To.condT (congrArg (fun b => some (Value.bool b)) (decide_eq_true k37)) ?_
   refine To.flow [] [⟨0, [], 0⟩, ⟨1, [], 0⟩, ⟨2, [], 0⟩, ⟨3, [], 0⟩, ⟨4, [], 0⟩, ⟨5, [], 0⟩, ⟨7, [], 0⟩, ⟨6, [], 1⟩, ⟨8, [], 1⟩, ⟨9, [], 5⟩] mixed (by kernel_rfl) (oks_nil _) ?_
   refine FlowS.mo ?_
   refine FlowS.f rfl (Rd.nilCheck rfl rfl) ?_
   refine FlowS.fi fl77_0 ?_
   refine FlowS.fi fl56_0 ?_
   refine FlowS.fi fl42_2 ?_
   refine FlowS.fi fl84_4 ?_
   refine FlowS.fi fl84_5 ?_
   refine FlowS.lo 2 c2 ?_
   refine FlowS.lo 2 c2 ?_
   refine FlowS.call [0, 6] rfl rfl rfl rfl (Ent.fn rfl rfl ca86) rfl (putB_fn b s (⟨d.Av, d.qv, d.vars, d.At, d.qt, d.tabs, ⟨d.dk.A, d.dk.q, d.dk.l⟩, d.Ae, d.qe, d.effs, d.cost, d.As, d.qs, ((d.stack.dropLast).dropLast), d.next, d.sends, d.disks + 1, d.fault⟩ : Dm) ((d.stack.dropLast).getLastD 0) (d.stack.getLastD 0) hgd hc.2) ?_
   rintro _ _ ⟨rfl, t, rfl, ht, htq⟩
   refine ⟨oks_nil _, ?_⟩
   refine FlowS.fin ?_
   refine To.blockN (To.thenN ?_)
   refine To.free (c := ros encI none []) rfl rfl (fun w => .inl rfl) ?_
   refine To.flow [] [⟨0, [], 0⟩, ⟨1, [], 0⟩, ⟨2, [], 0⟩, ⟨3, [], 0⟩, ⟨4, [], 0⟩, ⟨5, [], 1⟩, ⟨6, [], 1⟩, ⟨7, [], 2⟩, ⟨8, [7], 5⟩, ⟨9, [], 0⟩, ⟨10, [], 0⟩, ⟨11, [], 0⟩, ⟨12, [], 5⟩] mixed (by kernel_rfl) (oks_nil _) ?_
   refine FlowS.mo ?_
   refine FlowS.mo ?_
   refine FlowS.f rfl (Rd.nilCheck rfl rfl) ?_
   refine FlowS.fi fl77_0 ?_
   refine FlowS.fi fl56_1 ?_
   refine FlowS.lo 1 c54 ?_
   refine FlowS.r rfl (Rd.loadS (i := 4) rfl rfl r84 rfl box_whole rfl) ?_
   refine FlowS.mk rfl rfl rfl rfl rfl (Mk.sliceN (us := [.int .u8 3, .int .i64 0, .int .i64 0, .int .i64 0, .int .i64 ((d.stack.dropLast).getLastD 0), .int .i64 (d.stack.getLastD 0), .bool (decide (s.dsk + d.disks ∈ s.fail)), .slice none 0 0]) rfl s54 rfl rfl rfl rfl rfl rfl) ?_
   rintro _ _ ⟨b97_2, rfl, rfl⟩
   refine FlowS.ge rfl rfl rfl rfl (Ge.append1 encEf (i := 10) (j := 0) (el := (⟨3, 0, 0, 0, (d.stack.dropLast).getLastD 0, d.stack.getLastD 0, (decide (s.dsk + d.disks ∈ s.fail)), none, 0, ([] : List Int)⟩ : Ef)) rfl s54 rfl rfl rfl rfl rfl (by first | omega | (simp only [List.length_append, List.length_cons, List.length_nil]; omega)) (by first | omega | (simp only [List.length_append, List.length_cons, List.length_nil]; omega))) ?_
   rintro _ _ ⟨A98_2, q98_2, rfl, rfl⟩
   refine ⟨oks_nil _, ?_⟩
   refine FlowS.f rfl (Rd.nilCheck rfl rfl) ?_
   refine FlowS.fi fl77_0 ?_
   refine FlowS.fi fl56_1 ?_
   refine FlowS.up rfl rfl rfl (Up.store (i := 2) rfl rfl rfl c54 rfl rfl (box_takes1 rfl)) (oks_nil _) ?_
   refine FlowS.fin ?_
   refine To.sub [(0, .pointer (some ⟨b, 0, none⟩)), (1, .agg (Ins.cells x).toArray), (3, .pointer (some ⟨b3, 0, none⟩)), (5, .bool (decide (s.dsk + d.disks ∈ s.fail))), (6, .pointer (some ⟨b6, 0, none⟩)), (37, .bool (decide (((x.op : Nat) : Int) = 32))), (69, .bool (decide (s.dsk + d.disks ∈ s.fail))), (76, .bool (decide (((x.op : Nat) : Int) = 32)))] ⟨rfl, rfl, rfl, rfl, rfl, rfl, rfl, rfl, trivial⟩ ?_
   refine To.famS ((d.effs ++ [(⟨3, 0, 0, 0, (d.stack.dropLast).getLastD 0, d.stack.getLastD 0, (decide (s.dsk + d.disks ∈ s.fail)), none, 0, ([] : List Int)⟩ : Ef)]).map Ef.ar) 11 rfl (famE_snoc (List.mem_of_getElem? (i := 1) rfl)) ?_
   refine To.del13 ?_
   refine To.del12 ?_
   refine To.del7 ?_
   refine To.del6 ?_
   refine To.del2 ?_
   refine To.del1 ?_
   refine To.up7 ?_
   refine To.up3 ?_
   refine To.up7 ?_
   refine To.up7 ?_
   refine To.up7 ?_
   refine To.up6 ?_
   refine To.end0 (.inr rfl) Tryz.results68 ?_
   have hb : decide (s.dsk + d.val.disks ∈ s.fail) = false := k69
   have hm : ¬ s.dsk + d.disks ∈ s.fail := of_decide_eq_false k69
   exact ⟨rfl, (⟨d.Av, d.qv, d.vars, d.At, d.qt, d.tabs, ⟨t.A, t.q, t.l⟩, A98_2, q98_2, (d.effs ++ [(⟨3, 0, 0, 0, (d.stack.dropLast).getLastD 0, d.stack.getLastD 0, (decide (s.dsk + d.disks ∈ s.fail)), none, 0, ([] : List Int)⟩ : Ef)]), d.cost, d.As, d.qs, ((d.stack.dropLast).dropLast), d.next, d.sends, d.disks + 1, d.fault⟩ : Dm), rfl, by unfold diskV; simp only []; rw [if_pos (show ((x.op : Nat) : Int) = 32 from k37), hb]; simp [Dm.val, Ef.val, hm, ht], ⟨hc.1, htq⟩⟩
  refine To.skip (To.thenN (To.seq (To.reg (To.m ?_))))
  refine To.call [2, 8] rfl rfl rfl (Ent.fn rfl rfl ca66) rfl (pop_fn b s (⟨d.Av, d.qv, d.vars, d.At, d.qt, d.tabs, ⟨d.dk.A, d.dk.q, d.dk.l⟩, d.Ae, d.qe, d.effs, d.cost, d.As, d.qs, d.stack, d.next, d.sends, d.disks + 1, d.fault⟩ : Dm) (by first | omega | (simp only [List.length_append, List.length_dropLast, List.length_cons, List.length_nil]; omega))) ?_
  rintro _ _ ⟨rfl, rfl⟩
  refine To.f fl84_4 ?_
  refine To.u (Up.store (i := 2) rfl rfl rfl c2 rfl rfl (box_takes1 rfl)) ?_
  refine To.nil (To.thenN (To.seq (To.block (To.seq (To.reg (To.m ?_))))))
  refine To.a (To.nil (To.thenN ?_))
  refine To.cond rfl (fun k69 => ?_) (fun k69 => ?_)
  ·
   refine To.reg (To.m ?_)
   refine To.f fl36_2 ?_
   refine To.lo 3 c3 ?_
   refine To.r (Rd.nilCheck rfl rfl) ?_
   refine To.f fl77_4 ?_
   refine To.u (Up.store (i := 0) rfl rfl rfl c3 rfl rfl (box_takes1 rfl)) ?_
   refine To.nil (To.blockN (To.thenN ?_))
   refine To.free (c := ros encI none []) rfl rfl (fun w => .inl rfl) ?_
   refine To.flow [] [⟨0, [], 0⟩, ⟨1, [], 0⟩, ⟨2, [], 0⟩, ⟨3, [], 0⟩, ⟨4, [], 0⟩, ⟨5, [], 1⟩, ⟨6, [], 1⟩, ⟨7, [], 2⟩, ⟨8, [7], 5⟩, ⟨9, [], 0⟩, ⟨10, [], 0⟩, ⟨11, [], 0⟩, ⟨12, [], 5⟩] mixed (by kernel_rfl) (oks_nil _) ?_
   refine FlowS.mo ?_
   refine FlowS.mo ?_
   refine FlowS.f rfl (Rd.nilCheck rfl rfl) ?_
   refine FlowS.fi fl77_0 ?_
   refine FlowS.fi fl56_1 ?_
   refine FlowS.lo 1 c54 ?_
   refine FlowS.r rfl (Rd.loadS (i := 3) rfl rfl r84 rfl box_whole rfl) ?_
   refine FlowS.mk rfl rfl rfl rfl rfl (Mk.sliceN (us := [.int .u8 4, .int .i64 0, .int .i64 0, .int .i64 0, .int .i64 (d.stack.getLastD 0), .int .i64 0, .bool (decide (s.dsk + d.disks ∈ s.fail)), .slice none 0 0]) rfl s54 rfl rfl rfl rfl rfl rfl) ?_
   rintro _ _ ⟨b97_3, rfl, rfl⟩
   refine FlowS.ge rfl rfl rfl rfl (Ge.append1 encEf (i := 10) (j := 0) (el := (⟨4, 0, 0, 0, d.stack.getLastD 0, 0, (decide (s.dsk + d.disks ∈ s.fail)), none, 0, ([] : List Int)⟩ : Ef)) rfl s54 rfl rfl rfl rfl rfl (by first | omega | (simp only [List.length_append, List.length_cons, List.length_nil]; omega)) (by first | omega | (simp only [List.length_append, List.length_cons, List.length_nil]; omega))) ?_
   rintro _ _ ⟨A98_3, q98_3, rfl, rfl⟩
   refine ⟨oks_nil _, ?_⟩
   refine FlowS.f rfl (Rd.nilCheck rfl rfl) ?_
   refine FlowS.fi fl77_0 ?_
   refine FlowS.fi fl56_1 ?_
   refine FlowS.up rfl rfl rfl (Up.store (i := 2) rfl rfl rfl c54 rfl rfl (box_takes1 rfl)) (oks_nil _) ?_
   refine FlowS.fin ?_
   refine To.famS ((d.effs ++ [(⟨4, 0, 0, 0, d.stack.getLastD 0, 0, (decide (s.dsk + d.disks ∈ s.fail)), none, 0, ([] : List Int)⟩ : Ef)]).map Ef.ar) 11 rfl (famE_snoc (List.mem_of_getElem? (i := 1) rfl)) ?_
   refine To.del13 ?_
   refine To.del12 ?_
   refine To.del6 ?_
   refine To.del5 ?_
   refine To.del2 ?_
   refine To.del1 ?_
   refine To.up7 ?_
   refine To.up7 ?_
   refine To.up7 ?_
   refine To.up7 ?_
   refine To.up7 ?_
   refine To.up6 ?_
   refine To.end0 (.inr rfl) Tryz.results68 ?_
   have hb : decide (s.dsk + d.val.disks ∈ s.fail) = true := k69
   have hm : s.dsk + d.disks ∈ s.fail := of_decide_eq_true k69
   exact ⟨rfl, (⟨d.Av, d.qv, d.vars, d.At, d.qt, d.tabs, ⟨d.dk.A, d.dk.q, d.dk.l⟩, A98_3, q98_3, (d.effs ++ [(⟨4, 0, 0, 0, d.stack.getLastD 0, 0, (decide (s.dsk + d.disks ∈ s.fail)), none, 0, ([] : List Int)⟩ : Ef)]), d.cost, d.As, d.qs, (d.stack.dropLast), x.b, d.sends, d.disks + 1, d.fault⟩ : Dm), rfl, by unfold diskV; simp only []; rw [if_neg (show ¬ ((x.op : Nat) : Int) = 32 from k37), hb]; simp [Dm.val, Ef.val, hm], hc⟩
  refine To.seq (To.reg ?_)
  refine To.f fl36_0 ?_
  refine To.lo 3 c34 ?_
  refine To.r (Rd.eql rfl rfl rfl) ?_
  refine To.a (To.nil (To.thenN ?_))
  refine To.condF (congrArg (fun b => some (Value.bool b)) (decide_eq_false k37)) ?_
  refine To.seq ?_
  refine To.flow [] [⟨0, [], 0⟩, ⟨1, [], 0⟩, ⟨2, [], 0⟩, ⟨3, [], 0⟩, ⟨4, [], 0⟩, ⟨6, [], 0⟩, ⟨5, [], 1⟩, ⟨7, [], 1⟩, ⟨8, [], 3⟩, ⟨9, [], 0⟩, ⟨10, [], 0⟩, ⟨11, [], 0⟩, ⟨12, [], 0⟩, ⟨13, [], 5⟩] mixed (by kernel_rfl) (oks_nil _) ?_
  refine FlowS.mo ?_
  refine FlowS.f rfl (Rd.nilCheck rfl rfl) ?_
  refine FlowS.fi fl77_0 ?_
  refine FlowS.fi fl56_0 ?_
  refine FlowS.fi fl42_2 ?_
  refine FlowS.fi fl84_4 ?_
  refine FlowS.r rfl (Rd.loadS (i := 0) (us := [.slice d.dk.A d.dk.l.length d.dk.q]) rfl rfl r40 rfl (box_gives (n := 1) rfl) rfl) ?_
  refine FlowS.lo 2 c2 ?_
  refine FlowS.callQ rfl rfl rfl rfl (Ent.fn rfl rfl ca87) (tget_fn d.dk.A d.dk.q d.dk.l (d.stack.getLastD 0) (by omega) hgd.asc) rfl (oks_cons (oks_at 7 rfl) (oks_nil _)) ?_
  refine FlowS.mo ?_
  refine FlowS.f rfl (Rd.extract rfl rfl rfl) ?_
  refine FlowS.f rfl (Rd.extract rfl rfl rfl) ?_
  refine FlowS.fi fl84_5 ?_
  refine FlowS.up rfl rfl rfl (Up.store (i := 2) rfl rfl rfl c2 rfl rfl (box_takes1 rfl)) (oks_nil _) ?_
  refine FlowS.fin ?_
  refine To.thenN ?_
  obtain ⟨ka, hka⟩ : ∃ ka : Nat, x.a = ((ka : Nat) : Int) := ⟨x.a.toNat, by have := hvar (by omega); omega⟩
  have hkl : ka < d.vars.length := by have := hvar (by omega); omega
  obtain ⟨y, hel2⟩ : ∃ z0, d.vars[ka]? = some z0 := ⟨d.vars[ka]'(by omega), List.getElem?_eq_getElem _⟩
  refine To.flow [] [⟨0, [], 0⟩, ⟨1, [], 0⟩, ⟨2, [], 0⟩, ⟨3, [], 0⟩, ⟨4, [], 0⟩, ⟨6, [], 0⟩, ⟨8, [], 0⟩, ⟨5, [], 1⟩, ⟨7, [], 1⟩, ⟨9, [], 1⟩, ⟨10, [], 1⟩, ⟨11, [], 5⟩] mixed (by kernel_rfl) (oks_nil _) ?_
  refine FlowS.mo ?_
  refine FlowS.f rfl (Rd.nilCheck rfl rfl) ?_
  refine FlowS.fi fl77_0 ?_
  refine FlowS.fi fl56_0 ?_
  refine FlowS.fi fl42_0 ?_
  refine FlowS.fi fl36_1 ?_
  refine FlowS.fi fl84_5 ?_
  refine FlowS.lo 0 c24 ?_
  refine FlowS.lo 3 c3 ?_
  refine FlowS.lo 2 c2 ?_
  refine FlowS.r rfl (Rd.indexRowsI (i := 4) (j := ka) rfl rfl rfl hka s24 rfl hel2) ?_
  refine FlowS.up rfl rfl rfl (Up.store (i := 4) rfl rfl rfl c2 rfl rfl (rows_takes encI_ok (y := ((getT d.dk.l (d.stack.getLastD 0)).getD 0)) (by decide) (by omega))) (oks_nil _) ?_
  refine FlowS.fin ?_
  refine To.sub [(0, .pointer (some ⟨b, 0, none⟩)), (1, .agg (Ins.cells x).toArray), (3, .pointer (some ⟨b3, 0, none⟩)), (5, .bool (decide (s.dsk + d.disks ∈ s.fail))), (6, .pointer (some ⟨b6, 0, none⟩)), (37, .bool (decide (((x.op : Nat) : Int) = 32))), (69, .bool (decide (s.dsk + d.disks ∈ s.fail))), (76, .bool (decide (((x.op : Nat) : Int) = 32)))] ⟨rfl, rfl, rfl, rfl, rfl, rfl, rfl, rfl, trivial⟩ ?_
  refine To.blockN (To.thenN ?_)
  refine To.free (c := ros encI none []) rfl rfl (fun w => .inl rfl) ?_
  refine To.flow [] [⟨0, [], 0⟩, ⟨1, [], 0⟩, ⟨2, [], 0⟩, ⟨3, [], 0⟩, ⟨4, [], 0⟩, ⟨5, [], 1⟩, ⟨6, [], 1⟩, ⟨7, [], 2⟩, ⟨8, [7], 5⟩, ⟨9, [], 0⟩, ⟨10, [], 0⟩, ⟨11, [], 0⟩, ⟨12, [], 5⟩] mixed (by kernel_rfl) (oks_nil _) ?_
  refine FlowS.mo ?_
  refine FlowS.mo ?_
  refine FlowS.f rfl (Rd.nilCheck rfl rfl) ?_
  refine FlowS.fi fl77_0 ?_
  refine FlowS.fi fl56_1 ?_
  refine FlowS.lo 1 c54 ?_
  refine FlowS.r rfl (Rd.loadS (i := 3) rfl rfl r84 rfl box_whole rfl) ?_
  refine FlowS.mk rfl rfl rfl rfl rfl (Mk.sliceN (us := [.int .u8 4, .int .i64 0, .int .i64 0, .int .i64 0, .int .i64 (d.stack.getLastD 0), .int .i64 ((getT d.dk.l (d.stack.getLastD 0)).getD 0), .bool (decide (s.dsk + d.disks ∈ s.fail)), .slice none 0 0]) rfl s54 rfl rfl rfl rfl rfl rfl) ?_
  rintro _ _ ⟨b97_4, rfl, rfl⟩
  refine FlowS.ge rfl rfl rfl rfl (Ge.append1 encEf (i := 10) (j := 0) (el := (⟨4, 0, 0, 0, d.stack.getLastD 0, (getT d.dk.l (d.stack.getLastD 0)).getD 0, (decide (s.dsk + d.disks ∈ s.fail)), none, 0, ([] : List Int)⟩ : Ef)) rfl s54 rfl rfl rfl rfl rfl (by first | omega | (simp only [List.length_append, List.length_cons, List.length_nil]; omega)) (by first | omega | (simp only [List.length_append, List.length_cons, List.length_nil]; omega))) ?_
  rintro _ _ ⟨A98_4, q98_4, rfl, rfl⟩
  refine ⟨oks_nil _, ?_⟩
  refine FlowS.f rfl (Rd.nilCheck rfl rfl) ?_
  refine FlowS.fi fl77_0 ?_
  refine FlowS.fi fl56_1 ?_
  refine FlowS.up rfl rfl rfl (Up.store (i := 2) rfl rfl rfl c54 rfl rfl (box_takes1 rfl)) (oks_nil _) ?_
  refine FlowS.fin ?_
  refine To.as [row 84 8 (some ⟨b97_4, 0, none⟩) 1 1 [.int .u8 4, .int .i64 0, .int .i64 0, .int .i64 0, .int .i64 (d.stack.getLastD 0), .int .i64 ((getT d.dk.l (d.stack.getLastD 0)).getD 0), .bool (decide (s.dsk + d.disks ∈ s.fail)), .slice none 0 0], ros encI none ([] : List Int), box b [.slice d.Av ((d.vars.set ka ((getT d.dk.l (d.stack.getLastD 0)).getD 0)).length) d.qv, .slice d.At d.tabs.length d.qt, .slice d.dk.A d.dk.l.length d.dk.q, .slice A98_4 ((d.effs ++ [(⟨4, 0, 0, 0, d.stack.getLastD 0, (getT d.dk.l (d.stack.getLastD 0)).getD 0, (decide (s.dsk + d.disks ∈ s.fail)), none, 0, ([] : List Int)⟩ : Ef)]).length) q98_4, .int .i64 d.cost, .slice s.Ac s.code.length s.qc, .slice s.Aa s.args.length s.qa, .int .i64 s.now, .slice s.Ag s.flags.length s.qg, .int .i64 s.dsk, .slice s.Af s.fail.length s.qf, .slice d.As ((d.stack.dropLast).length) d.qs, .int .i64 d.next, .int .i64 d.sends, .int .i64 (d.disks + 1), .bool d.fault] 77, rows encI 2 1 d.As d.qs (d.stack.dropLast), box b6 [.int .u8 4, .int .i64 0, .int .i64 0, .int .i64 0, .int .i64 (d.stack.getLastD 0), .int .i64 ((getT d.dk.l (d.stack.getLastD 0)).getD 0), .bool (decide (s.dsk + d.disks ∈ s.fail)), .slice none 0 0] 84, box b3 [.int .u8 ((x.op : Nat) : Int), .int .i64 x.a, .int .i64 x.b, .int .i64 x.n] 36, rows encI 2 1 d.Av d.qv (d.vars.set ka ((getT d.dk.l (d.stack.getLastD 0)).getD 0)), rows Tb.cells 40 1 d.At d.qt d.tabs, rosS encEn (d.tabs.map Tb.ar), ros encEn d.dk.A d.dk.l, rows Ef.cells 84 8 A98_4 q98_4 (d.effs ++ [(⟨4, 0, 0, 0, d.stack.getLastD 0, (getT d.dk.l (d.stack.getLastD 0)).getD 0, (decide (s.dsk + d.disks ∈ s.fail)), none, 0, ([] : List Int)⟩ : Ef)]), rosS encI (d.effs.map Ef.ar), ros encI s.Af s.fail] (by rw [List.length_set] <;> rfl) ?_
  refine To.famS ((d.effs ++ [(⟨4, 0, 0, 0, d.stack.getLastD 0, (getT d.dk.l (d.stack.getLastD 0)).getD 0, (decide (s.dsk + d.disks ∈ s.fail)), none, 0, ([] : List Int)⟩ : Ef)]).map Ef.ar) 11 rfl (famE_snoc (List.mem_of_getElem? (i := 1) rfl)) ?_
  refine To.del13 ?_
  refine To.del12 ?_
  refine To.del6 ?_
  refine To.del5 ?_
  refine To.del2 ?_
  refine To.del1 ?_
  refine To.up7 ?_
  refine To.up7 ?_
  refine To.up7 ?_
  refine To.up7 ?_
  refine To.up7 ?_
  refine To.up6 ?_
  refine To.end0 (.inr rfl) Tryz.results68 ?_
  have hb : decide (s.dsk + d.val.disks ∈ s.fail) = false := k69
  have hm : ¬ s.dsk + d.disks ∈ s.fail := of_decide_eq_false k69
  exact ⟨rfl, (⟨d.Av, d.qv, (d.vars.set ka ((getT d.dk.l (d.stack.getLastD 0)).getD 0)), d.At, d.qt, d.tabs, ⟨d.dk.A, d.dk.q, d.dk.l⟩, A98_4, q98_4, (d.effs ++ [(⟨4, 0, 0, 0, d.stack.getLastD 0, (getT d.dk.l (d.stack.getLastD 0)).getD 0, (decide (s.dsk + d.disks ∈ s.fail)), none, 0, ([] : List Int)⟩ : Ef)]), d.cost, d.As, d.qs, (d.stack.dropLast), d.next, d.sends, d.disks + 1, d.fault⟩ : Dm), rfl, by unfold diskV; simp only []; rw [if_neg (show ¬ ((x.op : Nat) : Int) = 32 from k37), hb]; simp [Dm.val, Ef.val, hm, hka], hc⟩
end Go.Proofs.YtoehnbacbobhiaaGreatDoor
