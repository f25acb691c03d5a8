/- A step of the reference. Own text (walks printed by sx.py). -/
import Derived.Test.YtoehnbacbobhiaaGreatDoorL1
import Derived.Test.YtoehnbacbobhiaaGreatDoorX38
import Derived.Test.YtoehnbacbobhiaaGreatDoorL3
import Derived.Test.YtoehnbacbobhiaaGreatDoorX30
set_option linter.unusedVariables false
set_option linter.unusedSimpArgs false
namespace Go.Proofs.YtoehnbacbobhiaaGreatDoor
open Go.RowKit Go.Flow Go.Mem Go.Sep
set_option maxHeartbeats 2000000 in
set_option maxRecDepth 100000 in
theorem sentR_fn (b : Nat) (s : Sm) (d : Dm) (e : Ef) (hel : d.effs.length ≤ 4000000) (hs : 0 ≤ d.sends ∧ d.sends ≤ 8) :
    Does Tryz.prog 47 [.pointer (some ⟨b, 0, none⟩), .agg #[.int .i64 e.k, .int .i64 e.to, .int .i64 e.h, .int .i64 e.d, .int .i64 e.key, .int .i64 e.v, .bool e.f, .slice e.A e.args.length e.q]] [box b [.slice s.Aa s.args.length s.qa, .int .i64 s.now, .slice s.Ag s.flags.length s.qg, .int .i64 s.dsk, .slice s.Af s.fail.length s.qf, .slice d.Av d.vars.length d.qv, .slice d.At d.tabs.length d.qt, .slice d.dk.A d.dk.l.length d.dk.q, .slice d.Ae d.effs.length d.qe, .int .i64 d.cost, .slice d.As d.stack.length d.qs, .int .i64 d.disks, .int .i64 d.sends, .bool d.fault, .string ByteArray.empty, .slice none 0 0, .slice none 0 0, .string ByteArray.empty, .slice none 0 0, .slice none 0 0, .slice none 0 0, .int .i64 0] 106, rows encI 2 1 d.Av d.qv d.vars, rows Tb.cells 44 1 d.At d.qt d.tabs, rosS encEn (d.tabs.map Tb.ar), ros encEn d.dk.A d.dk.l, rows Ef.rcells 92 8 d.Ae d.qe d.effs, rosS encI (d.effs.map Ef.ar), rows encI 2 1 d.As d.qs d.stack, rows encI 2 1 e.A e.q e.args] (fun r Γ' => r = .tuple #[] ∧ ∃ d' : Dm, Γ' = [box b [.slice s.Aa s.args.length s.qa, .int .i64 s.now, .slice s.Ag s.flags.length s.qg, .int .i64 s.dsk, .slice s.Af s.fail.length s.qf, .slice d'.Av d'.vars.length d'.qv, .slice d'.At d'.tabs.length d'.qt, .slice d'.dk.A d'.dk.l.length d'.dk.q, .slice d'.Ae d'.effs.length d'.qe, .int .i64 d'.cost, .slice d'.As d'.stack.length d'.qs, .int .i64 d'.disks, .int .i64 d'.sends, .bool d'.fault, .string ByteArray.empty, .slice none 0 0, .slice none 0 0, .string ByteArray.empty, .slice none 0 0, .slice none 0 0, .slice none 0 0, .int .i64 0] 106, rows encI 2 1 d'.Av d'.qv d'.vars, rows Tb.cells 44 1 d'.At d'.qt d'.tabs, rosS encEn (d'.tabs.map Tb.ar), ros encEn d'.dk.A d'.dk.l, rows Ef.rcells 92 8 d'.Ae d'.qe d'.effs, rosS encI (d'.effs.map Ef.ar), rows encI 2 1 d'.As d'.qs d'.stack] ∧ d'.val = sentV e.val d.val) := by
  have hss : 0 ≤ d.sends ∧ d.sends ≤ 8 := hs
  refine Does.enter Tryz.func47 rfl Tryz.ntmps47 rfl (fun w0 => ?_)
  refine To.seq (To.reg ?_)
  refine To.boxed rfl rfl rfl rfl rfl rfl (fun b3 => ?_)
  refine To.nil (To.thenN (To.seq (To.seq ?_)))
  refine To.up9 ?_
  refine To.layRow ?_
  refine To.reg (To.m ?_)
  refine To.r (Rd.nilCheck rfl rfl) ?_
  refine To.f fl106_4 ?_
  refine To.lo 2 c3 ?_
  refine To.r (Rd.geq rfl rfl rfl) ?_
  refine To.nil (To.thenN ?_)
  refine To.condP rfl (fun c8 => ?_) (fun c8 => ?_)
  ·
   refine To.seq (To.reg (To.m ?_))
   refine To.call [2, 2, 2, 2, 2, 2, 2, 2] rfl rfl rfl (Ent.fn rfl rfl ca26) rfl (fault_fn b s d hel) ?_
   rintro _ _ ⟨rfl, d', rfl, hv⟩
   refine To.nil (To.thenN (To.ret (To.thenR ?_)))
   refine To.del9 ?_
   refine To.del8 ?_
   refine To.end0 (.inl rfl) Tryz.results47 ?_
   exact ⟨rfl, d', rfl, by rw [hv]; exact (if_pos (show 8 ≤ d.val.sends from c8)).symm⟩
  refine To.skip (To.thenN (To.seq (To.reg (To.m ?_))))
  refine To.r (Rd.nilCheck rfl rfl) ?_
  refine To.f fl106_4 ?_
  refine To.lo 2 c3 ?_
  refine To.r (Rd.add64 rfl rfl rfl (by omega)) ?_
  refine To.r (Rd.nilCheck rfl rfl) ?_
  refine To.f fl106_4 ?_
  refine To.u (Up.store (i := 2) rfl rfl rfl c3 rfl rfl (box_takes1 rfl)) ?_
  refine To.nil (To.thenN ?_)
  refine To.flow [] [⟨0, [], 0⟩, ⟨1, [], 0⟩, ⟨2, [], 0⟩, ⟨3, [], 0⟩, ⟨4, [], 0⟩, ⟨5, [], 1⟩, ⟨6, [], 1⟩, ⟨7, [], 2⟩, ⟨8, [7], 5⟩, ⟨9, [], 0⟩, ⟨10, [], 0⟩, ⟨11, [], 0⟩, ⟨12, [], 5⟩] mixed (by kernel_rfl) (oks_nil _) ?_
  refine FlowS.mo ?_
  refine FlowS.mo ?_
  refine FlowS.f rfl (Rd.nilCheck rfl rfl) ?_
  refine FlowS.fi fl106_1 ?_
  refine FlowS.fi fl68_1 ?_
  refine FlowS.lo 2 c66 ?_
  refine FlowS.r rfl (Rd.loadS (i := 1) rfl rfl r92 rfl box_whole rfl) ?_
  refine FlowS.mk rfl rfl rfl rfl rfl (Mk.sliceN (us := [.int .i64 e.k, .int .i64 e.to, .int .i64 e.h, .int .i64 e.d, .int .i64 e.key, .int .i64 e.v, .bool e.f, .slice e.A e.args.length e.q]) rfl s66 rfl rfl rfl rfl rfl rfl) ?_
  rintro _ _ ⟨b25, rfl, rfl⟩
  refine FlowS.ge rfl rfl rfl rfl (Ge.append1 encRe (i := 8) (j := 0) (el := e) rfl s66 rfl rfl rfl rfl rfl (by first | omega | (simp only [List.length_append, List.length_cons, List.length_nil]; omega)) (by first | omega | (simp only [List.length_append, List.length_cons, List.length_nil]; omega))) ?_
  rintro _ _ ⟨A26, q26, rfl, rfl⟩
  refine ⟨oks_nil _, ?_⟩
  refine FlowS.f rfl (Rd.nilCheck rfl rfl) ?_
  refine FlowS.fi fl106_1 ?_
  refine FlowS.fi fl68_1 ?_
  refine FlowS.up rfl rfl rfl (Up.store (i := 3) rfl rfl rfl c66 rfl rfl (box_takes1 rfl)) (oks_nil _) ?_
  refine FlowS.fin ?_
  refine To.famS ((d.effs ++ [e]).map Ef.ar) 9 rfl (famE_snoc (List.mem_of_getElem? (i := 1) rfl)) ?_
  refine To.del10 ?_
  refine To.del3 ?_
  refine To.del2 ?_
  refine To.del1 ?_
  refine To.up6 ?_
  refine To.up6 ?_
  refine To.up6 ?_
  refine To.up6 ?_
  refine To.up6 ?_
  refine To.up6 ?_
  refine To.end0 (.inr rfl) Tryz.results47 ?_
  exact ⟨rfl, (⟨d.Av, d.qv, d.vars, d.At, d.qt, d.tabs, ⟨d.dk.A, d.dk.q, d.dk.l⟩, A26, q26, (d.effs ++ [e]), d.cost, d.As, d.qs, d.stack, d.next, d.sends + 1, d.disks, d.fault⟩ : Dm), rfl, by unfold sentV; rw [if_neg (show ¬ 8 ≤ d.val.sends from c8)]; simp [Dm.val]⟩
set_option maxHeartbeats 2000000 in
set_option maxRecDepth 100000 in
theorem rstep_fn (b : Nat) (s : Sm) (d : Dm) (x : Ins) (a : Nat) (hat : a ≤ 1000000) (hf : Fit s x d.val) (ho : Okr s d.val) (hfa : d.val.fault = false) (h31 : ((x.op : Nat) : Int) = 31 → x.a = 0) :
    Does Tryz.prog 27 [.pointer (some ⟨b, 0, none⟩), .agg (Ins.rcells x).toArray, .int .i64 ((a : Nat) : Int)] [box b [.slice s.Aa s.args.length s.qa, .int .i64 s.now, .slice s.Ag s.flags.length s.qg, .int .i64 s.dsk, .slice s.Af s.fail.length s.qf, .slice d.Av d.vars.length d.qv, .slice d.At d.tabs.length d.qt, .slice d.dk.A d.dk.l.length d.dk.q, .slice d.Ae d.effs.length d.qe, .int .i64 d.cost, .slice d.As d.stack.length d.qs, .int .i64 d.disks, .int .i64 d.sends, .bool d.fault, .string ByteArray.empty, .slice none 0 0, .slice none 0 0, .string ByteArray.empty, .slice none 0 0, .slice none 0 0, .slice none 0 0, .int .i64 0] 106, rows encI 2 1 d.Av d.qv d.vars, rows Tb.cells 44 1 d.At d.qt d.tabs, rosS encEn (d.tabs.map Tb.ar), ros encEn d.dk.A d.dk.l, rows Ef.rcells 92 8 d.Ae d.qe d.effs, rosS encI (d.effs.map Ef.ar), rows encI 2 1 d.As d.qs d.stack, ros encI s.Aa s.args, ros encB s.Ag s.flags, ros encI s.Af s.fail] (fun r Γ' => ∃ (nx : Int) (d' : Dm), r = .int .i64 nx ∧ Γ' = [box b [.slice s.Aa s.args.length s.qa, .int .i64 s.now, .slice s.Ag s.flags.length s.qg, .int .i64 s.dsk, .slice s.Af s.fail.length s.qf, .slice d'.Av d'.vars.length d'.qv, .slice d'.At d'.tabs.length d'.qt, .slice d'.dk.A d'.dk.l.length d'.dk.q, .slice d'.Ae d'.effs.length d'.qe, .int .i64 d'.cost, .slice d'.As d'.stack.length d'.qs, .int .i64 d'.disks, .int .i64 d'.sends, .bool d'.fault, .string ByteArray.empty, .slice none 0 0, .slice none 0 0, .string ByteArray.empty, .slice none 0 0, .slice none 0 0, .slice none 0 0, .int .i64 0] 106, rows encI 2 1 d'.Av d'.qv d'.vars, rows Tb.cells 44 1 d'.At d'.qt d'.tabs, rosS encEn (d'.tabs.map Tb.ar), ros encEn d'.dk.A d'.dk.l, rows Ef.rcells 92 8 d'.Ae d'.qe d'.effs, rosS encI (d'.effs.map Ef.ar), rows encI 2 1 d'.As d'.qs d'.stack] ∧ RStep s x d.val a nx d'.val) := by
  have hht : d.stack.length ≤ 4001 := hf.height
  have hpp : popsN x ≤ ((d.stack.length : Nat) : Int) := hf.pops
  have hpo := pops_of x
  have hops := hf.ops
  have hvar : ((x.op : Nat) : Int) = 2 ∨ ((x.op : Nat) : Int) = 24 ∨ ((x.op : Nat) : Int) = 33 → 0 ≤ x.a ∧ x.a < ((d.vars.length : Nat) : Int) := hf.var
  have htb : ((x.op : Nat) : Int) = 6 ∨ ((x.op : Nat) : Int) = 7 ∨ ((x.op : Nat) : Int) = 8 ∨ ((x.op : Nat) : Int) = 25 ∨ ((x.op : Nat) : Int) = 26 → 0 ≤ x.a ∧ x.a < ((d.tabs.length : Nat) : Int) := fun h => by
    have := hf.tab h
    have e : d.val.tabs.length = d.tabs.length := by show (d.tabs.map Tb.l).length = _; rw [List.length_map]
    rw [e] at this; exact this
  have hsn := hf.sends
  have hel : d.effs.length ≤ 4000000 := by have h1 : (d.effs.map Ef.val).length ≤ 2000000 := ho.effs; rw [List.length_map] at h1; omega
  have hss : 0 ≤ d.sends ∧ d.sends ≤ 8 := ho.sends
  have hdd : 0 ≤ d.disks ∧ d.disks ≤ 2000000 := ho.disks
  have hcs : 0 ≤ d.cost ∧ d.cost ≤ 200 := hf.cost
  have hgd : Good d.dk.l := ho.disk
  have hgdl := hgd.len
  refine Does.enter Tryz.func27 rfl Tryz.ntmps27 rfl (fun w0 => ?_)
  refine To.seq (To.reg ?_)
  refine To.boxed rfl rfl rfl rfl rfl rfl (fun b4 => ?_)
  refine To.a (To.nil (To.thenN (To.seq (To.reg ?_))))
  refine To.m ?_
  refine To.r (Rd.nilCheck rfl rfl) ?_
  refine To.f fl106_1 ?_
  refine To.f fl68_0 ?_
  refine To.r (Rd.loadS (i := 1) (us := [.slice d.Av d.vars.length d.qv, .slice d.At d.tabs.length d.qt, .slice d.dk.A d.dk.l.length d.dk.q]) rfl rfl r46 rfl (box_gives (n := 3) rfl) rfl) ?_
  refine To.alloc rfl rfl rfl rfl z46 (fun b7 => ?_)
  refine To.u (Up.storeS (i := 0) rfl rfl rfl r46 rfl rfl rfl (box_takesAll rfl)) ?_
  refine To.nil (To.thenN (To.seq (To.block (To.seq (To.reg ?_)))))
  refine To.f fl89_0 ?_
  refine To.lo 1 c3 ?_
  refine To.r (Rd.leq rfl rfl rfl) ?_
  refine To.a (To.nil (To.thenN ?_))
  refine To.condP rfl (fun k20 => ?_) (fun k20 => ?_)
  ·
   refine To.reg (To.m ?_)
   refine To.r (Rd.loadS (i := 1) rfl rfl r89 rfl box_whole rfl) ?_
   refine To.call [2, 2, 2, 2, 2, 2, 2, 2, 2, 2] rfl rfl rfl (Ent.fn rfl rfl ca40) rfl (load_fn b s d x (by omega) hf ho) ?_
   rintro _ _ ⟨rfl, d', rfl, hv⟩
   refine To.nil (To.blockN (To.thenN (To.seq (To.reg (To.m ?_)))))
   refine To.r (Rd.inc rfl rfl rfl (by omega)) ?_
   refine To.a (To.nil (To.thenN (To.ret ?_)))
   refine To.del10 ?_
   refine To.del9 ?_
   refine To.del8 ?_
   refine To.end1 (.inl rfl) Tryz.results27 rfl ?_
   exact ⟨((a + 1 : Nat) : Int), d', rfl, rfl, rstep_load (by omega) hfa hv⟩
  refine To.seq (To.reg ?_)
  refine To.f fl89_0 ?_
  refine To.lo 1 c3 ?_
  refine To.r (Rd.leq rfl rfl rfl) ?_
  refine To.a (To.nil (To.thenN ?_))
  refine To.condP rfl (fun k27 => ?_) (fun k27 => ?_)
  ·
   refine To.seq (To.reg (To.m ?_))
   refine To.call [2, 8] rfl rfl rfl (Ent.fn rfl rfl ca41) rfl (rpop_fn b s d 2 (by first | omega | (simp only [List.length_append, List.length_dropLast, List.length_cons, List.length_nil, List.length_take]; omega))) ?_
   rintro _ _ ⟨Bp, qp, rfl, rfl⟩
   refine To.a (To.nil (To.thenN ?_))
   refine To.flow [] [⟨0, [], 0⟩, ⟨1, [], 0⟩, ⟨3, [], 0⟩, ⟨6, [], 0⟩, ⟨2, [], 1⟩, ⟨4, [], 1⟩, ⟨5, [], 1⟩, ⟨7, [], 1⟩, ⟨8, [], 1⟩, ⟨9, [], 3⟩, ⟨10, [], 5⟩] mixed (by kernel_rfl) (oks_nil _) ?_
   refine FlowS.mo ?_
   refine FlowS.fi fl89_0 ?_
   refine FlowS.mo ?_
   refine FlowS.mo ?_
   refine FlowS.lo 4 c3 ?_
   refine FlowS.r rfl (Rd.indexRows (i := 2) (j := 0) rfl rfl rfl s24 rfl (drop2_0 (by omega))) ?_
   refine FlowS.r rfl (Rd.load (i := 2) rfl rfl c2 rfl (gives_1 (rows_gives encI_ok (drop2_0 (by omega))) rfl)) ?_
   refine FlowS.r rfl (Rd.indexRows (i := 2) (j := 1) rfl rfl rfl s24 rfl (drop2_1 (by omega))) ?_
   refine FlowS.r rfl (Rd.load (i := 2) rfl rfl c2 rfl (gives_1 (rows_gives encI_ok (drop2_1 (by omega))) rfl)) ?_
   refine FlowS.callQ rfl rfl rfl rfl (Ent.fn rfl rfl ca43) (rbin_fn ((x.op : Nat) : Int) (d.stack.dropLast.getLastD 0) (d.stack.getLastD 0) (by omega)) rfl (oks_nil _) ?_
   refine FlowS.call [0, 0] rfl rfl rfl rfl (Ent.fn rfl rfl ca42) rfl (rpush_fn b s (⟨d.Av, d.qv, d.vars, d.At, d.qt, d.tabs, ⟨d.dk.A, d.dk.q, d.dk.l⟩, d.Ae, d.qe, d.effs, d.cost, d.As, d.qs, (d.stack.take (d.stack.length - 2)), d.next, d.sends, d.disks, d.fault⟩ : Dm) (binV ((x.op : Nat) : Int) (d.stack.dropLast.getLastD 0) (d.stack.getLastD 0)) (by first | omega | (simp only [List.length_append, List.length_dropLast, List.length_cons, List.length_nil, List.length_take]; omega))) ?_
   rintro _ _ ⟨rfl, As, qs, rfl⟩
   refine ⟨oks_nil _, ?_⟩
   refine FlowS.fin ?_
   refine To.blockN (To.thenN (To.seq (To.reg (To.m ?_))))
   refine To.r (Rd.inc rfl rfl rfl (by omega)) ?_
   refine To.a (To.nil (To.thenN (To.ret ?_)))
   refine To.del13 ?_
   refine To.del12 ?_
   refine To.del11 ?_
   refine To.del4 ?_
   refine To.del3 ?_
   refine To.del2 ?_
   refine To.up7 ?_
   refine To.up7 ?_
   refine To.up7 ?_
   refine To.up7 ?_
   refine To.up7 ?_
   refine To.up7 ?_
   refine To.up6 ?_
   refine To.end1 (.inl rfl) Tryz.results27 rfl ?_
   exact ⟨((a + 1 : Nat) : Int), (⟨d.Av, d.qv, d.vars, d.At, d.qt, d.tabs, ⟨d.dk.A, d.dk.q, d.dk.l⟩, d.Ae, d.qe, d.effs, d.cost, As, qs, ((d.stack.take (d.stack.length - 2)) ++ [binV ((x.op : Nat) : Int) (d.stack.dropLast.getLastD 0) (d.stack.getLastD 0)]), d.next, d.sends, d.disks, d.fault⟩ : Dm), rfl, rfl, rstep_bin (by omega) hfa rfl⟩
  refine To.seq (To.reg ?_)
  refine To.f fl89_0 ?_
  refine To.lo 1 c3 ?_
  refine To.r (Rd.eql rfl rfl rfl) ?_
  refine To.a (To.nil (To.thenN ?_))
  refine To.condP rfl (fun k44 => ?_) (fun k44 => ?_)
  ·
   obtain ⟨ka, hka⟩ : ∃ ka : Nat, x.a = ((ka : Nat) : Int) := ⟨x.a.toNat, by have := hvar (by omega); omega⟩
   have hkl : ka < d.vars.length := by have := hvar (by omega); omega
   obtain ⟨y, hel2⟩ : ∃ z0, d.vars[ka]? = some z0 := ⟨d.vars[ka]'(by omega), List.getElem?_eq_getElem _⟩
   refine To.know (p := d.Av = some ⟨blk d.Av, ofs d.Av, none⟩) (fun w hw => rows_some encI_ok (by decide) (l := d.vars) (by omega) 3 rfl hw) (fun hAv => ?_)
   refine To.flow [box b4 [.int .i64 ((x.op : Nat) : Int), .int .i64 x.a, .int .i64 x.b, .int .i64 x.n] 89, box b7 [.slice d.Av d.vars.length d.qv, .slice d.At d.tabs.length d.qt, .slice d.dk.A d.dk.l.length d.dk.q] 46] [⟨0, [], 0⟩, ⟨1, [], 0⟩, ⟨2, [], 0⟩, ⟨3, [], 0⟩, ⟨4, [], 0⟩, ⟨5, [], 5⟩, ⟨6, [], 1⟩, ⟨7, [], 1⟩, ⟨8, [], 0⟩, ⟨9, [], 5⟩] mixed (by kernel_rfl) (oks_cons (oks_at 1 rfl) (oks_cons (oks_at 0 rfl) (oks_nil _))) ?_
   refine FlowS.fi fl46_0 ?_
   refine FlowS.th 1 c24 ?_
   refine FlowS.fi fl89_1 ?_
   refine FlowS.th 0 c3 ?_
   refine FlowS.mo ?_
   refine FlowS.call [2, 8] rfl rfl rfl rfl (Ent.fn rfl rfl ca41) rfl (rpop_fn b s d 1 (by first | omega | (simp only [List.length_append, List.length_dropLast, List.length_cons, List.length_nil, List.length_take]; omega))) ?_
   rintro _ _ ⟨Bp_2, qp_2, rfl, rfl⟩
   refine ⟨oks_cons (oks_at 4 rfl) (oks_cons (oks_at 3 rfl) (oks_nil _)), ?_⟩
   refine FlowS.r rfl (Rd.indexRows (i := 2) (j := 0) rfl rfl rfl s24 rfl (drop1_0 (by omega))) ?_
   refine FlowS.r rfl (Rd.load (i := 2) rfl rfl c2 rfl (gives_1 (rows_gives encI_ok (drop1_0 (by omega))) rfl)) ?_
   refine FlowS.f rfl (Rd.as (v' := .pointer (some ⟨blk d.Av, ofs d.Av + ka * 1, none⟩)) rfl (Rd.indexS (j := ka) hAv rfl rfl (by rw [← hka]; rfl) s24 hkl)) ?_
   refine FlowS.up rfl rfl rfl (Up.store (i := 5) rfl rfl rfl c2 rfl rfl (rows_takes encI_ok (y := (d.stack.getLastD 0)) (by decide) (by omega))) (oks_cons (oks_at 4 rfl) (oks_cons (oks_at 3 rfl) (oks_nil _))) ?_
   refine FlowS.fin ?_
   refine To.blockN (To.thenN (To.seq (To.reg (To.m ?_))))
   refine To.r (Rd.inc rfl rfl rfl (by omega)) ?_
   refine To.a (To.nil (To.thenN (To.ret ?_)))
   refine To.as [box b [.slice s.Aa s.args.length s.qa, .int .i64 s.now, .slice s.Ag s.flags.length s.qg, .int .i64 s.dsk, .slice s.Af s.fail.length s.qf, .slice d.Av ((d.vars.set ka (d.stack.getLastD 0)).length) d.qv, .slice d.At d.tabs.length d.qt, .slice d.dk.A d.dk.l.length d.dk.q, .slice d.Ae d.effs.length d.qe, .int .i64 d.cost, .slice d.As ((d.stack.take (d.stack.length - 1)).length) d.qs, .int .i64 d.disks, .int .i64 d.sends, .bool d.fault, .string ByteArray.empty, .slice none 0 0, .slice none 0 0, .string ByteArray.empty, .slice none 0 0, .slice none 0 0, .slice none 0 0, .int .i64 0] 106, rows encI 2 1 d.As d.qs (d.stack.take (d.stack.length - 1)), rows encI 2 1 Bp_2 qp_2 (d.stack.drop (d.stack.length - 1)), box b7 [.slice d.Av d.vars.length d.qv, .slice d.At d.tabs.length d.qt, .slice d.dk.A d.dk.l.length d.dk.q] 46, box b4 [.int .i64 ((x.op : Nat) : Int), .int .i64 x.a, .int .i64 x.b, .int .i64 x.n] 89, rows encI 2 1 d.Av d.qv (d.vars.set ka (d.stack.getLastD 0)), rows Tb.cells 44 1 d.At d.qt d.tabs, rosS encEn (d.tabs.map Tb.ar), ros encEn d.dk.A d.dk.l, rows Ef.rcells 92 8 d.Ae d.qe d.effs, rosS encI (d.effs.map Ef.ar), ros encI s.Aa s.args, ros encB s.Ag s.flags, ros encI s.Af s.fail] (by rw [List.length_set] <;> rfl) ?_
   refine To.del13 ?_
   refine To.del12 ?_
   refine To.del11 ?_
   refine To.del4 ?_
   refine To.del3 ?_
   refine To.del2 ?_
   refine To.up7 ?_
   refine To.up7 ?_
   refine To.up7 ?_
   refine To.up7 ?_
   refine To.up7 ?_
   refine To.up7 ?_
   refine To.up6 ?_
   refine To.end1 (.inl rfl) Tryz.results27 rfl ?_
   exact ⟨((a + 1 : Nat) : Int), (⟨d.Av, d.qv, (d.vars.set ka (d.stack.getLastD 0)), d.At, d.qt, d.tabs, ⟨d.dk.A, d.dk.q, d.dk.l⟩, d.Ae, d.qe, d.effs, d.cost, d.As, d.qs, (d.stack.take (d.stack.length - 1)), d.next, d.sends, d.disks, d.fault⟩ : Dm), rfl, rfl, rstep_24 (by omega) hfa (by simp [Dm.val, hka, -List.getLastD_eq_getLast?])⟩
  refine To.seq (To.reg ?_)
  refine To.f fl89_0 ?_
  refine To.lo 1 c3 ?_
  refine To.r (Rd.eql rfl rfl rfl) ?_
  refine To.a (To.nil (To.thenN ?_))
  refine To.condP rfl (fun k57 => ?_) (fun k57 => ?_)
  ·
   refine To.seq (To.reg (To.m ?_))
   refine To.call [2, 8] rfl rfl rfl (Ent.fn rfl rfl ca41) rfl (rpop_fn b s d 2 (by first | omega | (simp only [List.length_append, List.length_dropLast, List.length_cons, List.length_nil, List.length_take]; omega))) ?_
   rintro _ _ ⟨Bp_3, qp_3, rfl, rfl⟩
   refine To.a (To.nil (To.thenN ?_))
   obtain ⟨ka, hka⟩ : ∃ ka : Nat, x.a = ((ka : Nat) : Int) := ⟨x.a.toNat, by have := htb (by omega); omega⟩
   have hkl : ka < d.tabs.length := by have := htb (by omega); omega
   obtain ⟨t, ht⟩ : ∃ z0, d.tabs[ka]? = some z0 := ⟨d.tabs[ka]'(by omega), List.getElem?_eq_getElem _⟩
   have htm := List.mem_of_getElem? ht
   have hg : Good t.l := ho.tabs t.l (List.mem_map.2 ⟨t, htm, rfl⟩)
   have hgl := hg.len
   have hgt : (d.tabs.map Tb.l).getD ka [] = t.l := by rw [List.getD_eq_getElem?_getD, List.getElem?_map, ht]; rfl
   refine To.know (p := d.At = some ⟨blk d.At, ofs d.At, none⟩) (fun w hw => rows_some encTb (by decide) (l := d.tabs) (by omega) 6 rfl hw) (fun hAt => ?_)
   refine To.oneS 7 rfl (mem_at ht Tb.ar) ?_
   refine To.flow [box b4 [.int .i64 ((x.op : Nat) : Int), .int .i64 x.a, .int .i64 x.b, .int .i64 x.n] 89, box b7 [.slice d.Av d.vars.length d.qv, .slice d.At d.tabs.length d.qt, .slice d.dk.A d.dk.l.length d.dk.q] 46] [⟨0, [], 0⟩, ⟨1, [], 0⟩, ⟨2, [], 0⟩, ⟨3, [], 0⟩, ⟨4, [], 0⟩, ⟨6, [], 0⟩, ⟨10, [], 0⟩, ⟨13, [], 0⟩, ⟨5, [], 1⟩, ⟨7, [], 1⟩, ⟨8, [], 1⟩, ⟨9, [], 1⟩, ⟨11, [], 1⟩, ⟨12, [], 1⟩, ⟨14, [], 1⟩, ⟨15, [], 1⟩, ⟨16, [], 5⟩, ⟨17, [], 0⟩, ⟨18, [], 5⟩] mixed (by kernel_rfl) (oks_cons (oks_at 5 rfl) (oks_cons (oks_at 4 rfl) (oks_nil _))) ?_
   refine FlowS.fi fl46_1 ?_
   refine FlowS.th 1 c43 ?_
   refine FlowS.fi fl89_1 ?_
   refine FlowS.th 0 c3 ?_
   refine FlowS.fi fl46_1 ?_
   refine FlowS.fi fl89_1 ?_
   refine FlowS.mo ?_
   refine FlowS.mo ?_
   refine FlowS.lo 4 c43 ?_
   refine FlowS.lo 5 c3 ?_
   refine FlowS.r rfl (Rd.as (v' := .pointer (some ⟨blk d.At, ofs d.At + ka * 1, none⟩)) rfl (Rd.indexS (j := ka) hAt rfl rfl (by rw [← hka]; rfl) s43 hkl)) ?_
   refine FlowS.r rfl (Rd.load (i := 7) rfl rfl c44 rfl (gives_1 (rows_gives encTb ht) rfl)) ?_
   refine FlowS.r rfl (Rd.indexRows (i := 3) (j := 0) rfl rfl rfl s24 rfl (drop2_0 (by omega))) ?_
   refine FlowS.r rfl (Rd.load (i := 3) rfl rfl c2 rfl (gives_1 (rows_gives encI_ok (drop2_0 (by omega))) rfl)) ?_
   refine FlowS.r rfl (Rd.indexRows (i := 3) (j := 1) rfl rfl rfl s24 rfl (drop2_1 (by omega))) ?_
   refine FlowS.r rfl (Rd.load (i := 3) rfl rfl c2 rfl (gives_1 (rows_gives encI_ok (drop2_1 (by omega))) rfl)) ?_
   refine FlowS.call [0] rfl rfl rfl rfl (Ent.fn rfl rfl ca44) rfl (rput2_fn t.A t.q t.l (d.stack.dropLast.getLastD 0) (d.stack.getLastD 0) hg) ?_
   rintro _ _ ⟨Bd, qd, rfl, rfl⟩
   refine ⟨oks_cons (oks_at 5 rfl) (oks_cons (oks_at 4 rfl) (oks_nil _)), ?_⟩
   refine FlowS.f rfl (Rd.as (v' := .pointer (some ⟨blk d.At, ofs d.At + ka * 1, none⟩)) rfl (Rd.indexS (j := ka) hAt rfl rfl (by rw [← hka]; rfl) s43 hkl)) ?_
   refine FlowS.up rfl rfl rfl (Up.store (i := 7) rfl rfl rfl c44 rfl rfl (rows_takes encTb (y := (⟨Bd, qd, (putR t.l (d.stack.dropLast.getLastD 0) (d.stack.getLastD 0))⟩ : Tb)) (by decide) (by omega))) (oks_cons (oks_at 5 rfl) (oks_cons (oks_at 4 rfl) (oks_nil _))) ?_
   refine FlowS.fin ?_
   refine To.blockN (To.thenN (To.seq (To.reg (To.m ?_))))
   refine To.r (Rd.inc rfl rfl rfl (by omega)) ?_
   refine To.a (To.nil (To.thenN (To.ret ?_)))
   refine To.as [ros encEn Bd (putR t.l (d.stack.dropLast.getLastD 0) (d.stack.getLastD 0)), box b [.slice s.Aa s.args.length s.qa, .int .i64 s.now, .slice s.Ag s.flags.length s.qg, .int .i64 s.dsk, .slice s.Af s.fail.length s.qf, .slice d.Av d.vars.length d.qv, .slice d.At ((d.tabs.set ka (⟨Bd, qd, putR t.l (d.stack.dropLast.getLastD 0) (d.stack.getLastD 0)⟩ : Tb)).length) d.qt, .slice d.dk.A d.dk.l.length d.dk.q, .slice d.Ae d.effs.length d.qe, .int .i64 d.cost, .slice d.As ((d.stack.take (d.stack.length - 2)).length) d.qs, .int .i64 d.disks, .int .i64 d.sends, .bool d.fault, .string ByteArray.empty, .slice none 0 0, .slice none 0 0, .string ByteArray.empty, .slice none 0 0, .slice none 0 0, .slice none 0 0, .int .i64 0] 106, rows encI 2 1 d.As d.qs (d.stack.take (d.stack.length - 2)), rows encI 2 1 Bp_3 qp_3 (d.stack.drop (d.stack.length - 2)), box b7 [.slice d.Av d.vars.length d.qv, .slice d.At d.tabs.length d.qt, .slice d.dk.A d.dk.l.length d.dk.q] 46, box b4 [.int .i64 ((x.op : Nat) : Int), .int .i64 x.a, .int .i64 x.b, .int .i64 x.n] 89, rows encI 2 1 d.Av d.qv d.vars, rows Tb.cells 44 1 d.At d.qt (d.tabs.set ka (⟨Bd, qd, (putR t.l (d.stack.dropLast.getLastD 0) (d.stack.getLastD 0))⟩ : Tb)), rosS encEn (d.tabs.map Tb.ar), ros encEn d.dk.A d.dk.l, rows Ef.rcells 92 8 d.Ae d.qe d.effs, rosS encI (d.effs.map Ef.ar), ros encI s.Aa s.args, ros encB s.Ag s.flags, ros encI s.Af s.fail] (by rw [List.length_set] <;> rfl) ?_
   refine To.famS ((d.tabs.set ka (⟨Bd, qd, putR t.l (d.stack.dropLast.getLastD 0) (d.stack.getLastD 0)⟩ : Tb)).map Tb.ar) 8 rfl (fam_set (List.mem_of_getElem? (i := 0) rfl)) ?_
   refine To.del15 ?_
   refine To.del14 ?_
   refine To.del13 ?_
   refine To.del9 ?_
   refine To.del6 ?_
   refine To.del5 ?_
   refine To.del4 ?_
   refine To.del1 ?_
   refine To.up7 ?_
   refine To.up7 ?_
   refine To.up7 ?_
   refine To.up3 ?_
   refine To.up7 ?_
   refine To.up7 ?_
   refine To.up6 ?_
   refine To.end1 (.inl rfl) Tryz.results27 rfl ?_
   exact ⟨((a + 1 : Nat) : Int), (⟨d.Av, d.qv, d.vars, d.At, d.qt, (d.tabs.set ka (⟨Bd, qd, putR t.l (d.stack.dropLast.getLastD 0) (d.stack.getLastD 0)⟩ : Tb)), ⟨d.dk.A, d.dk.q, d.dk.l⟩, d.Ae, d.qe, d.effs, d.cost, d.As, d.qs, (d.stack.take (d.stack.length - 2)), d.next, d.sends, d.disks, d.fault⟩ : Dm), rfl, rfl, rstep_25 (by omega) hfa (by simp [Dm.val, hka, ht, hgt, map_set, -List.map_set, -List.getLastD_eq_getLast?])⟩
  refine To.seq (To.reg ?_)
  refine To.f fl89_0 ?_
  refine To.lo 1 c3 ?_
  refine To.r (Rd.eql rfl rfl rfl) ?_
  refine To.a (To.nil (To.thenN ?_))
  refine To.condP rfl (fun k81 => ?_) (fun k81 => ?_)
  ·
   obtain ⟨ka, hka⟩ : ∃ ka : Nat, x.a = ((ka : Nat) : Int) := ⟨x.a.toNat, by have := htb (by omega); omega⟩
   have hkl : ka < d.tabs.length := by have := htb (by omega); omega
   obtain ⟨t, ht⟩ : ∃ z0, d.tabs[ka]? = some z0 := ⟨d.tabs[ka]'(by omega), List.getElem?_eq_getElem _⟩
   have htm := List.mem_of_getElem? ht
   have hg : Good t.l := ho.tabs t.l (List.mem_map.2 ⟨t, htm, rfl⟩)
   have hgl := hg.len
   have hgt : (d.tabs.map Tb.l).getD ka [] = t.l := by rw [List.getD_eq_getElem?_getD, List.getElem?_map, ht]; rfl
   refine To.know (p := d.At = some ⟨blk d.At, ofs d.At, none⟩) (fun w hw => rows_some encTb (by decide) (l := d.tabs) (by omega) 4 rfl hw) (fun hAt => ?_)
   refine To.oneS 5 rfl (mem_at ht Tb.ar) ?_
   refine To.flow2c [box b4 [.int .i64 ((x.op : Nat) : Int), .int .i64 x.a, .int .i64 x.b, .int .i64 x.n] 89, box b7 [.slice d.Av d.vars.length d.qv, .slice d.At d.tabs.length d.qt, .slice d.dk.A d.dk.l.length d.dk.q] 46] 9 11 [⟨0, [], 0⟩, ⟨1, [], 0⟩, ⟨2, [], 0⟩, ⟨3, [], 0⟩, ⟨4, [], 0⟩, ⟨5, [], 0⟩, ⟨6, [], 0⟩, ⟨7, [], 0⟩, ⟨8, [], 0⟩, ⟨10, [], 0⟩, ⟨11, [], 5⟩, ⟨9, [], 1⟩, ⟨12, [], 1⟩, ⟨13, [], 1⟩, ⟨14, [], 4⟩, ⟨15, [14], 0⟩, ⟨16, [14], 5⟩] [⟨0, [], 0⟩, ⟨1, [], 0⟩, ⟨2, [], 0⟩, ⟨3, [], 0⟩, ⟨4, [], 0⟩, ⟨5, [], 0⟩, ⟨6, [], 0⟩, ⟨7, [], 0⟩, ⟨8, [], 0⟩, ⟨10, [], 0⟩, ⟨9, [], 1⟩, ⟨11, [], 5⟩, ⟨12, [], 1⟩, ⟨13, [], 1⟩, ⟨14, [], 4⟩, ⟨15, [14], 0⟩, ⟨16, [14], 5⟩] mixed rfl (by kernel_rfl) (by kernel_rfl) (by kernel_rfl) (oks_cons (oks_at 2 rfl) (oks_cons (oks_at 1 rfl) (oks_nil _))) ?_ ?_
   ·
    refine FlowS.fi fl46_1 ?_
    refine FlowS.th 1 c43 ?_
    refine FlowS.fi fl89_1 ?_
    refine FlowS.th 0 c3 ?_
    refine FlowS.fi fl46_1 ?_
    refine FlowS.th 1 c43 ?_
    refine FlowS.fi fl89_1 ?_
    refine FlowS.th 0 c3 ?_
    refine FlowS.f rfl (Rd.as (v' := .pointer (some ⟨blk d.At, ofs d.At + ka * 1, none⟩)) rfl (Rd.indexS (j := ka) hAt rfl rfl (by rw [← hka]; rfl) s43 hkl)) ?_
    refine FlowS.mo ?_
    refine FlowS.call [3, 9] rfl rfl rfl rfl (Ent.fn rfl rfl ca41) rfl (rpop_fn b s d 1 (by first | omega | (simp only [List.length_append, List.length_dropLast, List.length_cons, List.length_nil, List.length_take]; omega))) ?_
    rintro _ _ ⟨Bp_4, qp_4, rfl, rfl⟩
    refine ⟨oks_cons (oks_at 5 rfl) (oks_cons (oks_at 4 rfl) (oks_nil _)), ?_⟩
    refine FlowS.r rfl (Rd.load (i := 7) rfl rfl c44 rfl (gives_1 (rows_gives encTb ht) rfl)) ?_
    refine FlowS.r rfl (Rd.indexRows (i := 2) (j := 0) rfl rfl rfl s24 rfl (drop1_0 (by omega))) ?_
    refine FlowS.r rfl (Rd.load (i := 2) rfl rfl c2 rfl (gives_1 (rows_gives encI_ok (drop1_0 (by omega))) rfl)) ?_
    refine FlowS.callM rfl rfl rfl rfl rfl (Ent.fn rfl rfl ca45) (rdel_fn t.A t.q t.l (d.stack.getLastD 0) (by omega)) rfl (oks_cons (oks_at 3 rfl) (oks_nil _)) ?_
    rintro _ _ ⟨Bd, qd, rfl, rfl⟩
    refine ⟨rfl, ?_⟩
    refine FlowS.f rfl (Rd.as (v' := .pointer (some ⟨blk d.At, ofs d.At + ka * 1, none⟩)) rfl (Rd.indexS (j := ka) hAt rfl rfl (by rw [← hka]; rfl) s43 hkl)) ?_
    refine FlowS.up rfl rfl rfl (Up.store (i := 8) rfl rfl rfl c44 rfl rfl (rows_takes encTb (y := (⟨Bd, qd, (delT t.l (d.stack.getLastD 0))⟩ : Tb)) (by decide) (by omega))) (oks_cons (oks_at 6 rfl) (oks_cons (oks_at 5 rfl) (oks_nil _))) ?_
    refine FlowS.fin ?_
    refine To.blockN (To.thenN (To.seq (To.reg (To.m ?_))))
    refine To.r (Rd.inc rfl rfl rfl (by omega)) ?_
    refine To.a (To.nil (To.thenN (To.ret ?_)))
    refine To.layRow ?_
    refine To.as [ros encEn Bd (delT t.l (d.stack.getLastD 0)), box b [.slice s.Aa s.args.length s.qa, .int .i64 s.now, .slice s.Ag s.flags.length s.qg, .int .i64 s.dsk, .slice s.Af s.fail.length s.qf, .slice d.Av d.vars.length d.qv, .slice d.At ((d.tabs.set ka (⟨Bd, qd, delT t.l (d.stack.getLastD 0)⟩ : Tb)).length) d.qt, .slice d.dk.A d.dk.l.length d.dk.q, .slice d.Ae d.effs.length d.qe, .int .i64 d.cost, .slice d.As ((d.stack.take (d.stack.length - 1)).length) d.qs, .int .i64 d.disks, .int .i64 d.sends, .bool d.fault, .string ByteArray.empty, .slice none 0 0, .slice none 0 0, .string ByteArray.empty, .slice none 0 0, .slice none 0 0, .slice none 0 0, .int .i64 0] 106, rows encI 2 1 d.As d.qs (d.stack.take (d.stack.length - 1)), rows encI 2 1 Bp_4 qp_4 (d.stack.drop (d.stack.length - 1)), ros encEn t.A t.l, box b7 [.slice d.Av d.vars.length d.qv, .slice d.At d.tabs.length d.qt, .slice d.dk.A d.dk.l.length d.dk.q] 46, box b4 [.int .i64 ((x.op : Nat) : Int), .int .i64 x.a, .int .i64 x.b, .int .i64 x.n] 89, rows encI 2 1 d.Av d.qv d.vars, rows Tb.cells 44 1 d.At d.qt (d.tabs.set ka (⟨Bd, qd, (delT t.l (d.stack.getLastD 0))⟩ : Tb)), rosS encEn (d.tabs.map Tb.ar), ros encEn d.dk.A d.dk.l, rows Ef.rcells 92 8 d.Ae d.qe d.effs, rosS encI (d.effs.map Ef.ar), ros encI s.Aa s.args, ros encB s.Ag s.flags, ros encI s.Af s.fail] (by rw [List.length_set] <;> rfl) ?_
    refine To.famS ((d.tabs.set ka (⟨Bd, qd, delT t.l (d.stack.getLastD 0)⟩ : Tb)).map Tb.ar) 9 rfl (fam_set (List.mem_of_getElem? (i := 0) rfl)) ?_
    refine To.del16 ?_
    refine To.del15 ?_
    refine To.del14 ?_
    refine To.del10 ?_
    refine To.del7 ?_
    refine To.del6 ?_
    refine To.del5 ?_
    refine To.del4 ?_
    refine To.del1 ?_
    refine To.up7 ?_
    refine To.up7 ?_
    refine To.up7 ?_
    refine To.up3 ?_
    refine To.up7 ?_
    refine To.up7 ?_
    refine To.up6 ?_
    refine To.end1 (.inl rfl) Tryz.results27 rfl ?_
    exact ⟨((a + 1 : Nat) : Int), (⟨d.Av, d.qv, d.vars, d.At, d.qt, (d.tabs.set ka (⟨Bd, qd, delT t.l (d.stack.getLastD 0)⟩ : Tb)), ⟨d.dk.A, d.dk.q, d.dk.l⟩, d.Ae, d.qe, d.effs, d.cost, d.As, d.qs, (d.stack.take (d.stack.length - 1)), d.next, d.sends, d.disks, d.fault⟩ : Dm), rfl, rfl, rstep_26 (by omega) hfa (by simp [Dm.val, hka, ht, hgt, map_set, -List.map_set, -List.getLastD_eq_getLast?])⟩
   refine FlowS.fi fl46_1 ?_
   refine FlowS.th 1 c43 ?_
   refine FlowS.fi fl89_1 ?_
   refine FlowS.th 0 c3 ?_
   refine FlowS.fi fl46_1 ?_
   refine FlowS.th 1 c43 ?_
   refine FlowS.fi fl89_1 ?_
   refine FlowS.th 0 c3 ?_
   refine FlowS.f rfl (Rd.as (v' := .pointer (some ⟨blk d.At, ofs d.At + ka * 1, none⟩)) rfl (Rd.indexS (j := ka) hAt rfl rfl (by rw [← hka]; rfl) s43 hkl)) ?_
   refine FlowS.mo ?_
   refine FlowS.r rfl (Rd.load (i := 5) rfl rfl c44 rfl (gives_1 (rows_gives encTb ht) rfl)) ?_
   refine FlowS.call [3, 9] rfl rfl rfl rfl (Ent.fn rfl rfl ca41) rfl (rpop_fn b s d 1 (by first | omega | (simp only [List.length_append, List.length_dropLast, List.length_cons, List.length_nil, List.length_take]; omega))) ?_
   rintro _ _ ⟨Bp_5, qp_5, rfl, rfl⟩
   refine ⟨oks_cons (oks_at 5 rfl) (oks_cons (oks_at 4 rfl) (oks_nil _)), ?_⟩
   refine FlowS.r rfl (Rd.indexRows (i := 2) (j := 0) rfl rfl rfl s24 rfl (drop1_0 (by omega))) ?_
   refine FlowS.r rfl (Rd.load (i := 2) rfl rfl c2 rfl (gives_1 (rows_gives encI_ok (drop1_0 (by omega))) rfl)) ?_
   refine FlowS.callM rfl rfl rfl rfl rfl (Ent.fn rfl rfl ca45) (rdel_fn t.A t.q t.l (d.stack.getLastD 0) (by omega)) rfl (oks_cons (oks_at 3 rfl) (oks_nil _)) ?_
   rintro _ _ ⟨Bd, qd, rfl, rfl⟩
   refine ⟨rfl, ?_⟩
   refine FlowS.f rfl (Rd.as (v' := .pointer (some ⟨blk d.At, ofs d.At + ka * 1, none⟩)) rfl (Rd.indexS (j := ka) hAt rfl rfl (by rw [← hka]; rfl) s43 hkl)) ?_
   refine FlowS.up rfl rfl rfl (Up.store (i := 8) rfl rfl rfl c44 rfl rfl (rows_takes encTb (y := (⟨Bd, qd, (delT t.l (d.stack.getLastD 0))⟩ : Tb)) (by decide) (by omega))) (oks_cons (oks_at 6 rfl) (oks_cons (oks_at 5 rfl) (oks_nil _))) ?_
   refine FlowS.fin ?_
   refine To.blockN (To.thenN (To.seq (To.reg (To.m ?_))))
   refine To.r (Rd.inc rfl rfl rfl (by omega)) ?_
   refine To.a (To.nil (To.thenN (To.ret ?_)))
   refine To.layRow ?_
   refine To.as [ros encEn Bd (delT t.l (d.stack.getLastD 0)), box b [.slice s.Aa s.args.length s.qa, .int .i64 s.now, .slice s.Ag s.flags.length s.qg, .int .i64 s.dsk, .slice s.Af s.fail.length s.qf, .slice d.Av d.vars.length d.qv, .slice d.At ((d.tabs.set ka (⟨Bd, qd, delT t.l (d.stack.getLastD 0)⟩ : Tb)).length) d.qt, .slice d.dk.A d.dk.l.length d.dk.q, .slice d.Ae d.effs.length d.qe, .int .i64 d.cost, .slice d.As ((d.stack.take (d.stack.length - 1)).length) d.qs, .int .i64 d.disks, .int .i64 d.sends, .bool d.fault, .string ByteArray.empty, .slice none 0 0, .slice none 0 0, .string ByteArray.empty, .slice none 0 0, .slice none 0 0, .slice none 0 0, .int .i64 0] 106, rows encI 2 1 d.As d.qs (d.stack.take (d.stack.length - 1)), rows encI 2 1 Bp_5 qp_5 (d.stack.drop (d.stack.length - 1)), ros encEn t.A t.l, box b7 [.slice d.Av d.vars.length d.qv, .slice d.At d.tabs.length d.qt, .slice d.dk.A d.dk.l.length d.dk.q] 46, box b4 [.int .i64 ((x.op : Nat) : Int), .int .i64 x.a, .int .i64 x.b, .int .i64 x.n] 89, rows encI 2 1 d.Av d.qv d.vars, rows Tb.cells 44 1 d.At d.qt (d.tabs.set ka (⟨Bd, qd, (delT t.l (d.stack.getLastD 0))⟩ : Tb)), rosS encEn (d.tabs.map Tb.ar), ros encEn d.dk.A d.dk.l, rows Ef.rcells 92 8 d.Ae d.qe d.effs, rosS encI (d.effs.map Ef.ar), ros encI s.Aa s.args, ros encB s.Ag s.flags, ros encI s.Af s.fail] (by rw [List.length_set] <;> rfl) ?_
   refine To.famS ((d.tabs.set ka (⟨Bd, qd, delT t.l (d.stack.getLastD 0)⟩ : Tb)).map Tb.ar) 9 rfl (fam_set (List.mem_of_getElem? (i := 0) rfl)) ?_
   refine To.del16 ?_
   refine To.del15 ?_
   refine To.del14 ?_
   refine To.del10 ?_
   refine To.del7 ?_
   refine To.del6 ?_
   refine To.del5 ?_
   refine To.del4 ?_
   refine To.del1 ?_
   refine To.up7 ?_
   refine To.up7 ?_
   refine To.up7 ?_
   refine To.up3 ?_
   refine To.up7 ?_
   refine To.up7 ?_
   refine To.up6 ?_
   refine To.end1 (.inl rfl) Tryz.results27 rfl ?_
   exact ⟨((a + 1 : Nat) : Int), (⟨d.Av, d.qv, d.vars, d.At, d.qt, (d.tabs.set ka (⟨Bd, qd, delT t.l (d.stack.getLastD 0)⟩ : Tb)), ⟨d.dk.A, d.dk.q, d.dk.l⟩, d.Ae, d.qe, d.effs, d.cost, d.As, d.qs, (d.stack.take (d.stack.length - 1)), d.next, d.sends, d.disks, d.fault⟩ : Dm), rfl, rfl, rstep_26 (by omega) hfa (by simp [Dm.val, hka, ht, hgt, map_set, -List.map_set, -List.getLastD_eq_getLast?])⟩
  refine To.seq (To.reg ?_)
  refine To.f fl89_0 ?_
  refine To.lo 1 c3 ?_
  refine To.r (Rd.eql rfl rfl rfl) ?_
  refine To.a (To.nil (To.thenN ?_))
  refine To.condP rfl (fun k101 => ?_) (fun k101 => ?_)
  ·
   refine To.seq (To.reg ?_)
   refine To.f fl89_1 ?_
   refine To.lo 1 c3 ?_
   refine To.a (To.nil (To.thenN (To.ret (To.blockR (To.thenR ?_)))))
   refine To.del12 ?_
   refine To.del11 ?_
   refine To.del10 ?_
   refine To.del1 ?_
   refine To.del0 ?_
   refine To.end1 (.inl rfl) Tryz.results27 rfl ?_
   exact ⟨x.a, d, rfl, rfl, rstep_27 (by omega) hfa⟩
  refine To.seq (To.reg ?_)
  refine To.f fl89_0 ?_
  refine To.lo 1 c3 ?_
  refine To.r (Rd.eql rfl rfl rfl) ?_
  refine To.a (To.nil (To.thenN ?_))
  refine To.condP rfl (fun k107 => ?_) (fun k107 => ?_)
  ·
   refine To.seq (To.reg (To.m ?_))
   refine To.call [2, 8] rfl rfl rfl (Ent.fn rfl rfl ca41) rfl (rpop_fn b s d 1 (by first | omega | (simp only [List.length_append, List.length_dropLast, List.length_cons, List.length_nil, List.length_take]; omega))) ?_
   rintro _ _ ⟨Bp_6, qp_6, rfl, rfl⟩
   refine To.r (Rd.indexRows (i := 2) (j := 0) rfl rfl rfl s24 rfl (drop1_0 (by omega))) ?_
   refine To.r (Rd.load (i := 2) rfl rfl c2 rfl (gives_1 (rows_gives encI_ok (drop1_0 (by omega))) rfl)) ?_
   refine To.r (Rd.eql rfl rfl rfl) ?_
   refine To.nil (To.thenN ?_)
   refine To.condP rfl (fun k115 => ?_) (fun k115 => ?_)
   ·
    refine To.seq (To.reg ?_)
    refine To.f fl89_1 ?_
    refine To.lo 4 c3 ?_
    refine To.a (To.nil (To.thenN (To.ret (To.blockR (To.thenR ?_)))))
    refine To.del13 ?_
    refine To.del12 ?_
    refine To.del11 ?_
    refine To.del4 ?_
    refine To.del3 ?_
    refine To.del2 ?_
    refine To.up7 ?_
    refine To.up7 ?_
    refine To.up7 ?_
    refine To.up7 ?_
    refine To.up7 ?_
    refine To.up7 ?_
    refine To.up6 ?_
    refine To.end1 (.inl rfl) Tryz.results27 rfl ?_
    exact ⟨x.a, (⟨d.Av, d.qv, d.vars, d.At, d.qt, d.tabs, ⟨d.dk.A, d.dk.q, d.dk.l⟩, d.Ae, d.qe, d.effs, d.cost, d.As, d.qs, (d.stack.take (d.stack.length - 1)), d.next, d.sends, d.disks, d.fault⟩ : Dm), rfl, rfl, rstep_28 (by omega) hfa rfl ((if_pos k115).symm)⟩
   refine To.skip (To.blockN (To.thenN (To.seq (To.reg (To.m ?_)))))
   refine To.r (Rd.inc rfl rfl rfl (by omega)) ?_
   refine To.a (To.nil (To.thenN (To.ret ?_)))
   refine To.del13 ?_
   refine To.del12 ?_
   refine To.del11 ?_
   refine To.del4 ?_
   refine To.del3 ?_
   refine To.del2 ?_
   refine To.up7 ?_
   refine To.up7 ?_
   refine To.up7 ?_
   refine To.up7 ?_
   refine To.up7 ?_
   refine To.up7 ?_
   refine To.up6 ?_
   refine To.end1 (.inl rfl) Tryz.results27 rfl ?_
   exact ⟨((a + 1 : Nat) : Int), (⟨d.Av, d.qv, d.vars, d.At, d.qt, d.tabs, ⟨d.dk.A, d.dk.q, d.dk.l⟩, d.Ae, d.qe, d.effs, d.cost, d.As, d.qs, (d.stack.take (d.stack.length - 1)), d.next, d.sends, d.disks, d.fault⟩ : Dm), rfl, rfl, rstep_28 (by omega) hfa rfl ((if_neg k115).symm)⟩
  refine To.seq (To.reg ?_)
  refine To.f fl89_0 ?_
  refine To.lo 1 c3 ?_
  refine To.r (Rd.eql rfl rfl rfl) ?_
  refine To.a (To.nil (To.thenN ?_))
  refine To.condP rfl (fun k118 => ?_) (fun k118 => ?_)
  ·
   refine To.reg (To.m ?_)
   refine To.call [2, 2, 2, 2, 2, 2, 2, 2] rfl rfl rfl (Ent.fn rfl rfl ca46) rfl (pay_fn b s d hel hcs) ?_
   rintro _ _ ⟨rfl, d', rfl, hv⟩
   refine To.nil (To.blockN (To.thenN (To.seq (To.reg (To.m ?_)))))
   refine To.r (Rd.inc rfl rfl rfl (by omega)) ?_
   refine To.a (To.nil (To.thenN (To.ret ?_)))
   refine To.del12 ?_
   refine To.del11 ?_
   refine To.del10 ?_
   refine To.del9 ?_
   refine To.del8 ?_
   refine To.end1 (.inl rfl) Tryz.results27 rfl ?_
   exact ⟨((a + 1 : Nat) : Int), d', rfl, rfl, rstep_29 (by omega) hfa hcs hv⟩
  refine To.seq (To.reg ?_)
  refine To.f fl89_0 ?_
  refine To.lo 1 c3 ?_
  refine To.r (Rd.eql rfl rfl rfl) ?_
  refine To.a (To.nil (To.thenN ?_))
  refine To.condP rfl (fun k124 => ?_) (fun k124 => ?_)
  ·
   have hsn2 := hsn (by omega)
   obtain ⟨kn, hkn⟩ : ∃ kn : Nat, x.n = ((kn : Nat) : Int) := ⟨x.n.toNat, by omega⟩
   refine To.flow [box b4 [.int .i64 ((x.op : Nat) : Int), .int .i64 x.a, .int .i64 x.b, .int .i64 x.n] 89] [⟨0, [], 0⟩, ⟨1, [], 0⟩, ⟨2, [], 0⟩, ⟨3, [], 0⟩, ⟨4, [], 0⟩, ⟨5, [], 0⟩, ⟨6, [], 0⟩, ⟨7, [], 0⟩, ⟨8, [], 5⟩, ⟨9, [], 0⟩, ⟨10, [], 5⟩] mixed (by kernel_rfl) (oks_cons (oks_at 1 rfl) (oks_nil _)) ?_
   refine FlowS.mo ?_
   refine FlowS.fi fl89_1 ?_
   refine FlowS.th 0 c3 ?_
   refine FlowS.fi fl89_2 ?_
   refine FlowS.th 0 c3 ?_
   refine FlowS.mo ?_
   refine FlowS.fi fl89_3 ?_
   refine FlowS.f rfl (Rd.as (v' := .int .i64 ((kn : Nat) : Int)) (congrArg (Value.int .i64) hkn) (Rd.load (i := 0) rfl rfl c2 rfl (box_gives1 rfl))) ?_
   refine FlowS.call [2, 8] rfl rfl rfl rfl (Ent.fn rfl rfl ca41) rfl (rpop_fn b s d kn (by first | omega | (simp only [List.length_append, List.length_dropLast, List.length_cons, List.length_nil, List.length_take]; omega))) ?_
   rintro _ _ ⟨Bp_7, qp_7, rfl, rfl⟩
   refine ⟨oks_cons (oks_at 4 rfl) (oks_nil _), ?_⟩
   refine FlowS.f rfl (Rd.build (vs := [(0, .int .i64 1), (1, .int .i64 x.a), (2, .int .i64 x.b), (7, .slice Bp_7 ((d.stack.drop (d.stack.length - kn)).length) qp_7)]) (cells := [.int .i64 1, .int .i64 x.a, .int .i64 x.b, .int .i64 0, .int .i64 0, .int .i64 0, .bool false, .slice Bp_7 ((d.stack.drop (d.stack.length - kn)).length) qp_7]) rfl rfl rfl (by kernel_rfl)) ?_
   refine FlowS.call [0, 4, 4, 4, 4, 4, 4, 0, 0] rfl rfl rfl rfl (Ent.fn rfl rfl ca47) rfl (sentR_fn b s (⟨d.Av, d.qv, d.vars, d.At, d.qt, d.tabs, ⟨d.dk.A, d.dk.q, d.dk.l⟩, d.Ae, d.qe, d.effs, d.cost, d.As, d.qs, (d.stack.take (d.stack.length - kn)), d.next, d.sends, d.disks, d.fault⟩ : Dm) (⟨1, x.a, x.b, 0, 0, 0, false, Bp_7, qp_7, (d.stack.drop (d.stack.length - kn))⟩ : Ef) hel hss) ?_
   rintro _ _ ⟨rfl, d', rfl, hv⟩
   refine ⟨oks_cons (oks_at 9 rfl) (oks_nil _), ?_⟩
   refine FlowS.fin ?_
   refine To.blockN (To.thenN (To.seq (To.reg (To.m ?_))))
   refine To.r (Rd.inc rfl rfl rfl (by omega)) ?_
   refine To.a (To.nil (To.thenN (To.ret ?_)))
   refine To.del12 ?_
   refine To.del11 ?_
   refine To.del10 ?_
   refine To.del9 ?_
   refine To.del8 ?_
   refine To.end1 (.inl rfl) Tryz.results27 rfl ?_
   exact ⟨((a + 1 : Nat) : Int), d', rfl, rfl, rstep_30 (by omega) hfa hss hkn hv⟩
  refine To.seq (To.reg ?_)
  refine To.f fl89_0 ?_
  refine To.lo 1 c3 ?_
  refine To.r (Rd.eql rfl rfl rfl) ?_
  refine To.a (To.nil (To.thenN ?_))
  refine To.condP rfl (fun k139 => ?_) (fun k139 => ?_)
  ·
   refine To.seq ?_
   have hsn2 := hsn (by omega)
   obtain ⟨kn, hkn⟩ : ∃ kn : Nat, x.n = ((kn : Nat) : Int) := ⟨x.n.toNat, by omega⟩
   refine To.reg (To.m ?_)
   refine To.f fl89_3 ?_
   refine To.r (Rd.as (v' := .int .i64 ((kn : Nat) : Int)) (congrArg (Value.int .i64) hkn) (Rd.load (i := 1) rfl rfl c2 rfl (box_gives1 rfl))) ?_
   refine To.r (Rd.inc rfl rfl rfl (by omega)) ?_
   refine To.call [2, 8] rfl rfl rfl (Ent.fn rfl rfl ca41) rfl (rpop_fn b s d (kn + 1) (by first | omega | (simp only [List.length_append, List.length_dropLast, List.length_cons, List.length_nil, List.length_take]; omega))) ?_
   rintro _ _ ⟨Bp_8, qp_8, rfl, rfl⟩
   refine To.a (To.nil (To.thenN ?_))
   refine To.up2 ?_
   have hNl : (d.stack.drop (d.stack.length - (kn + 1))).length = kn + 1 := by rw [List.length_drop]; omega
   have hN0 : (d.stack.drop (d.stack.length - (kn + 1)))[0]? = some ((d.stack.drop (d.stack.length - (kn + 1))).headD 0) := by rw [List.headD_eq_head?_getD, List.head?_eq_getElem?, List.getElem?_eq_getElem (by omega)]; rfl
   refine To.know (p := (d.stack.drop (d.stack.length - (kn + 1))).length ≤ qp_8) (fun w hw => rows_capD 0 rfl hw) (fun hqp => ?_)
   refine To.layRow ?_
   refine To.tailR encI_ok qp_8 1 0 rfl hqp (by omega) ?_
   refine To.flow [] [⟨0, [], 0⟩, ⟨1, [], 0⟩, ⟨3, [], 0⟩, ⟨6, [], 0⟩, ⟨7, [], 0⟩, ⟨2, [], 1⟩, ⟨4, [], 1⟩, ⟨5, [], 1⟩, ⟨8, [], 0⟩, ⟨9, [], 5⟩] mixed (by kernel_rfl) (oks_nil _) ?_
   refine FlowS.mo ?_
   refine FlowS.fi fl89_2 ?_
   refine FlowS.mo ?_
   refine FlowS.mo ?_
   refine FlowS.f rfl (Rd.as (v' := .slice (slAt Bp_8 qp_8 1 1) ((d.stack.drop (d.stack.length - (kn + 1))).drop 1).length (qp_8 - 1)) (congrArg (fun z => Value.slice (slAt Bp_8 qp_8 1 1) z (qp_8 - 1)) (List.length_drop).symm) (Rd.sliceLo (lo := 1) rfl s24 rfl rfl (by omega))) ?_
   refine FlowS.lo 5 c3 ?_
   refine FlowS.r rfl (Rd.indexRos encI_ok (i := 1) (j := 0) rfl rfl rfl s24 rfl hN0) ?_
   refine FlowS.r rfl (Rd.load (i := 1) rfl rfl c2 rfl (gives_1 (ros_gives encI_ok hN0) rfl)) ?_
   refine FlowS.f rfl (Rd.build (vs := [(0, .int .i64 2), (2, .int .i64 x.b), (3, .int .i64 ((d.stack.drop (d.stack.length - (kn + 1))).headD 0)), (7, .slice (slAt Bp_8 qp_8 1 1) (((d.stack.drop (d.stack.length - (kn + 1))).drop 1).length) (qp_8 - 1))]) (cells := [.int .i64 2, .int .i64 0, .int .i64 x.b, .int .i64 ((d.stack.drop (d.stack.length - (kn + 1))).headD 0), .int .i64 0, .int .i64 0, .bool false, .slice (slAt Bp_8 qp_8 1 1) (((d.stack.drop (d.stack.length - (kn + 1))).drop 1).length) (qp_8 - 1)]) rfl rfl rfl (by kernel_rfl)) ?_
   refine FlowS.call [2, 5, 5, 5, 5, 5, 5, 2, 0] rfl rfl rfl rfl (Ent.fn rfl rfl ca47) rfl (sent_fn b s (⟨d.Av, d.qv, d.vars, d.At, d.qt, d.tabs, ⟨d.dk.A, d.dk.q, d.dk.l⟩, d.Ae, d.qe, d.effs, d.cost, d.As, d.qs, (d.stack.take (d.stack.length - (kn + 1))), d.next, d.sends, d.disks, d.fault⟩ : Dm) (⟨2, 0, x.b, ((d.stack.drop (d.stack.length - (kn + 1))).headD 0), 0, 0, false, (slAt Bp_8 qp_8 1 1), (qp_8 - 1), ((d.stack.drop (d.stack.length - (kn + 1))).drop 1)⟩ : Ef) hel hss) ?_
   rintro _ _ ⟨rfl, d', rfl, hv⟩
   refine ⟨oks_nil _, ?_⟩
   refine FlowS.fin ?_
   refine To.blockN (To.thenN (To.seq (To.reg (To.m ?_))))
   refine To.r (Rd.inc rfl rfl rfl (by omega)) ?_
   refine To.a (To.nil (To.thenN (To.ret ?_)))
   refine To.del13 ?_
   refine To.del12 ?_
   refine To.del11 ?_
   refine To.del10 ?_
   refine To.del9 ?_
   refine To.del8 ?_
   refine To.end1 (.inl rfl) Tryz.results27 rfl ?_
   exact ⟨((a + 1 : Nat) : Int), d', rfl, rfl, rstep_31 (by omega) hfa hss hkn (h31 (by omega)) (show kn < d.stack.length by omega) hv⟩
  refine To.seq (To.reg ?_)
  refine To.f fl89_0 ?_
  refine To.lo 1 c3 ?_
  refine To.r (Rd.eql rfl rfl rfl) ?_
  refine To.a (To.nil (To.thenN ?_))
  refine To.condP rfl (fun k158 => ?_) (fun k158 => ?_)
  ·
   refine To.seq (To.reg (To.m ?_))
   refine To.call [2, 8] rfl rfl rfl (Ent.fn rfl rfl ca41) rfl (rpop_fn b s d 2 (by first | omega | (simp only [List.length_append, List.length_dropLast, List.length_cons, List.length_nil, List.length_take]; omega))) ?_
   rintro _ _ ⟨Bp_9, qp_9, rfl, rfl⟩
   refine To.a (To.nil (To.thenN (To.seq ?_)))
   refine To.flow [] [⟨0, [], 0⟩, ⟨1, [], 0⟩, ⟨4, [], 0⟩, ⟨2, [], 1⟩, ⟨3, [], 1⟩, ⟨5, [], 1⟩, ⟨6, [], 1⟩, ⟨7, [], 5⟩] mixed (by kernel_rfl) (oks_nil _) ?_
   refine FlowS.mo ?_
   refine FlowS.mo ?_
   refine FlowS.mo ?_
   refine FlowS.r rfl (Rd.indexRows (i := 2) (j := 0) rfl rfl rfl s24 rfl (drop2_0 (by omega))) ?_
   refine FlowS.r rfl (Rd.load (i := 2) rfl rfl c2 rfl (gives_1 (rows_gives encI_ok (drop2_0 (by omega))) rfl)) ?_
   refine FlowS.r rfl (Rd.indexRows (i := 2) (j := 1) rfl rfl rfl s24 rfl (drop2_1 (by omega))) ?_
   refine FlowS.r rfl (Rd.load (i := 2) rfl rfl c2 rfl (gives_1 (rows_gives encI_ok (drop2_1 (by omega))) rfl)) ?_
   refine FlowS.call [0, 4, 4, 4, 4, 4, 4, 0, 5] rfl rfl rfl rfl (Ent.fn rfl rfl ca48) rfl (store_fn b s (⟨d.Av, d.qv, d.vars, d.At, d.qt, d.tabs, ⟨d.dk.A, d.dk.q, d.dk.l⟩, d.Ae, d.qe, d.effs, d.cost, d.As, d.qs, (d.stack.take (d.stack.length - 2)), d.next, d.sends, d.disks, d.fault⟩ : Dm) (d.stack.dropLast.getLastD 0) (d.stack.getLastD 0) hel hdd ho.dsk ho.fail hgd) ?_
   rintro _ _ ⟨rfl, d', rfl, hv⟩
   refine ⟨oks_nil _, ?_⟩
   refine FlowS.fin ?_
   refine To.thenN ?_
   refine To.cond rfl (fun k171 => ?_) (fun k171 => ?_)
   ·
    refine To.seq (To.reg ?_)
    refine To.f fl89_2 ?_
    refine To.lo 10 c3 ?_
    refine To.a (To.nil (To.thenN (To.ret (To.blockR (To.thenR ?_)))))
    refine To.del12 ?_
    refine To.del11 ?_
    refine To.del10 ?_
    refine To.del9 ?_
    refine To.del8 ?_
    refine To.end1 (.inl rfl) Tryz.results27 rfl ?_
    exact ⟨x.b, d', rfl, rfl, rstep_32 (by omega) hfa hv ((if_pos k171).symm)⟩
   refine To.skip (To.blockN (To.thenN (To.seq (To.reg (To.m ?_)))))
   refine To.r (Rd.inc rfl rfl rfl (by omega)) ?_
   refine To.a (To.nil (To.thenN (To.ret ?_)))
   refine To.del12 ?_
   refine To.del11 ?_
   refine To.del10 ?_
   refine To.del9 ?_
   refine To.del8 ?_
   refine To.end1 (.inl rfl) Tryz.results27 rfl ?_
   exact ⟨((a + 1 : Nat) : Int), d', rfl, rfl, rstep_32 (by omega) hfa hv ((if_neg (by rw [show decide (s.dsk + d.val.disks ∈ s.fail) = false from k171]; decide)).symm)⟩
  refine To.seq (To.reg ?_)
  refine To.f fl89_0 ?_
  refine To.lo 1 c3 ?_
  refine To.r (Rd.eql rfl rfl rfl) ?_
  refine To.a (To.nil (To.thenN ?_))
  refine To.condP rfl (fun k174 => ?_) (fun k174 => ?_)
  ·
   refine To.seq ?_
   obtain ⟨ka, hka⟩ : ∃ ka : Nat, x.a = ((ka : Nat) : Int) := ⟨x.a.toNat, by have := hvar (by omega); omega⟩
   have hkl : ka < d.vars.length := by have := hvar (by omega); omega
   obtain ⟨y, hel2⟩ : ∃ z0, d.vars[ka]? = some z0 := ⟨d.vars[ka]'(by omega), List.getElem?_eq_getElem _⟩
   refine To.flow [box b4 [.int .i64 ((x.op : Nat) : Int), .int .i64 x.a, .int .i64 x.b, .int .i64 x.n] 89] [⟨0, [], 0⟩, ⟨1, [], 0⟩, ⟨2, [], 0⟩, ⟨3, [], 0⟩, ⟨4, [], 5⟩, ⟨5, [], 1⟩, ⟨6, [], 1⟩, ⟨7, [], 5⟩] mixed (by kernel_rfl) (oks_cons (oks_at 1 rfl) (oks_nil _)) ?_
   refine FlowS.mo ?_
   refine FlowS.fi fl89_1 ?_
   refine FlowS.f rfl (Rd.as (v' := .int .i64 ((ka : Nat) : Int)) (congrArg (Value.int .i64) hka) (Rd.load (i := 0) rfl rfl c3 rfl (box_gives1 rfl))) ?_
   refine FlowS.mo ?_
   refine FlowS.call [2, 8] rfl rfl rfl rfl (Ent.fn rfl rfl ca41) rfl (rpop_fn b s d 1 (by first | omega | (simp only [List.length_append, List.length_dropLast, List.length_cons, List.length_nil, List.length_take]; omega))) ?_
   rintro _ _ ⟨Bp_10, qp_10, rfl, rfl⟩
   refine ⟨oks_cons (oks_at 4 rfl) (oks_nil _), ?_⟩
   refine FlowS.r rfl (Rd.indexRows (i := 2) (j := 0) rfl rfl rfl s24 rfl (drop1_0 (by omega))) ?_
   refine FlowS.r rfl (Rd.load (i := 2) rfl rfl c2 rfl (gives_1 (rows_gives encI_ok (drop1_0 (by omega))) rfl)) ?_
   refine FlowS.call [0, 4, 4, 4, 4, 4, 4, 0, 5] rfl rfl rfl rfl (Ent.fn rfl rfl ca49) rfl (fetch_fn b s (⟨d.Av, d.qv, d.vars, d.At, d.qt, d.tabs, ⟨d.dk.A, d.dk.q, d.dk.l⟩, d.Ae, d.qe, d.effs, d.cost, d.As, d.qs, (d.stack.take (d.stack.length - 1)), d.next, d.sends, d.disks, d.fault⟩ : Dm) ka y (d.stack.getLastD 0) hel2 hel hdd ho.dsk ho.fail hgd) ?_
   rintro _ _ ⟨rfl, d', rfl, hv⟩
   refine ⟨oks_cons (oks_at 10 rfl) (oks_nil _), ?_⟩
   refine FlowS.fin ?_
   refine To.thenN ?_
   refine To.cond rfl (fun k185 => ?_) (fun k185 => ?_)
   ·
    refine To.seq (To.reg ?_)
    refine To.f fl89_2 ?_
    refine To.lo 10 c3 ?_
    refine To.a (To.nil (To.thenN (To.ret (To.blockR (To.thenR ?_)))))
    refine To.del12 ?_
    refine To.del11 ?_
    refine To.del10 ?_
    refine To.del9 ?_
    refine To.del8 ?_
    refine To.end1 (.inl rfl) Tryz.results27 rfl ?_
    exact ⟨x.b, d', rfl, rfl, rstep_33 (by omega) hfa hka hv ((if_pos k185).symm)⟩
   refine To.skip (To.blockN (To.thenN (To.seq (To.reg (To.m ?_)))))
   refine To.r (Rd.inc rfl rfl rfl (by omega)) ?_
   refine To.a (To.nil (To.thenN (To.ret ?_)))
   refine To.del12 ?_
   refine To.del11 ?_
   refine To.del10 ?_
   refine To.del9 ?_
   refine To.del8 ?_
   refine To.end1 (.inl rfl) Tryz.results27 rfl ?_
   exact ⟨((a + 1 : Nat) : Int), d', rfl, rfl, rstep_33 (by omega) hfa hka hv ((if_neg (by rw [show decide (s.dsk + d.val.disks ∈ s.fail) = false from k185]; decide)).symm)⟩
  refine To.reg (To.m ?_)
  refine To.r (Rd.nilCheck rfl rfl) ?_
  refine To.f fl106_5 ?_
  refine To.u (Up.store (i := 2) rfl rfl rfl c4 rfl rfl (box_takes1 rfl)) ?_
  refine To.nil (To.blockN (To.thenN (To.seq (To.reg (To.m ?_)))))
  refine To.r (Rd.inc rfl rfl rfl (by omega)) ?_
  refine To.a (To.nil (To.thenN (To.ret ?_)))
  refine To.del12 ?_
  refine To.del11 ?_
  refine To.del10 ?_
  refine To.del1 ?_
  refine To.del0 ?_
  refine To.end1 (.inl rfl) Tryz.results27 rfl ?_
  exact ⟨((a + 1 : Nat) : Int), (⟨d.Av, d.qv, d.vars, d.At, d.qt, d.tabs, ⟨d.dk.A, d.dk.q, d.dk.l⟩, d.Ae, d.qe, d.effs, d.cost, d.As, d.qs, d.stack, d.next, d.sends, d.disks, true⟩ : Dm), rfl, rfl, rstep_34 (by omega) rfl⟩
end Go.Proofs.YtoehnbacbobhiaaGreatDoor
