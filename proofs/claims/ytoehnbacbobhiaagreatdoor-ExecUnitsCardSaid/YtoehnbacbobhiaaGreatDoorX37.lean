/- The reference's execution: what pushes a number. Own text (walks printed by sx.py). -/
import Derived.Test.YtoehnbacbobhiaaGreatDoorL1
import Derived.Test.YtoehnbacbobhiaaGreatDoorX36
set_option linter.unusedVariables false
set_option linter.unusedSimpArgs false
namespace Go.Proofs.YtoehnbacbobhiaaGreatDoor
open Go.RowKit Go.Flow Go.Mem Go.Sep
structure Okr (s : Sm) (d : Dv) : Prop where
  tabs : ∀ t ∈ d.tabs, Good t
  disk : Good d.disk
  fail : s.fail.length ≤ 1000000
  effs : d.effs.length ≤ 2000000
  sends : 0 ≤ d.sends ∧ d.sends ≤ 8
  disks : 0 ≤ d.disks ∧ d.disks ≤ 2000000
  dsk : 0 ≤ s.dsk ∧ s.dsk ≤ 1000000000
theorem drop1_0 {l : List Int} (h : 0 < l.length) : (l.drop (l.length - 1))[0]? = some (l.getLastD 0) := by rw [List.getElem?_drop, Nat.add_zero]; exact last_at h
theorem drop2_1 {l : List Int} (h : 2 ≤ l.length) : (l.drop (l.length - 2))[1]? = some (l.getLastD 0) := by rw [List.getElem?_drop, show l.length - 2 + 1 = l.length - 1 by omega]; exact last_at (by omega)
theorem drop2_0 {l : List Int} (h : 2 ≤ l.length) : (l.drop (l.length - 2))[0]? = some (l.dropLast.getLastD 0) := by
  have h1 := last_at (l := l.dropLast) (by rw [List.length_dropLast]; omega)
  rw [List.length_dropLast, List.getElem?_dropLast, if_pos (by omega)] at h1
  rw [List.getElem?_drop, Nat.add_zero, show l.length - 2 = l.length - 1 - 1 by omega]; exact h1
theorem tk1 (l : List Int) : l.take (l.length - 1) = l.dropLast := (List.dropLast_eq_take).symm
theorem tk2 (l : List Int) : l.take (l.length - 2) = l.dropLast.dropLast := by
  rw [← tk1, ← tk1, List.length_take, List.take_take]
  congr 1; omega
set_option maxHeartbeats 2000000 in
set_option maxRecDepth 100000 in
theorem load_fn (b : Nat) (s : Sm) (d : Dm) (x : Ins) (hop : 1 ≤ ((x.op : Nat) : Int) ∧ ((x.op : Nat) : Int) ≤ 10) (hf : Fit s x d.val) (ho : Okr s d.val) :
    Does Tryz.prog 40 [.pointer (some ⟨b, 0, none⟩), .agg (Ins.rcells x).toArray] [box b [.slice s.Aa s.args.length s.qa, .int .i64 s.now, .slice s.Ag s.flags.length s.qg, .int .i64 s.dsk, .slice s.Af s.fail.length s.qf, .slice d.Av d.vars.length d.qv, .slice d.At d.tabs.length d.qt, .slice d.dk.A d.dk.l.length d.dk.q, .slice d.Ae d.effs.length d.qe, .int .i64 d.cost, .slice d.As d.stack.length d.qs, .int .i64 d.disks, .int .i64 d.sends, .bool d.fault, .string ByteArray.empty, .slice none 0 0, .slice none 0 0, .string ByteArray.empty, .slice none 0 0, .slice none 0 0, .slice none 0 0, .int .i64 0] 106, rows encI 2 1 d.Av d.qv d.vars, rows Tb.cells 44 1 d.At d.qt d.tabs, rosS encEn (d.tabs.map Tb.ar), ros encEn d.dk.A d.dk.l, rows Ef.rcells 92 8 d.Ae d.qe d.effs, rosS encI (d.effs.map Ef.ar), rows encI 2 1 d.As d.qs d.stack, ros encI s.Aa s.args, ros encB s.Ag s.flags] (fun r Γ' => r = .tuple #[] ∧ ∃ d' : Dm, Γ' = [box b [.slice s.Aa s.args.length s.qa, .int .i64 s.now, .slice s.Ag s.flags.length s.qg, .int .i64 s.dsk, .slice s.Af s.fail.length s.qf, .slice d'.Av d'.vars.length d'.qv, .slice d'.At d'.tabs.length d'.qt, .slice d'.dk.A d'.dk.l.length d'.dk.q, .slice d'.Ae d'.effs.length d'.qe, .int .i64 d'.cost, .slice d'.As d'.stack.length d'.qs, .int .i64 d'.disks, .int .i64 d'.sends, .bool d'.fault, .string ByteArray.empty, .slice none 0 0, .slice none 0 0, .string ByteArray.empty, .slice none 0 0, .slice none 0 0, .slice none 0 0, .int .i64 0] 106, rows encI 2 1 d'.Av d'.qv d'.vars, rows Tb.cells 44 1 d'.At d'.qt d'.tabs, rosS encEn (d'.tabs.map Tb.ar), ros encEn d'.dk.A d'.dk.l, rows Ef.rcells 92 8 d'.Ae d'.qe d'.effs, rosS encI (d'.effs.map Ef.ar), rows encI 2 1 d'.As d'.qs d'.stack] ∧ d'.val = stepV s x d.val) := by
  have hht : d.stack.length ≤ 4001 := hf.height
  have hpp : popsN x ≤ ((d.stack.length : Nat) : Int) := hf.pops
  have hpo := pops_of x
  have hvar : ((x.op : Nat) : Int) = 2 ∨ ((x.op : Nat) : Int) = 24 ∨ ((x.op : Nat) : Int) = 33 → 0 ≤ x.a ∧ x.a < ((d.vars.length : Nat) : Int) := hf.var
  have htb : ((x.op : Nat) : Int) = 6 ∨ ((x.op : Nat) : Int) = 7 ∨ ((x.op : Nat) : Int) = 8 ∨ ((x.op : Nat) : Int) = 25 ∨ ((x.op : Nat) : Int) = 26 → 0 ≤ x.a ∧ x.a < ((d.tabs.length : Nat) : Int) := fun h => by
    have := hf.tab h
    have e : d.val.tabs.length = d.tabs.length := by show (d.tabs.map Tb.l).length = _; rw [List.length_map]
    rw [e] at this; exact this
  refine Does.enter Tryz.func40 rfl Tryz.ntmps40 rfl (fun w0 => ?_)
  refine To.seq (To.reg ?_)
  refine To.boxed rfl rfl rfl rfl rfl rfl (fun b3 => ?_)
  refine To.nil (To.thenN (To.seq (To.reg (To.m ?_))))
  refine To.r (Rd.nilCheck rfl rfl) ?_
  refine To.f fl106_1 ?_
  refine To.f fl68_0 ?_
  refine To.r (Rd.loadS (i := 1) (us := [.slice d.Av d.vars.length d.qv, .slice d.At d.tabs.length d.qt, .slice d.dk.A d.dk.l.length d.dk.q]) rfl rfl r46 rfl (box_gives (n := 3) rfl) rfl) ?_
  refine To.alloc rfl rfl rfl rfl z46 (fun b4 => ?_)
  refine To.u (Up.storeS (i := 0) rfl rfl rfl r46 rfl rfl rfl (box_takesAll rfl)) ?_
  refine To.nil (To.thenN (To.seq (To.reg ?_)))
  refine To.f fl89_0 ?_
  refine To.lo 1 c3 ?_
  refine To.nil (To.thenN (To.block (To.seq (To.reg ?_))))
  refine To.r (Rd.eql rfl rfl rfl) ?_
  refine To.a (To.nil (To.thenN ?_))
  refine To.condP rfl (fun k16 => ?_) (fun k16 => ?_)
  ·
   refine To.reg (To.m ?_)
   refine To.f fl89_3 ?_
   refine To.lo 1 c2 ?_
   refine To.call [2, 8] rfl rfl rfl (Ent.fn rfl rfl ca42) rfl (rpush_fn b s d x.n (by first | omega | (simp only [List.length_append, List.length_dropLast, List.length_cons, List.length_nil, List.length_take]; omega))) ?_
   rintro _ _ ⟨rfl, As, qs, rfl⟩
   refine To.nil (To.blockN ?_)
   refine To.del11 ?_
   refine To.del10 ?_
   refine To.del3 ?_
   refine To.del2 ?_
   refine To.up7 ?_
   refine To.up7 ?_
   refine To.up7 ?_
   refine To.up7 ?_
   refine To.up7 ?_
   refine To.up7 ?_
   refine To.up6 ?_
   refine To.end0 (.inr rfl) Tryz.results40 ?_
   exact ⟨rfl, (⟨d.Av, d.qv, d.vars, d.At, d.qt, d.tabs, ⟨d.dk.A, d.dk.q, d.dk.l⟩, d.Ae, d.qe, d.effs, d.cost, As, qs, (d.stack ++ [x.n]), d.next, d.sends, d.disks, d.fault⟩ : Dm), rfl, by first | (simp [stepV, tableV, unV, Dm.val, tk1, -List.getLastD_eq_getLast?, k16]; done) | (simp [stepV, tableV, unV, Dm.val, tk1, -List.getLastD_eq_getLast?, k16]; rfl)⟩
  refine To.seq (To.reg ?_)
  refine To.r (Rd.eql rfl rfl rfl) ?_
  refine To.a (To.nil (To.thenN ?_))
  refine To.condP rfl (fun k22 => ?_) (fun k22 => ?_)
  ·
   obtain ⟨ka, hka⟩ : ∃ ka : Nat, x.a = ((ka : Nat) : Int) := ⟨x.a.toNat, by have := hvar (by omega); omega⟩
   have hkl : ka < d.vars.length := by have := hvar (by omega); omega
   obtain ⟨y, hel2⟩ : ∃ z0, d.vars[ka]? = some z0 := ⟨d.vars[ka]'(by omega), List.getElem?_eq_getElem _⟩
   have hgd : d.vars[x.a.toNat]? = some y := by rw [hka, Int.toNat_natCast]; exact hel2
   refine To.reg (To.m ?_)
   refine To.f fl46_0 ?_
   refine To.lo 0 c24 ?_
   refine To.f fl89_1 ?_
   refine To.lo 1 c3 ?_
   refine To.r (Rd.indexRowsI (i := 3) (j := ka) rfl rfl rfl hka s24 rfl hel2) ?_
   refine To.r (Rd.load (i := 3) rfl rfl c2 rfl (gives_1 (rows_gives encI_ok hel2) rfl)) ?_
   refine To.call [2, 8] rfl rfl rfl (Ent.fn rfl rfl ca42) rfl (rpush_fn b s d y (by first | omega | (simp only [List.length_append, List.length_dropLast, List.length_cons, List.length_nil, List.length_take]; omega))) ?_
   rintro _ _ ⟨rfl, As_2, qs_2, rfl⟩
   refine To.nil (To.blockN ?_)
   refine To.del11 ?_
   refine To.del10 ?_
   refine To.del3 ?_
   refine To.del2 ?_
   refine To.up7 ?_
   refine To.up7 ?_
   refine To.up7 ?_
   refine To.up7 ?_
   refine To.up7 ?_
   refine To.up7 ?_
   refine To.up6 ?_
   refine To.end0 (.inr rfl) Tryz.results40 ?_
   exact ⟨rfl, (⟨d.Av, d.qv, d.vars, d.At, d.qt, d.tabs, ⟨d.dk.A, d.dk.q, d.dk.l⟩, d.Ae, d.qe, d.effs, d.cost, As_2, qs_2, (d.stack ++ [y]), d.next, d.sends, d.disks, d.fault⟩ : Dm), rfl, by first | (simp [stepV, tableV, unV, Dm.val, tk1, -List.getLastD_eq_getLast?, k22, hgd]; done) | (simp [stepV, tableV, unV, Dm.val, tk1, -List.getLastD_eq_getLast?, k22, hgd]; rfl)⟩
  refine To.seq (To.reg ?_)
  refine To.r (Rd.eql rfl rfl rfl) ?_
  refine To.a (To.nil (To.thenN ?_))
  refine To.condP rfl (fun k32 => ?_) (fun k32 => ?_)
  ·
   obtain ⟨ka, hka⟩ : ∃ ka : Nat, x.a = ((ka : Nat) : Int) := ⟨x.a.toNat, by have := hf.par (by omega); omega⟩
   have hkl : ka < s.args.length := by have := hf.par (by omega); omega
   obtain ⟨y, hel2⟩ : ∃ z0, s.args[ka]? = some z0 := ⟨s.args[ka]'(by omega), List.getElem?_eq_getElem _⟩
   have hgd : s.args[x.a.toNat]? = some y := by rw [hka, Int.toNat_natCast]; exact hel2
   refine To.flow [] [⟨0, [], 0⟩, ⟨1, [], 0⟩, ⟨2, [], 0⟩, ⟨3, [], 0⟩, ⟨4, [], 0⟩, ⟨6, [], 0⟩, ⟨5, [], 1⟩, ⟨7, [], 1⟩, ⟨8, [], 1⟩, ⟨9, [], 1⟩, ⟨10, [], 5⟩] mixed (by kernel_rfl) (oks_nil _) ?_
   refine FlowS.mo ?_
   refine FlowS.mo ?_
   refine FlowS.f rfl (Rd.nilCheck rfl rfl) ?_
   refine FlowS.fi fl106_0 ?_
   refine FlowS.fi fl51_0 ?_
   refine FlowS.fi fl89_1 ?_
   refine FlowS.lo 2 c24 ?_
   refine FlowS.lo 1 c3 ?_
   refine FlowS.r rfl (Rd.indexRosI encI_ok (i := 10) (j := ka) rfl rfl rfl hka s24 rfl hel2) ?_
   refine FlowS.r rfl (Rd.load (i := 10) rfl rfl c2 rfl (gives_1 (ros_gives encI_ok hel2) rfl)) ?_
   refine FlowS.call [2, 8] rfl rfl rfl rfl (Ent.fn rfl rfl ca42) rfl (rpush_fn b s d y (by first | omega | (simp only [List.length_append, List.length_dropLast, List.length_cons, List.length_nil, List.length_take]; omega))) ?_
   rintro _ _ ⟨rfl, As_3, qs_3, rfl⟩
   refine ⟨oks_nil _, ?_⟩
   refine FlowS.fin ?_
   refine To.blockN ?_
   refine To.del11 ?_
   refine To.del10 ?_
   refine To.del3 ?_
   refine To.del2 ?_
   refine To.up7 ?_
   refine To.up7 ?_
   refine To.up7 ?_
   refine To.up7 ?_
   refine To.up7 ?_
   refine To.up7 ?_
   refine To.up6 ?_
   refine To.end0 (.inr rfl) Tryz.results40 ?_
   exact ⟨rfl, (⟨d.Av, d.qv, d.vars, d.At, d.qt, d.tabs, ⟨d.dk.A, d.dk.q, d.dk.l⟩, d.Ae, d.qe, d.effs, d.cost, As_3, qs_3, (d.stack ++ [y]), d.next, d.sends, d.disks, d.fault⟩ : Dm), rfl, by first | (simp [stepV, tableV, unV, Dm.val, tk1, -List.getLastD_eq_getLast?, k32, hgd]; done) | (simp [stepV, tableV, unV, Dm.val, tk1, -List.getLastD_eq_getLast?, k32, hgd]; rfl)⟩
  refine To.seq (To.reg ?_)
  refine To.r (Rd.eql rfl rfl rfl) ?_
  refine To.a (To.nil (To.thenN ?_))
  refine To.condP rfl (fun k45 => ?_) (fun k45 => ?_)
  ·
   obtain ⟨ka, hka⟩ : ∃ ka : Nat, x.a = ((ka : Nat) : Int) := ⟨x.a.toNat, by have := hf.flag (by omega); omega⟩
   have hkl : ka < s.flags.length := by have := hf.flag (by omega); omega
   obtain ⟨y, hel2⟩ : ∃ z0, s.flags[ka]? = some z0 := ⟨s.flags[ka]'(by omega), List.getElem?_eq_getElem _⟩
   have hgd : s.flags[x.a.toNat]? = some y := by rw [hka, Int.toNat_natCast]; exact hel2
   refine To.flow [] [⟨0, [], 0⟩, ⟨1, [], 0⟩, ⟨2, [], 0⟩, ⟨3, [], 0⟩, ⟨4, [], 0⟩, ⟨6, [], 0⟩, ⟨5, [], 1⟩, ⟨7, [], 1⟩, ⟨8, [], 1⟩, ⟨9, [], 1⟩, ⟨10, [], 3⟩, ⟨11, [], 5⟩] mixed (by kernel_rfl) (oks_nil _) ?_
   refine FlowS.mo ?_
   refine FlowS.mo ?_
   refine FlowS.f rfl (Rd.nilCheck rfl rfl) ?_
   refine FlowS.fi fl106_0 ?_
   refine FlowS.fi fl51_2 ?_
   refine FlowS.fi fl89_1 ?_
   refine FlowS.lo 2 c47 ?_
   refine FlowS.lo 1 c3 ?_
   refine FlowS.r rfl (Rd.indexRosI encB_ok (i := 11) (j := ka) rfl rfl rfl hka s47 rfl hel2) ?_
   refine FlowS.r rfl (Rd.load (i := 11) rfl rfl c4 rfl (gives_1 (ros_gives encB_ok hel2) rfl)) ?_
   refine FlowS.callQ rfl rfl rfl rfl (Ent.fn rfl rfl ca73) (num_fn y) rfl (oks_nil _) ?_
   refine FlowS.call [2, 8] rfl rfl rfl rfl (Ent.fn rfl rfl ca42) rfl (rpush_fn b s d (tru y) (by first | omega | (simp only [List.length_append, List.length_dropLast, List.length_cons, List.length_nil, List.length_take]; omega))) ?_
   rintro _ _ ⟨rfl, As_4, qs_4, rfl⟩
   refine ⟨oks_nil _, ?_⟩
   refine FlowS.fin ?_
   refine To.blockN ?_
   refine To.del11 ?_
   refine To.del10 ?_
   refine To.del3 ?_
   refine To.del2 ?_
   refine To.up7 ?_
   refine To.up7 ?_
   refine To.up7 ?_
   refine To.up7 ?_
   refine To.up7 ?_
   refine To.up7 ?_
   refine To.up6 ?_
   refine To.end0 (.inr rfl) Tryz.results40 ?_
   exact ⟨rfl, (⟨d.Av, d.qv, d.vars, d.At, d.qt, d.tabs, ⟨d.dk.A, d.dk.q, d.dk.l⟩, d.Ae, d.qe, d.effs, d.cost, As_4, qs_4, (d.stack ++ [tru y]), d.next, d.sends, d.disks, d.fault⟩ : Dm), rfl, by first | (simp [stepV, tableV, unV, Dm.val, tk1, -List.getLastD_eq_getLast?, k45, hgd]; done) | (simp [stepV, tableV, unV, Dm.val, tk1, -List.getLastD_eq_getLast?, k45, hgd]; rfl)⟩
  refine To.seq (To.reg ?_)
  refine To.r (Rd.eql rfl rfl rfl) ?_
  refine To.a (To.nil (To.thenN ?_))
  refine To.condP rfl (fun k59 => ?_) (fun k59 => ?_)
  ·
   refine To.reg (To.m ?_)
   refine To.m ?_
   refine To.r (Rd.nilCheck rfl rfl) ?_
   refine To.f fl106_0 ?_
   refine To.f fl51_1 ?_
   refine To.lo 2 c2 ?_
   refine To.call [2, 8] rfl rfl rfl (Ent.fn rfl rfl ca42) rfl (rpush_fn b s d s.now (by first | omega | (simp only [List.length_append, List.length_dropLast, List.length_cons, List.length_nil, List.length_take]; omega))) ?_
   rintro _ _ ⟨rfl, As_5, qs_5, rfl⟩
   refine To.nil (To.blockN ?_)
   refine To.del11 ?_
   refine To.del10 ?_
   refine To.del3 ?_
   refine To.del2 ?_
   refine To.up7 ?_
   refine To.up7 ?_
   refine To.up7 ?_
   refine To.up7 ?_
   refine To.up7 ?_
   refine To.up7 ?_
   refine To.up6 ?_
   refine To.end0 (.inr rfl) Tryz.results40 ?_
   exact ⟨rfl, (⟨d.Av, d.qv, d.vars, d.At, d.qt, d.tabs, ⟨d.dk.A, d.dk.q, d.dk.l⟩, d.Ae, d.qe, d.effs, d.cost, As_5, qs_5, (d.stack ++ [s.now]), d.next, d.sends, d.disks, d.fault⟩ : Dm), rfl, by first | (simp [stepV, tableV, unV, Dm.val, tk1, -List.getLastD_eq_getLast?, k59]; done) | (simp [stepV, tableV, unV, Dm.val, tk1, -List.getLastD_eq_getLast?, k59]; rfl)⟩
  refine To.seq (To.reg ?_)
  refine To.r (Rd.eql rfl rfl rfl) ?_
  refine To.a (To.nil (To.thenN ?_))
  refine To.condP rfl (fun k68 => ?_) (fun k68 => ?_)
  ·
   refine To.seq ?_
   obtain ⟨ka, hka⟩ : ∃ ka : Nat, x.a = ((ka : Nat) : Int) := ⟨x.a.toNat, by have := htb (by omega); omega⟩
   have hkl : ka < d.tabs.length := by have := htb (by omega); omega
   obtain ⟨t, ht⟩ : ∃ z0, d.tabs[ka]? = some z0 := ⟨d.tabs[ka]'(by omega), List.getElem?_eq_getElem _⟩
   have htm := List.mem_of_getElem? ht
   have hg : Good t.l := ho.tabs t.l (List.mem_map.2 ⟨t, htm, rfl⟩)
   have hgl := hg.len
   have hgd : d.val.tabs.getD x.a.toNat [] = t.l := by rw [hka, Int.toNat_natCast, List.getD_eq_getElem?_getD]; show ((d.tabs.map Tb.l)[ka]?).getD [] = t.l; rw [List.getElem?_map, ht]; rfl
   refine To.flow [box b3 [.int .i64 ((x.op : Nat) : Int), .int .i64 x.a, .int .i64 x.b, .int .i64 x.n] 89, box b4 [.slice d.Av d.vars.length d.qv, .slice d.At d.tabs.length d.qt, .slice d.dk.A d.dk.l.length d.dk.q] 46, rows Tb.cells 44 1 d.At d.qt d.tabs] [⟨0, [], 0⟩, ⟨1, [], 0⟩, ⟨2, [], 0⟩, ⟨3, [], 0⟩, ⟨4, [], 0⟩, ⟨5, [], 0⟩, ⟨6, [], 0⟩, ⟨7, [], 5⟩, ⟨8, [], 1⟩, ⟨9, [], 1⟩, ⟨10, [], 3⟩, ⟨11, [], 0⟩, ⟨12, [], 0⟩, ⟨13, [], 0⟩, ⟨14, [], 0⟩, ⟨15, [], 0⟩] mixed (by kernel_rfl) (oks_cons (oks_at 1 rfl) (oks_cons (oks_at 0 rfl) (oks_cons (oks_at 4 rfl) (oks_nil _)))) ?_
   refine FlowS.fi fl46_1 ?_
   refine FlowS.th 1 c43 ?_
   refine FlowS.fi fl89_1 ?_
   refine FlowS.th 0 c3 ?_
   refine FlowS.f rfl (Rd.indexRowsI (i := 2) (j := ka) rfl rfl rfl hka s43 rfl ht) ?_
   refine FlowS.f rfl (Rd.load (i := 2) rfl rfl c44 rfl (gives_1 (rows_gives encTb ht) rfl)) ?_
   refine FlowS.mo ?_
   refine FlowS.call [2, 8] rfl rfl rfl rfl (Ent.fn rfl rfl ca41) rfl (rpop_fn b s d 1 (by first | omega | (simp only [List.length_append, List.length_dropLast, List.length_cons, List.length_nil, List.length_take]; omega))) ?_
   rintro _ _ ⟨Bp, qp, rfl, rfl⟩
   refine ⟨oks_cons (oks_at 4 rfl) (oks_cons (oks_at 3 rfl) (oks_cons (oks_at 6 rfl) (oks_nil _))), ?_⟩
   refine FlowS.r rfl (Rd.indexRows (i := 2) (j := 0) rfl rfl rfl s24 rfl (drop1_0 (by omega))) ?_
   refine FlowS.r rfl (Rd.load (i := 2) rfl rfl c2 rfl (gives_1 (rows_gives encI_ok (drop1_0 (by omega))) rfl)) ?_
   refine FlowS.callQ rfl rfl rfl rfl (Ent.fn rfl rfl ca74) (rget_fn t.A t.q t.l (d.stack.getLastD 0) (by omega)) rfl (oks_cons (oks_S 7 rfl (mem_at ht Tb.ar)) (oks_nil _)) ?_
   refine FlowS.mo ?_
   refine FlowS.f rfl (Rd.extract rfl rfl rfl) ?_
   refine FlowS.f rfl (Rd.extract rfl rfl rfl) ?_
   refine FlowS.f rfl (Rd.assign rfl rfl) ?_
   refine FlowS.f rfl (Rd.assign rfl rfl) ?_
   refine FlowS.fin ?_
   refine To.thenN (To.reg (To.m ?_))
   refine To.m ?_
   refine To.call [0, 0] rfl rfl rfl (Ent.fn rfl rfl ca42) rfl (rpush_fn b s (⟨d.Av, d.qv, d.vars, d.At, d.qt, d.tabs, ⟨d.dk.A, d.dk.q, d.dk.l⟩, d.Ae, d.qe, d.effs, d.cost, d.As, d.qs, (d.stack.take (d.stack.length - 1)), d.next, d.sends, d.disks, d.fault⟩ : Dm) ((getT t.l (d.stack.getLastD 0)).getD 0) (by first | omega | (simp only [List.length_append, List.length_dropLast, List.length_cons, List.length_nil, List.length_take]; omega))) ?_
   rintro _ _ ⟨rfl, As_6, qs_6, rfl⟩
   refine To.nil (To.blockN ?_)
   refine To.del12 ?_
   refine To.del11 ?_
   refine To.del4 ?_
   refine To.del3 ?_
   refine To.del2 ?_
   refine To.up7 ?_
   refine To.up7 ?_
   refine To.up7 ?_
   refine To.up7 ?_
   refine To.up7 ?_
   refine To.up7 ?_
   refine To.up6 ?_
   refine To.end0 (.inr rfl) Tryz.results40 ?_
   exact ⟨rfl, (⟨d.Av, d.qv, d.vars, d.At, d.qt, d.tabs, ⟨d.dk.A, d.dk.q, d.dk.l⟩, d.Ae, d.qe, d.effs, d.cost, As_6, qs_6, ((d.stack.take (d.stack.length - 1)) ++ [(getT t.l (d.stack.getLastD 0)).getD 0]), d.next, d.sends, d.disks, d.fault⟩ : Dm), rfl, by rw [stepV_table (by omega)]; unfold tableV; simp only [hgd]; rw [if_pos (show ((x.op : Nat) : Int) = 6 by omega)]; first | rfl | (simp [Dm.val, tk1, -List.getLastD_eq_getLast?]; done)⟩
  refine To.seq (To.reg ?_)
  refine To.r (Rd.eql rfl rfl rfl) ?_
  refine To.a (To.nil (To.thenN ?_))
  refine To.condP rfl (fun k87 => ?_) (fun k87 => ?_)
  ·
   refine To.seq ?_
   obtain ⟨ka, hka⟩ : ∃ ka : Nat, x.a = ((ka : Nat) : Int) := ⟨x.a.toNat, by have := htb (by omega); omega⟩
   have hkl : ka < d.tabs.length := by have := htb (by omega); omega
   obtain ⟨t, ht⟩ : ∃ z0, d.tabs[ka]? = some z0 := ⟨d.tabs[ka]'(by omega), List.getElem?_eq_getElem _⟩
   have htm := List.mem_of_getElem? ht
   have hg : Good t.l := ho.tabs t.l (List.mem_map.2 ⟨t, htm, rfl⟩)
   have hgl := hg.len
   have hgd : d.val.tabs.getD x.a.toNat [] = t.l := by rw [hka, Int.toNat_natCast, List.getD_eq_getElem?_getD]; show ((d.tabs.map Tb.l)[ka]?).getD [] = t.l; rw [List.getElem?_map, ht]; rfl
   refine To.flow [box b3 [.int .i64 ((x.op : Nat) : Int), .int .i64 x.a, .int .i64 x.b, .int .i64 x.n] 89, box b4 [.slice d.Av d.vars.length d.qv, .slice d.At d.tabs.length d.qt, .slice d.dk.A d.dk.l.length d.dk.q] 46, rows Tb.cells 44 1 d.At d.qt d.tabs] [⟨0, [], 0⟩, ⟨1, [], 0⟩, ⟨2, [], 0⟩, ⟨3, [], 0⟩, ⟨4, [], 0⟩, ⟨5, [], 0⟩, ⟨6, [], 0⟩, ⟨7, [], 5⟩, ⟨8, [], 1⟩, ⟨9, [], 1⟩, ⟨10, [], 3⟩, ⟨11, [], 0⟩, ⟨12, [], 0⟩, ⟨13, [], 0⟩, ⟨14, [], 0⟩, ⟨15, [], 0⟩] mixed (by kernel_rfl) (oks_cons (oks_at 1 rfl) (oks_cons (oks_at 0 rfl) (oks_cons (oks_at 4 rfl) (oks_nil _)))) ?_
   refine FlowS.fi fl46_1 ?_
   refine FlowS.th 1 c43 ?_
   refine FlowS.fi fl89_1 ?_
   refine FlowS.th 0 c3 ?_
   refine FlowS.f rfl (Rd.indexRowsI (i := 2) (j := ka) rfl rfl rfl hka s43 rfl ht) ?_
   refine FlowS.f rfl (Rd.load (i := 2) rfl rfl c44 rfl (gives_1 (rows_gives encTb ht) rfl)) ?_
   refine FlowS.mo ?_
   refine FlowS.call [2, 8] rfl rfl rfl rfl (Ent.fn rfl rfl ca41) rfl (rpop_fn b s d 1 (by first | omega | (simp only [List.length_append, List.length_dropLast, List.length_cons, List.length_nil, List.length_take]; omega))) ?_
   rintro _ _ ⟨Bp_2, qp_2, rfl, rfl⟩
   refine ⟨oks_cons (oks_at 4 rfl) (oks_cons (oks_at 3 rfl) (oks_cons (oks_at 6 rfl) (oks_nil _))), ?_⟩
   refine FlowS.r rfl (Rd.indexRows (i := 2) (j := 0) rfl rfl rfl s24 rfl (drop1_0 (by omega))) ?_
   refine FlowS.r rfl (Rd.load (i := 2) rfl rfl c2 rfl (gives_1 (rows_gives encI_ok (drop1_0 (by omega))) rfl)) ?_
   refine FlowS.callQ rfl rfl rfl rfl (Ent.fn rfl rfl ca74) (rget_fn t.A t.q t.l (d.stack.getLastD 0) (by omega)) rfl (oks_cons (oks_S 7 rfl (mem_at ht Tb.ar)) (oks_nil _)) ?_
   refine FlowS.mo ?_
   refine FlowS.f rfl (Rd.extract rfl rfl rfl) ?_
   refine FlowS.f rfl (Rd.extract rfl rfl rfl) ?_
   refine FlowS.f rfl (Rd.assign rfl rfl) ?_
   refine FlowS.f rfl (Rd.assign rfl rfl) ?_
   refine FlowS.fin ?_
   refine To.thenN (To.reg (To.m ?_))
   refine To.m ?_
   refine To.callV rfl rfl rfl (Ent.fn rfl rfl ca73) (num_fn ((getT t.l (d.stack.getLastD 0)).isSome)) rfl (oks_nil _) ?_
   refine To.call [0, 0] rfl rfl rfl (Ent.fn rfl rfl ca42) rfl (rpush_fn b s (⟨d.Av, d.qv, d.vars, d.At, d.qt, d.tabs, ⟨d.dk.A, d.dk.q, d.dk.l⟩, d.Ae, d.qe, d.effs, d.cost, d.As, d.qs, (d.stack.take (d.stack.length - 1)), d.next, d.sends, d.disks, d.fault⟩ : Dm) (tru ((getT t.l (d.stack.getLastD 0)).isSome)) (by first | omega | (simp only [List.length_append, List.length_dropLast, List.length_cons, List.length_nil, List.length_take]; omega))) ?_
   rintro _ _ ⟨rfl, As_7, qs_7, rfl⟩
   refine To.nil (To.blockN ?_)
   refine To.del12 ?_
   refine To.del11 ?_
   refine To.del4 ?_
   refine To.del3 ?_
   refine To.del2 ?_
   refine To.up7 ?_
   refine To.up7 ?_
   refine To.up7 ?_
   refine To.up7 ?_
   refine To.up7 ?_
   refine To.up7 ?_
   refine To.up6 ?_
   refine To.end0 (.inr rfl) Tryz.results40 ?_
   exact ⟨rfl, (⟨d.Av, d.qv, d.vars, d.At, d.qt, d.tabs, ⟨d.dk.A, d.dk.q, d.dk.l⟩, d.Ae, d.qe, d.effs, d.cost, As_7, qs_7, ((d.stack.take (d.stack.length - 1)) ++ [tru ((getT t.l (d.stack.getLastD 0)).isSome)]), d.next, d.sends, d.disks, d.fault⟩ : Dm), rfl, by rw [stepV_table (by omega)]; unfold tableV; simp only [hgd]; rw [if_neg (show ¬ ((x.op : Nat) : Int) = 6 by omega), if_pos (show ((x.op : Nat) : Int) = 7 by omega)]; first | rfl | (simp [Dm.val, tk1, -List.getLastD_eq_getLast?]; done)⟩
  refine To.seq (To.reg ?_)
  refine To.r (Rd.eql rfl rfl rfl) ?_
  refine To.a (To.nil (To.thenN ?_))
  refine To.condP rfl (fun k107 => ?_) (fun k107 => ?_)
  ·
   obtain ⟨ka, hka⟩ : ∃ ka : Nat, x.a = ((ka : Nat) : Int) := ⟨x.a.toNat, by have := htb (by omega); omega⟩
   have hkl : ka < d.tabs.length := by have := htb (by omega); omega
   obtain ⟨t, ht⟩ : ∃ z0, d.tabs[ka]? = some z0 := ⟨d.tabs[ka]'(by omega), List.getElem?_eq_getElem _⟩
   have htm := List.mem_of_getElem? ht
   have hg : Good t.l := ho.tabs t.l (List.mem_map.2 ⟨t, htm, rfl⟩)
   have hgl := hg.len
   have hgd : d.val.tabs.getD x.a.toNat [] = t.l := by rw [hka, Int.toNat_natCast, List.getD_eq_getElem?_getD]; show ((d.tabs.map Tb.l)[ka]?).getD [] = t.l; rw [List.getElem?_map, ht]; rfl
   refine To.reg (To.m ?_)
   refine To.f fl46_1 ?_
   refine To.lo 0 c43 ?_
   refine To.f fl89_1 ?_
   refine To.lo 1 c3 ?_
   refine To.r (Rd.indexRowsI (i := 4) (j := ka) rfl rfl rfl hka s43 rfl ht) ?_
   refine To.r (Rd.load (i := 4) rfl rfl c44 rfl (gives_1 (rows_gives encTb ht) rfl)) ?_
   refine To.r (Rd.len rfl rfl Tryz.underlying44) ?_
   refine To.call [2, 8] rfl rfl rfl (Ent.fn rfl rfl ca42) rfl (rpush_fn b s d ((t.l.length : Nat) : Int) (by first | omega | (simp only [List.length_append, List.length_dropLast, List.length_cons, List.length_nil, List.length_take]; omega))) ?_
   rintro _ _ ⟨rfl, As_8, qs_8, rfl⟩
   refine To.nil (To.blockN ?_)
   refine To.del11 ?_
   refine To.del10 ?_
   refine To.del3 ?_
   refine To.del2 ?_
   refine To.up7 ?_
   refine To.up7 ?_
   refine To.up7 ?_
   refine To.up7 ?_
   refine To.up7 ?_
   refine To.up7 ?_
   refine To.up6 ?_
   refine To.end0 (.inr rfl) Tryz.results40 ?_
   exact ⟨rfl, (⟨d.Av, d.qv, d.vars, d.At, d.qt, d.tabs, ⟨d.dk.A, d.dk.q, d.dk.l⟩, d.Ae, d.qe, d.effs, d.cost, As_8, qs_8, (d.stack ++ [((t.l.length : Nat) : Int)]), d.next, d.sends, d.disks, d.fault⟩ : Dm), rfl, by rw [stepV_table (by omega)]; unfold tableV; simp only [hgd]; rw [if_neg (show ¬ ((x.op : Nat) : Int) = 6 by omega), if_neg (show ¬ ((x.op : Nat) : Int) = 7 by omega), if_pos (show ((x.op : Nat) : Int) = 8 by omega)]; first | rfl | (simp [Dm.val, tk1, -List.getLastD_eq_getLast?]; done)⟩
  refine To.seq (To.reg ?_)
  refine To.r (Rd.eql rfl rfl rfl) ?_
  refine To.a (To.nil (To.thenN ?_))
  refine To.condP rfl (fun k118 => ?_) (fun k118 => ?_)
  ·
   refine To.reg (To.m ?_)
   refine To.m ?_
   refine To.call [2, 8] rfl rfl rfl (Ent.fn rfl rfl ca41) rfl (rpop_fn b s d 1 (by first | omega | (simp only [List.length_append, List.length_dropLast, List.length_cons, List.length_nil, List.length_take]; omega))) ?_
   rintro _ _ ⟨Bp_3, qp_3, rfl, rfl⟩
   refine To.r (Rd.indexRows (i := 2) (j := 0) rfl rfl rfl s24 rfl (drop1_0 (by omega))) ?_
   refine To.r (Rd.load (i := 2) rfl rfl c2 rfl (gives_1 (rows_gives encI_ok (drop1_0 (by omega))) rfl)) ?_
   refine To.r (Rd.negW rfl rfl) ?_
   refine To.call [0, 0] rfl rfl rfl (Ent.fn rfl rfl ca42) rfl (rpush_fn b s (⟨d.Av, d.qv, d.vars, d.At, d.qt, d.tabs, ⟨d.dk.A, d.dk.q, d.dk.l⟩, d.Ae, d.qe, d.effs, d.cost, d.As, d.qs, (d.stack.take (d.stack.length - 1)), d.next, d.sends, d.disks, d.fault⟩ : Dm) (W64 (-(d.stack.getLastD 0))) (by first | omega | (simp only [List.length_append, List.length_dropLast, List.length_cons, List.length_nil, List.length_take]; omega))) ?_
   rintro _ _ ⟨rfl, As_9, qs_9, rfl⟩
   refine To.nil (To.blockN ?_)
   refine To.del12 ?_
   refine To.del11 ?_
   refine To.del4 ?_
   refine To.del3 ?_
   refine To.del2 ?_
   refine To.up7 ?_
   refine To.up7 ?_
   refine To.up7 ?_
   refine To.up7 ?_
   refine To.up7 ?_
   refine To.up7 ?_
   refine To.up6 ?_
   refine To.end0 (.inr rfl) Tryz.results40 ?_
   exact ⟨rfl, (⟨d.Av, d.qv, d.vars, d.At, d.qt, d.tabs, ⟨d.dk.A, d.dk.q, d.dk.l⟩, d.Ae, d.qe, d.effs, d.cost, As_9, qs_9, ((d.stack.take (d.stack.length - 1)) ++ [W64 (-(d.stack.getLastD 0))]), d.next, d.sends, d.disks, d.fault⟩ : Dm), rfl, by first | (simp [stepV, tableV, unV, Dm.val, tk1, -List.getLastD_eq_getLast?, k118]; done) | (simp [stepV, tableV, unV, Dm.val, tk1, -List.getLastD_eq_getLast?, k118]; rfl)⟩
  refine To.seq (To.reg ?_)
  refine To.r (Rd.eql rfl rfl rfl) ?_
  refine To.a (To.nil (To.thenN ?_))
  refine To.condP rfl (fun k127 => ?_) (fun k127 => ?_)
  ·
   refine To.reg (To.m ?_)
   refine To.m ?_
   refine To.call [2, 8] rfl rfl rfl (Ent.fn rfl rfl ca41) rfl (rpop_fn b s d 1 (by first | omega | (simp only [List.length_append, List.length_dropLast, List.length_cons, List.length_nil, List.length_take]; omega))) ?_
   rintro _ _ ⟨Bp_4, qp_4, rfl, rfl⟩
   refine To.r (Rd.indexRows (i := 2) (j := 0) rfl rfl rfl s24 rfl (drop1_0 (by omega))) ?_
   refine To.r (Rd.load (i := 2) rfl rfl c2 rfl (gives_1 (rows_gives encI_ok (drop1_0 (by omega))) rfl)) ?_
   refine To.r (Rd.eql rfl rfl rfl) ?_
   refine To.callV rfl rfl rfl (Ent.fn rfl rfl ca73) (num_fn (decide ((d.stack.getLastD 0) = 0))) rfl (oks_nil _) ?_
   refine To.call [0, 0] rfl rfl rfl (Ent.fn rfl rfl ca42) rfl (rpush_fn b s (⟨d.Av, d.qv, d.vars, d.At, d.qt, d.tabs, ⟨d.dk.A, d.dk.q, d.dk.l⟩, d.Ae, d.qe, d.effs, d.cost, d.As, d.qs, (d.stack.take (d.stack.length - 1)), d.next, d.sends, d.disks, d.fault⟩ : Dm) (tru (decide ((d.stack.getLastD 0) = 0))) (by first | omega | (simp only [List.length_append, List.length_dropLast, List.length_cons, List.length_nil, List.length_take]; omega))) ?_
   rintro _ _ ⟨rfl, As_10, qs_10, rfl⟩
   refine To.nil (To.blockN ?_)
   refine To.del12 ?_
   refine To.del11 ?_
   refine To.del4 ?_
   refine To.del3 ?_
   refine To.del2 ?_
   refine To.up7 ?_
   refine To.up7 ?_
   refine To.up7 ?_
   refine To.up7 ?_
   refine To.up7 ?_
   refine To.up7 ?_
   refine To.up6 ?_
   refine To.end0 (.inr rfl) Tryz.results40 ?_
   exact ⟨rfl, (⟨d.Av, d.qv, d.vars, d.At, d.qt, d.tabs, ⟨d.dk.A, d.dk.q, d.dk.l⟩, d.Ae, d.qe, d.effs, d.cost, As_10, qs_10, ((d.stack.take (d.stack.length - 1)) ++ [tru (decide ((d.stack.getLastD 0) = 0))]), d.next, d.sends, d.disks, d.fault⟩ : Dm), rfl, by first | (simp [stepV, tableV, unV, Dm.val, tk1, -List.getLastD_eq_getLast?, k127]; done) | (simp [stepV, tableV, unV, Dm.val, tk1, -List.getLastD_eq_getLast?, k127]; rfl)⟩
  exfalso; omega
end Go.Proofs.YtoehnbacbobhiaaGreatDoor
