/- The machine uses its tables. Own text (walks printed by sx.py). -/
import Derived.Test.YtoehnbacbobhiaaGreatDoorL1
import Derived.Test.YtoehnbacbobhiaaGreatDoorX29
import Derived.Test.YtoehnbacbobhiaaGreatDoorL3
set_option linter.unusedVariables false
set_option linter.unusedSimpArgs false
namespace Go.Proofs.YtoehnbacbobhiaaGreatDoor
open Go.RowKit Go.Flow Go.Mem Go.Sep
theorem fam_set {T : List Tb} {e : Tb} {j : Nat} {Γ : List Chunk} (h : ros encEn e.A e.l ∈ Γ) : ∀ p ∈ (T.set j e).map Tb.ar, p ∈ T.map Tb.ar ∨ ros encEn p.1 p.2 ∈ Γ := fun p hp => by
  obtain ⟨y, hy, rfl⟩ := List.mem_map.1 hp
  rcases List.mem_or_eq_of_mem_set hy with h1 | h1
  · exact .inl (List.mem_map.2 ⟨y, h1, rfl⟩)
  · rw [h1]; exact .inr h
theorem caps_set {T : List Tb} {e : Tb} {j : Nat} (h : ∀ x ∈ T, x.l.length ≤ x.q) (h2 : e.l.length ≤ e.q) : ∀ x ∈ T.set j e, x.l.length ≤ x.q := fun x hx => by
  rcases List.mem_or_eq_of_mem_set hx with h3 | h3
  · exact h x h3
  · rw [h3]; exact h2
theorem map_set {T : List Tb} {e : Tb} {j : Nat} : (T.set j e).map Tb.l = (T.map Tb.l).set j e.l := List.map_set
set_option maxHeartbeats 2000000 in
set_option maxRecDepth 100000 in
theorem table_fn (b : Nat) (s : Sm) (d : Dm) (x : Ins) (ka : Nat) (t : Tb) (ht : d.tabs[ka]? = some t) (hka : x.a = ((ka : Nat) : Int)) (hop : ((x.op : Nat) : Int) = 6 ∨ ((x.op : Nat) : Int) = 7 ∨ ((x.op : Nat) : Int) = 8 ∨ ((x.op : Nat) : Int) = 25 ∨ ((x.op : Nat) : Int) = 26) (hf : Fit s x d.val) (ho : Okv s d.val) (hc : capsD d) :
    Does Tryz.prog 69 [.pointer (some ⟨b, 0, none⟩), .int .u8 ((x.op : Nat) : Int), .pointer (some ⟨blk d.At, ofs d.At + ka * 1, none⟩)] [box b [.slice d.Av d.vars.length d.qv, .slice d.At d.tabs.length d.qt, .slice d.dk.A d.dk.l.length d.dk.q, .slice d.Ae d.effs.length d.qe, .int .i64 d.cost, .slice s.Ac s.code.length s.qc, .slice s.Aa s.args.length s.qa, .int .i64 s.now, .slice s.Ag s.flags.length s.qg, .int .i64 s.dsk, .slice s.Af s.fail.length s.qf, .slice d.As d.stack.length d.qs, .int .i64 d.next, .int .i64 d.sends, .int .i64 d.disks, .bool d.fault] 77, rows encI 2 1 d.Av d.qv d.vars, rows Tb.cells 40 1 d.At d.qt d.tabs, rosS encEn (d.tabs.map Tb.ar), ros encEn d.dk.A d.dk.l, rows Ef.cells 84 8 d.Ae d.qe d.effs, rosS encI (d.effs.map Ef.ar), rows encI 2 1 d.As d.qs d.stack] (fun v Γ' => v = .tuple #[] ∧ ∃ d' : Dm, Γ' = [box b [.slice d'.Av d'.vars.length d'.qv, .slice d'.At d'.tabs.length d'.qt, .slice d'.dk.A d'.dk.l.length d'.dk.q, .slice d'.Ae d'.effs.length d'.qe, .int .i64 d'.cost, .slice s.Ac s.code.length s.qc, .slice s.Aa s.args.length s.qa, .int .i64 s.now, .slice s.Ag s.flags.length s.qg, .int .i64 s.dsk, .slice s.Af s.fail.length s.qf, .slice d'.As d'.stack.length d'.qs, .int .i64 d'.next, .int .i64 d'.sends, .int .i64 d'.disks, .bool d'.fault] 77, rows encI 2 1 d'.Av d'.qv d'.vars, rows Tb.cells 40 1 d'.At d'.qt d'.tabs, rosS encEn (d'.tabs.map Tb.ar), ros encEn d'.dk.A d'.dk.l, rows Ef.cells 84 8 d'.Ae d'.qe d'.effs, rosS encI (d'.effs.map Ef.ar), rows encI 2 1 d'.As d'.qs d'.stack] ∧ d'.val = tableV x d.val ∧ capsD d') := by
  have hht : d.stack.length ≤ 4001 := hf.height
  have hpp : popsN x ≤ ((d.stack.length : Nat) : Int) := hf.pops
  have hpo := pops_of x
  have htm := List.mem_of_getElem? ht
  have hg : Good t.l := ho.tabs t.l (List.mem_map.2 ⟨t, htm, rfl⟩)
  have hgl := hg.len
  have hq : t.l.length ≤ t.q := hc.1 t htm
  have hgd : d.val.tabs.getD x.a.toNat [] = t.l := by rw [hka, Int.toNat_natCast, List.getD_eq_getElem?_getD]; show ((d.tabs.map Tb.l)[ka]?).getD [] = t.l; rw [List.getElem?_map, ht]; rfl
  have hkl : ka < d.tabs.length := (List.getElem?_eq_some_iff.1 ht).1
  refine Does.enter Tryz.func69 rfl Tryz.ntmps69 rfl (fun w0 => ?_)
  refine To.seq (To.reg (To.m (To.nil (To.thenN (To.block (To.seq (To.reg ?_)))))))
  refine To.r (Rd.eql rfl rfl rfl) ?_
  refine To.a (To.nil (To.thenN ?_))
  refine To.condP rfl (fun k12 => ?_) (fun k12 => ?_)
  ·
   refine To.seq ?_
   refine To.flow [rows Tb.cells 40 1 d.At d.qt d.tabs] [⟨0, [], 0⟩, ⟨1, [], 0⟩, ⟨2, [], 0⟩, ⟨3, [], 0⟩, ⟨4, [], 5⟩, ⟨5, [], 3⟩, ⟨6, [], 0⟩, ⟨7, [], 0⟩, ⟨8, [], 0⟩, ⟨9, [], 0⟩, ⟨10, [], 0⟩] mixed (by kernel_rfl) (oks_cons (oks_at 2 rfl) (oks_nil _)) ?_
   refine FlowS.mo ?_
   refine FlowS.f rfl (Rd.nilCheck rfl rfl) ?_
   refine FlowS.f rfl (Rd.loadS (i := 0) rfl rfl r40 rfl (rows_gives encTb ht) (encTb.len _)) ?_
   refine FlowS.mo ?_
   refine FlowS.call [0, 6] rfl rfl rfl rfl (Ent.fn rfl rfl ca66) rfl (pop_fn b s d (by first | omega | (simp only [List.length_append, List.length_dropLast, List.length_cons, List.length_nil]; omega))) ?_
   rintro _ _ ⟨rfl, rfl⟩
   refine ⟨oks_cons (oks_at 3 rfl) (oks_nil _), ?_⟩
   refine FlowS.callQ rfl rfl rfl rfl (Ent.fn rfl rfl ca87) (tget_fn t.A t.q t.l (d.stack.getLastD 0) (by omega) hg.asc) rfl (oks_cons (oks_S 4 rfl (mem_at ht Tb.ar)) (oks_nil _)) ?_
   refine FlowS.mo ?_
   refine FlowS.f rfl (Rd.extract rfl rfl rfl) ?_
   refine FlowS.f rfl (Rd.extract rfl rfl rfl) ?_
   refine FlowS.f rfl (Rd.assign rfl rfl) ?_
   refine FlowS.f rfl (Rd.assign rfl rfl) ?_
   refine FlowS.fin ?_
   refine To.thenN (To.reg (To.m ?_))
   refine To.m ?_
   refine To.call [0, 0] rfl rfl rfl (Ent.fn rfl rfl ca63) rfl (push_fn b s (⟨d.Av, d.qv, d.vars, d.At, d.qt, d.tabs, ⟨d.dk.A, d.dk.q, d.dk.l⟩, d.Ae, d.qe, d.effs, d.cost, d.As, d.qs, (d.stack.dropLast), d.next, d.sends, d.disks, d.fault⟩ : Dm) ((getT t.l (d.stack.getLastD 0)).getD 0) (by first | omega | (simp only [List.length_append, List.length_dropLast, List.length_cons, List.length_nil]; omega))) ?_
   rintro _ _ ⟨rfl, As, qs, rfl⟩
   refine To.nil (To.blockN ?_)
   refine To.up7 ?_
   refine To.up7 ?_
   refine To.up7 ?_
   refine To.up7 ?_
   refine To.up7 ?_
   refine To.up7 ?_
   refine To.up6 ?_
   refine To.end0 (.inr rfl) Tryz.results69 ?_
   exact ⟨rfl, (⟨d.Av, d.qv, d.vars, d.At, d.qt, d.tabs, ⟨d.dk.A, d.dk.q, d.dk.l⟩, d.Ae, d.qe, d.effs, d.cost, As, qs, ((d.stack.dropLast) ++ [(getT t.l (d.stack.getLastD 0)).getD 0]), d.next, d.sends, d.disks, d.fault⟩ : Dm), rfl, by unfold tableV; simp only [hgd]; rw [if_pos (show ((x.op : Nat) : Int) = 6 by omega)]; first | rfl | (simp [Dm.val, hka, map_set, -List.map_set]; done) | (simp [Dm.val, hka, map_set, -List.map_set]; rfl), hc⟩
  refine To.seq (To.reg ?_)
  refine To.r (Rd.eql rfl rfl rfl) ?_
  refine To.a (To.nil (To.thenN ?_))
  refine To.condP rfl (fun k26 => ?_) (fun k26 => ?_)
  ·
   refine To.seq ?_
   refine To.flow [rows Tb.cells 40 1 d.At d.qt d.tabs] [⟨0, [], 0⟩, ⟨1, [], 0⟩, ⟨2, [], 0⟩, ⟨3, [], 0⟩, ⟨4, [], 5⟩, ⟨5, [], 3⟩, ⟨6, [], 0⟩, ⟨7, [], 0⟩, ⟨8, [], 0⟩, ⟨9, [], 0⟩, ⟨10, [], 0⟩] mixed (by kernel_rfl) (oks_cons (oks_at 2 rfl) (oks_nil _)) ?_
   refine FlowS.mo ?_
   refine FlowS.f rfl (Rd.nilCheck rfl rfl) ?_
   refine FlowS.f rfl (Rd.loadS (i := 0) rfl rfl r40 rfl (rows_gives encTb ht) (encTb.len _)) ?_
   refine FlowS.mo ?_
   refine FlowS.call [0, 6] rfl rfl rfl rfl (Ent.fn rfl rfl ca66) rfl (pop_fn b s d (by first | omega | (simp only [List.length_append, List.length_dropLast, List.length_cons, List.length_nil]; omega))) ?_
   rintro _ _ ⟨rfl, rfl⟩
   refine ⟨oks_cons (oks_at 3 rfl) (oks_nil _), ?_⟩
   refine FlowS.callQ rfl rfl rfl rfl (Ent.fn rfl rfl ca87) (tget_fn t.A t.q t.l (d.stack.getLastD 0) (by omega) hg.asc) rfl (oks_cons (oks_S 4 rfl (mem_at ht Tb.ar)) (oks_nil _)) ?_
   refine FlowS.mo ?_
   refine FlowS.f rfl (Rd.extract rfl rfl rfl) ?_
   refine FlowS.f rfl (Rd.extract rfl rfl rfl) ?_
   refine FlowS.f rfl (Rd.assign rfl rfl) ?_
   refine FlowS.f rfl (Rd.assign rfl rfl) ?_
   refine FlowS.fin ?_
   refine To.thenN (To.reg (To.m ?_))
   refine To.m ?_
   refine To.callV rfl rfl rfl (Ent.fn rfl rfl ca64) (xtru_fn ((getT t.l (d.stack.getLastD 0)).isSome)) rfl (oks_nil _) ?_
   refine To.call [0, 0] rfl rfl rfl (Ent.fn rfl rfl ca63) rfl (push_fn b s (⟨d.Av, d.qv, d.vars, d.At, d.qt, d.tabs, ⟨d.dk.A, d.dk.q, d.dk.l⟩, d.Ae, d.qe, d.effs, d.cost, d.As, d.qs, (d.stack.dropLast), d.next, d.sends, d.disks, d.fault⟩ : Dm) (tru ((getT t.l (d.stack.getLastD 0)).isSome)) (by first | omega | (simp only [List.length_append, List.length_dropLast, List.length_cons, List.length_nil]; omega))) ?_
   rintro _ _ ⟨rfl, As_2, qs_2, rfl⟩
   refine To.nil (To.blockN ?_)
   refine To.up7 ?_
   refine To.up7 ?_
   refine To.up7 ?_
   refine To.up7 ?_
   refine To.up7 ?_
   refine To.up7 ?_
   refine To.up6 ?_
   refine To.end0 (.inr rfl) Tryz.results69 ?_
   exact ⟨rfl, (⟨d.Av, d.qv, d.vars, d.At, d.qt, d.tabs, ⟨d.dk.A, d.dk.q, d.dk.l⟩, d.Ae, d.qe, d.effs, d.cost, As_2, qs_2, ((d.stack.dropLast) ++ [tru ((getT t.l (d.stack.getLastD 0)).isSome)]), d.next, d.sends, d.disks, d.fault⟩ : Dm), rfl, by unfold tableV; simp only [hgd]; rw [if_neg (show ¬ ((x.op : Nat) : Int) = 6 by omega), if_pos (show ((x.op : Nat) : Int) = 7 by omega)]; first | rfl | (simp [Dm.val, hka, map_set, -List.map_set]; done) | (simp [Dm.val, hka, map_set, -List.map_set]; rfl), hc⟩
  refine To.seq (To.reg ?_)
  refine To.r (Rd.eql rfl rfl rfl) ?_
  refine To.a (To.nil (To.thenN ?_))
  refine To.condP rfl (fun k41 => ?_) (fun k41 => ?_)
  ·
   refine To.reg (To.m ?_)
   refine To.m ?_
   refine To.r (Rd.nilCheck rfl rfl) ?_
   refine To.r (Rd.loadS (i := 2) rfl rfl r40 rfl (rows_gives encTb ht) (encTb.len _)) ?_
   refine To.callV rfl rfl rfl (Ent.fn rfl rfl ca88) (tlen_fn t.A t.l.length t.q) rfl (oks_nil _) ?_
   refine To.call [0, 6] rfl rfl rfl (Ent.fn rfl rfl ca63) rfl (push_fn b s d ((t.l.length : Nat) : Int) (by first | omega | (simp only [List.length_append, List.length_dropLast, List.length_cons, List.length_nil]; omega))) ?_
   rintro _ _ ⟨rfl, As_3, qs_3, rfl⟩
   refine To.nil (To.blockN ?_)
   refine To.up7 ?_
   refine To.up7 ?_
   refine To.up7 ?_
   refine To.up7 ?_
   refine To.up7 ?_
   refine To.up7 ?_
   refine To.up6 ?_
   refine To.end0 (.inr rfl) Tryz.results69 ?_
   exact ⟨rfl, (⟨d.Av, d.qv, d.vars, d.At, d.qt, d.tabs, ⟨d.dk.A, d.dk.q, d.dk.l⟩, d.Ae, d.qe, d.effs, d.cost, As_3, qs_3, (d.stack ++ [((t.l.length : Nat) : Int)]), d.next, d.sends, d.disks, d.fault⟩ : Dm), rfl, by unfold tableV; simp only [hgd]; rw [if_neg (show ¬ ((x.op : Nat) : Int) = 6 by omega), if_neg (show ¬ ((x.op : Nat) : Int) = 7 by omega), if_pos (show ((x.op : Nat) : Int) = 8 by omega)]; first | rfl | (simp [Dm.val, hka, map_set, -List.map_set]; done) | (simp [Dm.val, hka, map_set, -List.map_set]; rfl), hc⟩
  refine To.seq (To.reg ?_)
  refine To.r (Rd.eql rfl rfl rfl) ?_
  refine To.a (To.nil (To.thenN ?_))
  refine To.condP rfl (fun k49 => ?_) (fun k49 => ?_)
  ·
   refine To.seq (To.reg (To.m ?_))
   refine To.call [0, 6] rfl rfl rfl (Ent.fn rfl rfl ca66) rfl (pop_fn b s d (by first | omega | (simp only [List.length_append, List.length_dropLast, List.length_cons, List.length_nil]; omega))) ?_
   rintro _ _ ⟨rfl, rfl⟩
   refine To.a (To.nil (To.thenN ?_))
   refine To.oneS 4 rfl (mem_at ht Tb.ar) ?_
   refine To.reg (To.m ?_)
   refine To.m ?_
   refine To.call [1, 1] rfl rfl rfl (Ent.fn rfl rfl ca66) rfl (pop_fn b s (⟨d.Av, d.qv, d.vars, d.At, d.qt, d.tabs, ⟨d.dk.A, d.dk.q, d.dk.l⟩, d.Ae, d.qe, d.effs, d.cost, d.As, d.qs, (d.stack.dropLast), d.next, d.sends, d.disks, d.fault⟩ : Dm) (by first | omega | (simp only [List.length_append, List.length_dropLast, List.length_cons, List.length_nil]; omega))) ?_
   rintro _ _ ⟨rfl, rfl⟩
   refine To.m ?_
   refine To.call [4, 2] rfl rfl rfl (Ent.fn rfl rfl ca86) rfl (putT_fn d.At d.qt d.tabs ka t ht ((d.stack.dropLast).getLastD 0) (d.stack.getLastD 0) hg hq) ?_
   rintro _ _ ⟨rfl, t', rfl, ht', htq⟩
   refine To.nil (To.blockN ?_)
   refine To.as [rows Tb.cells 40 1 d.At d.qt (d.tabs.set ka t'), ros encEn t'.A t'.l, box b [.slice d.Av d.vars.length d.qv, .slice d.At ((d.tabs.set ka t').length) d.qt, .slice d.dk.A d.dk.l.length d.dk.q, .slice d.Ae d.effs.length d.qe, .int .i64 d.cost, .slice s.Ac s.code.length s.qc, .slice s.Aa s.args.length s.qa, .int .i64 s.now, .slice s.Ag s.flags.length s.qg, .int .i64 s.dsk, .slice s.Af s.fail.length s.qf, .slice d.As (((d.stack.dropLast).dropLast).length) d.qs, .int .i64 d.next, .int .i64 d.sends, .int .i64 d.disks, .bool d.fault] 77, rows encI 2 1 d.As d.qs ((d.stack.dropLast).dropLast), rows encI 2 1 d.Av d.qv d.vars, rosS encEn (d.tabs.map Tb.ar), ros encEn d.dk.A d.dk.l, rows Ef.cells 84 8 d.Ae d.qe d.effs, rosS encI (d.effs.map Ef.ar)] (by rw [List.length_set] <;> rfl) ?_
   refine To.famS ((d.tabs.set ka t').map Tb.ar) 5 rfl (fam_set (List.mem_of_getElem? (i := 1) rfl)) ?_
   refine To.del6 ?_
   refine To.del2 ?_
   refine To.up7 ?_
   refine To.up7 ?_
   refine To.up7 ?_
   refine To.up3 ?_
   refine To.up4 ?_
   refine To.up7 ?_
   refine To.up6 ?_
   refine To.end0 (.inr rfl) Tryz.results69 ?_
   exact ⟨rfl, (⟨d.Av, d.qv, d.vars, d.At, d.qt, (d.tabs.set ka t'), ⟨d.dk.A, d.dk.q, d.dk.l⟩, d.Ae, d.qe, d.effs, d.cost, d.As, d.qs, ((d.stack.dropLast).dropLast), d.next, d.sends, d.disks, d.fault⟩ : Dm), rfl, by unfold tableV; simp only [hgd]; rw [if_neg (show ¬ ((x.op : Nat) : Int) = 6 by omega), if_neg (show ¬ ((x.op : Nat) : Int) = 7 by omega), if_neg (show ¬ ((x.op : Nat) : Int) = 8 by omega), if_pos (show ((x.op : Nat) : Int) = 25 by omega)]; first | rfl | (simp [Dm.val, hka, map_set, ht', -List.map_set]; done) | (simp [Dm.val, hka, map_set, ht', -List.map_set]; rfl), ⟨caps_set hc.1 htq, hc.2⟩⟩
  refine To.seq (To.reg ?_)
  refine To.r (Rd.eql rfl rfl rfl) ?_
  refine To.a (To.nil (To.thenN ?_))
  refine To.condP rfl (fun k58 => ?_) (fun k58 => ?_)
  ·
   refine To.oneS 3 rfl (mem_at ht Tb.ar) ?_
   refine To.flow2c [] 3 5 [⟨0, [], 0⟩, ⟨1, [], 0⟩, ⟨2, [], 0⟩, ⟨4, [], 0⟩, ⟨5, [], 5⟩, ⟨3, [], 1⟩, ⟨6, [], 5⟩, ⟨7, [], 0⟩, ⟨8, [], 5⟩] [⟨0, [], 0⟩, ⟨1, [], 0⟩, ⟨2, [], 0⟩, ⟨4, [], 0⟩, ⟨3, [], 1⟩, ⟨5, [], 5⟩, ⟨6, [], 5⟩, ⟨7, [], 0⟩, ⟨8, [], 5⟩] mixed rfl (by kernel_rfl) (by kernel_rfl) (by kernel_rfl) (oks_nil _) ?_ ?_
   ·
    refine FlowS.mo ?_
    refine FlowS.mo ?_
    refine FlowS.f rfl (Rd.nilCheck rfl rfl) ?_
    refine FlowS.mo ?_
    refine FlowS.call [1, 7] rfl rfl rfl rfl (Ent.fn rfl rfl ca66) rfl (pop_fn b s d (by first | omega | (simp only [List.length_append, List.length_dropLast, List.length_cons, List.length_nil]; omega))) ?_
    rintro _ _ ⟨rfl, rfl⟩
    refine ⟨oks_nil _, ?_⟩
    refine FlowS.r rfl (Rd.loadS (i := 4) rfl rfl r40 rfl (rows_gives encTb ht) (encTb.len _)) ?_
    refine FlowS.call [2] rfl rfl rfl rfl (Ent.fn rfl rfl ca89) rfl (tdel_fn t.A t.q t.l (d.stack.getLastD 0) (by omega) hq hg.asc) ?_
    rintro _ _ ⟨Bp, qp, rfl, htq, rfl⟩
    refine ⟨oks_nil _, ?_⟩
    refine FlowS.f rfl (Rd.nilCheck rfl rfl) ?_
    refine FlowS.up rfl rfl rfl (Up.storeS (i := 4) (us := Tb.cells (⟨Bp, qp, (delT t.l (d.stack.getLastD 0))⟩ : Tb)) rfl rfl rfl r40 (encTb.len _) rfl rfl (rows_takes encTb (by decide) (by omega))) (oks_nil _) ?_
    refine FlowS.fin ?_
    refine To.blockN ?_
    refine To.as [ros encEn Bp (delT t.l (d.stack.getLastD 0)), box b [.slice d.Av d.vars.length d.qv, .slice d.At ((d.tabs.set ka (⟨Bp, qp, delT t.l (d.stack.getLastD 0)⟩ : Tb)).length) d.qt, .slice d.dk.A d.dk.l.length d.dk.q, .slice d.Ae d.effs.length d.qe, .int .i64 d.cost, .slice s.Ac s.code.length s.qc, .slice s.Aa s.args.length s.qa, .int .i64 s.now, .slice s.Ag s.flags.length s.qg, .int .i64 s.dsk, .slice s.Af s.fail.length s.qf, .slice d.As ((d.stack.dropLast).length) d.qs, .int .i64 d.next, .int .i64 d.sends, .int .i64 d.disks, .bool d.fault] 77, rows encI 2 1 d.As d.qs (d.stack.dropLast), rows encI 2 1 d.Av d.qv d.vars, rows Tb.cells 40 1 d.At d.qt (d.tabs.set ka (⟨Bp, qp, (delT t.l (d.stack.getLastD 0))⟩ : Tb)), rosS encEn (d.tabs.map Tb.ar), ros encEn d.dk.A d.dk.l, rows Ef.cells 84 8 d.Ae d.qe d.effs, rosS encI (d.effs.map Ef.ar)] (by rw [List.length_set] <;> rfl) ?_
    refine To.famS ((d.tabs.set ka (⟨Bp, qp, delT t.l (d.stack.getLastD 0)⟩ : Tb)).map Tb.ar) 5 rfl (fam_set (List.mem_of_getElem? (i := 0) rfl)) ?_
    refine To.del6 ?_
    refine To.del1 ?_
    refine To.up7 ?_
    refine To.up7 ?_
    refine To.up7 ?_
    refine To.up3 ?_
    refine To.up7 ?_
    refine To.up7 ?_
    refine To.up6 ?_
    refine To.end0 (.inr rfl) Tryz.results69 ?_
    exact ⟨rfl, (⟨d.Av, d.qv, d.vars, d.At, d.qt, (d.tabs.set ka (⟨Bp, qp, delT t.l (d.stack.getLastD 0)⟩ : Tb)), ⟨d.dk.A, d.dk.q, d.dk.l⟩, d.Ae, d.qe, d.effs, d.cost, d.As, d.qs, (d.stack.dropLast), d.next, d.sends, d.disks, d.fault⟩ : Dm), rfl, by unfold tableV; simp only [hgd]; rw [if_neg (show ¬ ((x.op : Nat) : Int) = 6 by omega), if_neg (show ¬ ((x.op : Nat) : Int) = 7 by omega), if_neg (show ¬ ((x.op : Nat) : Int) = 8 by omega), if_neg (show ¬ ((x.op : Nat) : Int) = 25 by omega)]; first | rfl | (simp [Dm.val, hka, map_set, -List.map_set]; done) | (simp [Dm.val, hka, map_set, -List.map_set]; rfl), ⟨caps_set hc.1 htq, hc.2⟩⟩
   refine FlowS.mo ?_
   refine FlowS.mo ?_
   refine FlowS.f rfl (Rd.nilCheck rfl rfl) ?_
   refine FlowS.mo ?_
   refine FlowS.r rfl (Rd.loadS (i := 3) rfl rfl r40 rfl (rows_gives encTb ht) (encTb.len _)) ?_
   refine FlowS.call [1, 7] rfl rfl rfl rfl (Ent.fn rfl rfl ca66) rfl (pop_fn b s d (by first | omega | (simp only [List.length_append, List.length_dropLast, List.length_cons, List.length_nil]; omega))) ?_
   rintro _ _ ⟨rfl, rfl⟩
   refine ⟨oks_nil _, ?_⟩
   refine FlowS.call [2] rfl rfl rfl rfl (Ent.fn rfl rfl ca89) rfl (tdel_fn t.A t.q t.l (d.stack.getLastD 0) (by omega) hq hg.asc) ?_
   rintro _ _ ⟨Bp, qp, rfl, htq, rfl⟩
   refine ⟨oks_nil _, ?_⟩
   refine FlowS.f rfl (Rd.nilCheck rfl rfl) ?_
   refine FlowS.up rfl rfl rfl (Up.storeS (i := 4) (us := Tb.cells (⟨Bp, qp, (delT t.l (d.stack.getLastD 0))⟩ : Tb)) rfl rfl rfl r40 (encTb.len _) rfl rfl (rows_takes encTb (by decide) (by omega))) (oks_nil _) ?_
   refine FlowS.fin ?_
   refine To.blockN ?_
   refine To.as [ros encEn Bp (delT t.l (d.stack.getLastD 0)), box b [.slice d.Av d.vars.length d.qv, .slice d.At ((d.tabs.set ka (⟨Bp, qp, delT t.l (d.stack.getLastD 0)⟩ : Tb)).length) d.qt, .slice d.dk.A d.dk.l.length d.dk.q, .slice d.Ae d.effs.length d.qe, .int .i64 d.cost, .slice s.Ac s.code.length s.qc, .slice s.Aa s.args.length s.qa, .int .i64 s.now, .slice s.Ag s.flags.length s.qg, .int .i64 s.dsk, .slice s.Af s.fail.length s.qf, .slice d.As ((d.stack.dropLast).length) d.qs, .int .i64 d.next, .int .i64 d.sends, .int .i64 d.disks, .bool d.fault] 77, rows encI 2 1 d.As d.qs (d.stack.dropLast), rows encI 2 1 d.Av d.qv d.vars, rows Tb.cells 40 1 d.At d.qt (d.tabs.set ka (⟨Bp, qp, (delT t.l (d.stack.getLastD 0))⟩ : Tb)), rosS encEn (d.tabs.map Tb.ar), ros encEn d.dk.A d.dk.l, rows Ef.cells 84 8 d.Ae d.qe d.effs, rosS encI (d.effs.map Ef.ar)] (by rw [List.length_set] <;> rfl) ?_
   refine To.famS ((d.tabs.set ka (⟨Bp, qp, delT t.l (d.stack.getLastD 0)⟩ : Tb)).map Tb.ar) 5 rfl (fam_set (List.mem_of_getElem? (i := 0) rfl)) ?_
   refine To.del6 ?_
   refine To.del1 ?_
   refine To.up7 ?_
   refine To.up7 ?_
   refine To.up7 ?_
   refine To.up3 ?_
   refine To.up7 ?_
   refine To.up7 ?_
   refine To.up6 ?_
   refine To.end0 (.inr rfl) Tryz.results69 ?_
   exact ⟨rfl, (⟨d.Av, d.qv, d.vars, d.At, d.qt, (d.tabs.set ka (⟨Bp, qp, delT t.l (d.stack.getLastD 0)⟩ : Tb)), ⟨d.dk.A, d.dk.q, d.dk.l⟩, d.Ae, d.qe, d.effs, d.cost, d.As, d.qs, (d.stack.dropLast), d.next, d.sends, d.disks, d.fault⟩ : Dm), rfl, by unfold tableV; simp only [hgd]; rw [if_neg (show ¬ ((x.op : Nat) : Int) = 6 by omega), if_neg (show ¬ ((x.op : Nat) : Int) = 7 by omega), if_neg (show ¬ ((x.op : Nat) : Int) = 8 by omega), if_neg (show ¬ ((x.op : Nat) : Int) = 25 by omega)]; first | rfl | (simp [Dm.val, hka, map_set, -List.map_set]; done) | (simp [Dm.val, hka, map_set, -List.map_set]; rfl), ⟨caps_set hc.1 htq, hc.2⟩⟩
  exfalso; omega
end Go.Proofs.YtoehnbacbobhiaaGreatDoor
