/- The machine sends. Own text (walks printed by sx.py). -/
import Derived.Test.YtoehnbacbobhiaaGreatDoorL1
import Derived.Test.YtoehnbacbobhiaaGreatDoorX27
set_option linter.unusedVariables false
set_option linter.unusedSimpArgs false
namespace Go.Proofs.YtoehnbacbobhiaaGreatDoor
open Go.RowKit Go.Flow Go.Mem Go.Sep
def capsD (d : Dm) : Prop := (∀ x ∈ d.tabs, x.l.length ≤ x.q) ∧ d.dk.l.length ≤ d.dk.q
structure Okv (s : Sm) (d : Dv) : Prop where
  tabs : ∀ t ∈ d.tabs, Good t
  disk : Good d.disk
  asc : AscI s.fail
  fail : s.fail.length ≤ 1000000
  effs : d.effs.length ≤ 2000000
  sends : 0 ≤ d.sends ∧ d.sends ≤ 8
  disks : 0 ≤ d.disks ∧ d.disks ≤ 2000000
  dsk : 0 ≤ s.dsk ∧ s.dsk ≤ 1000000000
theorem famE_snoc {T : List Ef} {e : Ef} {Γ : List Chunk} (h : ros encI e.A e.args ∈ Γ) : ∀ p ∈ (T ++ [e]).map Ef.ar, p ∈ T.map Ef.ar ∨ ros encI p.1 p.2 ∈ Γ := fun p hp => by
  rw [List.map_append] at hp
  rcases List.mem_append.1 hp with h1 | h1
  · exact .inl h1
  · rw [List.mem_singleton.1 h1]; exact .inr h
set_option maxHeartbeats 2000000 in
set_option maxRecDepth 100000 in
theorem send_fn (b : Nat) (s : Sm) (d : Dm) (x : Ins) (hop : ((x.op : Nat) : Int) = 30 ∨ ((x.op : Nat) : Int) = 31) (hf : Fit s x d.val) (ho : Okv s d.val) (hc : capsD d) :
    Does Tryz.prog 67 [.pointer (some ⟨b, 0, none⟩), .agg (Ins.cells x).toArray] [box b [.slice d.Av d.vars.length d.qv, .slice d.At d.tabs.length d.qt, .slice d.dk.A d.dk.l.length d.dk.q, .slice d.Ae d.effs.length d.qe, .int .i64 d.cost, .slice s.Ac s.code.length s.qc, .slice s.Aa s.args.length s.qa, .int .i64 s.now, .slice s.Ag s.flags.length s.qg, .int .i64 s.dsk, .slice s.Af s.fail.length s.qf, .slice d.As d.stack.length d.qs, .int .i64 d.next, .int .i64 d.sends, .int .i64 d.disks, .bool d.fault] 77, rows encI 2 1 d.Av d.qv d.vars, rows Tb.cells 40 1 d.At d.qt d.tabs, rosS encEn (d.tabs.map Tb.ar), ros encEn d.dk.A d.dk.l, rows Ef.cells 84 8 d.Ae d.qe d.effs, rosS encI (d.effs.map Ef.ar), rows encI 2 1 d.As d.qs d.stack] (fun v Γ' => v = .tuple #[] ∧ ∃ d' : Dm, Γ' = [box b [.slice d'.Av d'.vars.length d'.qv, .slice d'.At d'.tabs.length d'.qt, .slice d'.dk.A d'.dk.l.length d'.dk.q, .slice d'.Ae d'.effs.length d'.qe, .int .i64 d'.cost, .slice s.Ac s.code.length s.qc, .slice s.Aa s.args.length s.qa, .int .i64 s.now, .slice s.Ag s.flags.length s.qg, .int .i64 s.dsk, .slice s.Af s.fail.length s.qf, .slice d'.As d'.stack.length d'.qs, .int .i64 d'.next, .int .i64 d'.sends, .int .i64 d'.disks, .bool d'.fault] 77, rows encI 2 1 d'.Av d'.qv d'.vars, rows Tb.cells 40 1 d'.At d'.qt d'.tabs, rosS encEn (d'.tabs.map Tb.ar), ros encEn d'.dk.A d'.dk.l, rows Ef.cells 84 8 d'.Ae d'.qe d'.effs, rosS encI (d'.effs.map Ef.ar), rows encI 2 1 d'.As d'.qs d'.stack] ∧ d'.val = sendV x d.val ∧ capsD d') := by
  have hht : d.stack.length ≤ 4001 := hf.height
  have hpp : popsN x ≤ ((d.stack.length : Nat) : Int) := hf.pops
  have hpo := pops_of x
  have hsn : 0 ≤ x.n ∧ x.n ≤ 4 := hf.sends hop
  have hss : 0 ≤ d.sends ∧ d.sends ≤ 8 := ho.sends
  have hel : d.effs.length ≤ 2000000 := by have : (d.effs.map Ef.val).length ≤ 2000000 := ho.effs; simpa using this
  obtain ⟨kn, hkn⟩ : ∃ kn : Nat, x.n = ((kn : Nat) : Int) := ⟨x.n.toNat, by omega⟩
  have hknl : kn ≤ d.stack.length := by omega
  refine Does.enter Tryz.func67 rfl Tryz.ntmps67 rfl (fun w0 => ?_)
  refine To.seq (To.reg ?_)
  refine To.boxed rfl rfl rfl rfl rfl rfl (fun b3 => ?_)
  refine To.nil (To.thenN (To.seq (To.seq (To.reg (To.m ?_)))))
  refine To.r (Rd.nilCheck rfl rfl) ?_
  refine To.f fl77_5 ?_
  refine To.lo 1 c3 ?_
  refine To.r (Rd.eql rfl rfl rfl) ?_
  refine To.nil (To.thenN ?_)
  refine To.condP rfl (fun c10 => ?_) (fun c10 => ?_)
  ·
   refine To.seq (To.reg (To.m ?_))
   refine To.r (Rd.nilCheck rfl rfl) ?_
   refine To.f fl77_7 ?_
   refine To.u (Up.store (i := 1) rfl rfl rfl c4 rfl rfl (box_takes1 rfl)) ?_
   refine To.nil (To.thenN (To.ret (To.thenR ?_)))
   refine To.del0 ?_
   refine To.end0 (.inl rfl) Tryz.results67 ?_
   exact ⟨rfl, (⟨d.Av, d.qv, d.vars, d.At, d.qt, d.tabs, ⟨d.dk.A, d.dk.q, d.dk.l⟩, d.Ae, d.qe, d.effs, d.cost, d.As, d.qs, d.stack, d.next, d.sends, d.disks, true⟩ : Dm), rfl, by unfold sendV; rw [if_pos (show d.val.sends = 8 from c10)]; rfl, hc⟩
  refine To.skip (To.thenN (To.seq (To.reg (To.m ?_))))
  refine To.r (Rd.nilCheck rfl rfl) ?_
  refine To.f fl77_5 ?_
  refine To.lo 1 c3 ?_
  refine To.r (Rd.add64 rfl rfl rfl (by omega)) ?_
  refine To.r (Rd.nilCheck rfl rfl) ?_
  refine To.f fl77_5 ?_
  refine To.u (Up.store (i := 1) rfl rfl rfl c3 rfl rfl (box_takes1 rfl)) ?_
  refine To.nil (To.thenN (To.seq ?_))
  refine To.flow [] [⟨0, [], 0⟩, ⟨1, [], 0⟩, ⟨2, [], 0⟩, ⟨5, [], 0⟩, ⟨3, [], 1⟩, ⟨4, [], 0⟩, ⟨6, [], 1⟩, ⟨7, [], 0⟩, ⟨8, [], 0⟩] mixed (by kernel_rfl) (oks_nil _) ?_
  refine FlowS.mo ?_
  refine FlowS.f rfl (Rd.nilCheck rfl rfl) ?_
  refine FlowS.fi fl77_3 ?_
  refine FlowS.fi fl36_3 ?_
  refine FlowS.lo 1 c24 ?_
  refine FlowS.f rfl (Rd.len rfl rfl Tryz.underlying24) ?_
  refine FlowS.lo 0 c2 ?_
  refine FlowS.f rfl (Rd.as (v' := .int .i64 ((d.stack.length - kn : Nat) : Int)) (congrArg (Value.int .i64) (by omega)) (Rd.sub64 rfl rfl rfl (by omega))) ?_
  refine FlowS.f rfl (Rd.assign rfl rfl) ?_
  refine FlowS.fin ?_
  refine To.thenN (To.seq ?_)
  refine To.know (p := d.stack.length ≤ d.qs) (fun w hw => rows_capD 8 rfl hw) (fun hqs => ?_)
  have hdl : (d.stack.drop (d.stack.length - kn)).length ≤ 1000000 := by rw [List.length_drop]; omega
  refine To.flow [] [⟨0, [], 0⟩, ⟨2, [], 0⟩, ⟨4, [], 0⟩, ⟨5, [], 0⟩, ⟨6, [], 0⟩, ⟨8, [], 0⟩, ⟨7, [], 1⟩, ⟨9, [], 0⟩, ⟨10, [], 4⟩, ⟨1, [], 1⟩, ⟨3, [], 1⟩, ⟨11, [10], 0⟩, ⟨12, [], 2⟩, ⟨13, [10, 12], 5⟩] mixed (by kernel_rfl) (oks_nil _) ?_
  refine FlowS.fi fl36_1 ?_
  refine FlowS.fi fl36_2 ?_
  refine FlowS.mo ?_
  refine FlowS.f rfl (Rd.nilCheck rfl rfl) ?_
  refine FlowS.fi fl77_3 ?_
  refine FlowS.mo ?_
  refine FlowS.lo 1 c24 ?_
  refine FlowS.f rfl (Rd.as (v' := .slice (slAt d.As d.qs (d.stack.length - kn) 1) (d.stack.drop (d.stack.length - kn)).length (d.qs - (d.stack.length - kn))) (congrArg (fun z => Value.slice (slAt d.As d.qs (d.stack.length - kn) 1) z (d.qs - (d.stack.length - kn))) (List.length_drop).symm) (Rd.sliceLo (lo := d.stack.length - kn) rfl s24 rfl rfl (by omega))) ?_
  refine FlowS.callM rfl rfl rfl rfl rfl (Ent.fn rfl rfl ca18) (clone64_fn (slAt d.As d.qs (d.stack.length - kn) 1) (d.qs - (d.stack.length - kn)) (d.stack.drop (d.stack.length - kn)) hdl) rfl (oks_cons (oks_dropRow encI_ok 8 rfl hqs (by omega)) (oks_nil _)) ?_
  rintro _ _ ⟨Bc, qc, rfl, rfl⟩
  refine ⟨rfl, ?_⟩
  refine FlowS.lo 0 c3 ?_
  refine FlowS.lo 0 c3 ?_
  refine FlowS.f rfl (Rd.build (vs := [(0, .int .u8 1), (1, .int .i64 x.a), (2, .int .i64 x.b), (7, .slice Bc ((d.stack.drop (d.stack.length - kn)).length) qc)]) (cells := [.int .u8 1, .int .i64 x.a, .int .i64 x.b, .int .i64 0, .int .i64 0, .int .i64 0, .bool false, .slice Bc ((d.stack.drop (d.stack.length - kn)).length) qc]) rfl rfl rfl (by kernel_rfl)) ?_
  refine FlowS.mk rfl rfl rfl rfl rfl (Mk.alloc rfl z84) ?_
  rintro _ _ ⟨b5, rfl, rfl⟩
  refine FlowS.up rfl rfl rfl (Up.storeS (i := 0) rfl rfl rfl r84 rfl rfl rfl (box_takesAll rfl)) (oks_nil _) ?_
  refine FlowS.fin ?_
  refine To.thenN (To.seq ?_)
  refine To.up1 ?_
  refine To.layRow ?_
  refine To.reg (To.m ?_)
  refine To.m ?_
  refine To.r (Rd.nilCheck rfl rfl) ?_
  refine To.f fl77_3 ?_
  refine To.lo 3 c24 ?_
  refine To.m ?_
  refine To.r (Rd.as (v' := .slice d.As (d.stack.take (d.stack.length - kn)).length d.qs) (congrArg (fun z => Value.slice d.As z d.qs) (by rw [List.length_take]; omega)) (Rd.sliceHi (hi := d.stack.length - kn) rfl s24 rfl rfl (by omega))) ?_
  refine To.r (Rd.nilCheck rfl rfl) ?_
  refine To.f fl77_3 ?_
  refine To.u (Up.store (i := 3) rfl rfl rfl c24 rfl rfl (box_takes1 rfl)) ?_
  refine To.nil (To.thenN (To.seq (To.seq ?_)))
  refine To.up10 ?_
  refine To.shrink encI_ok (d.stack.length - kn) (by omega) ?_
  have htk : (d.stack.take (d.stack.length - kn)).length = d.stack.length - kn := by rw [List.length_take]; omega
  refine To.reg ?_
  refine To.f fl36_0 ?_
  refine To.lo 3 c34 ?_
  refine To.r (Rd.eql rfl rfl rfl) ?_
  refine To.nil (To.thenN ?_)
  refine To.condP rfl (fun c52 => ?_) (fun c52 => ?_)
  ·
   have h31 : (x.op : Int) = 31 := by first | exact c52 | omega
   have hkl : kn < d.stack.length := by omega
   refine To.reg (To.m ?_)
   refine To.call [4, 0] rfl rfl rfl (Ent.fn rfl rfl ca66) rfl (pop_fn b s (⟨d.Av, d.qv, d.vars, d.At, d.qt, d.tabs, ⟨d.dk.A, d.dk.q, d.dk.l⟩, d.Ae, d.qe, d.effs, d.cost, d.As, d.qs, (d.stack.take (d.stack.length - kn)), d.next, d.sends + 1, d.disks, d.fault⟩ : Dm) (by first | omega | (simp only [List.length_append, List.length_dropLast, List.length_cons, List.length_nil]; omega))) ?_
   rintro _ _ ⟨rfl, rfl⟩
   refine To.f fl84_0 ?_
   refine To.u (Up.store (i := 3) rfl rfl rfl c82 rfl rfl (box_takes1 rfl)) ?_
   refine To.f fl84_3 ?_
   refine To.u (Up.store (i := 3) rfl rfl rfl c2 rfl rfl (box_takes1 rfl)) ?_
   refine To.nil (To.thenN ?_)
   refine To.flow [] [⟨0, [], 0⟩, ⟨1, [], 0⟩, ⟨2, [], 0⟩, ⟨3, [], 0⟩, ⟨4, [], 0⟩, ⟨5, [], 1⟩, ⟨6, [], 1⟩, ⟨7, [], 2⟩, ⟨8, [7], 5⟩, ⟨9, [], 0⟩, ⟨10, [], 0⟩, ⟨11, [], 0⟩, ⟨12, [], 5⟩] mixed (by kernel_rfl) (oks_nil _) ?_
   refine FlowS.mo ?_
   refine FlowS.mo ?_
   refine FlowS.f rfl (Rd.nilCheck rfl rfl) ?_
   refine FlowS.fi fl77_0 ?_
   refine FlowS.fi fl56_1 ?_
   refine FlowS.lo 0 c54 ?_
   refine FlowS.r rfl (Rd.loadS (i := 3) rfl rfl r84 rfl box_whole rfl) ?_
   refine FlowS.mk rfl rfl rfl rfl rfl (Mk.sliceN (us := [.int .u8 2, .int .i64 x.a, .int .i64 x.b, .int .i64 ((d.stack.take (d.stack.length - kn)).getLastD 0), .int .i64 0, .int .i64 0, .bool false, .slice Bc ((d.stack.drop (d.stack.length - kn)).length) qc]) rfl s54 rfl rfl rfl rfl rfl rfl) ?_
   rintro _ _ ⟨b64, rfl, rfl⟩
   refine FlowS.ge rfl rfl rfl rfl (Ge.append1 encEf (i := 10) (j := 0) (el := (⟨2, x.a, x.b, (d.stack.take (d.stack.length - kn)).getLastD 0, 0, 0, false, Bc, qc, (d.stack.drop (d.stack.length - kn))⟩ : Ef)) rfl s54 rfl rfl rfl rfl rfl (by first | omega | (simp only [List.length_append, List.length_cons, List.length_nil]; omega)) (by first | omega | (simp only [List.length_append, List.length_cons, List.length_nil]; omega))) ?_
   rintro _ _ ⟨A65, q65, rfl, rfl⟩
   refine ⟨oks_nil _, ?_⟩
   refine FlowS.f rfl (Rd.nilCheck rfl rfl) ?_
   refine FlowS.fi fl77_0 ?_
   refine FlowS.fi fl56_1 ?_
   refine FlowS.up rfl rfl rfl (Up.store (i := 1) rfl rfl rfl c54 rfl rfl (box_takes1 rfl)) (oks_nil _) ?_
   refine FlowS.fin ?_
   refine To.famS ((d.effs ++ [(⟨2, x.a, x.b, (d.stack.take (d.stack.length - kn)).getLastD 0, 0, 0, false, Bc, qc, (d.stack.drop (d.stack.length - kn))⟩ : Ef)]).map Ef.ar) 11 rfl (famE_snoc (List.mem_of_getElem? (i := 3) rfl)) ?_
   refine To.del12 ?_
   refine To.del6 ?_
   refine To.del5 ?_
   refine To.del4 ?_
   refine To.del1 ?_
   refine To.up7 ?_
   refine To.up7 ?_
   refine To.up7 ?_
   refine To.up7 ?_
   refine To.up7 ?_
   refine To.up6 ?_
   refine To.end0 (.inr rfl) Tryz.results67 ?_
   exact ⟨rfl, (⟨d.Av, d.qv, d.vars, d.At, d.qt, d.tabs, ⟨d.dk.A, d.dk.q, d.dk.l⟩, A65, q65, (d.effs ++ [(⟨2, x.a, x.b, (d.stack.take (d.stack.length - kn)).getLastD 0, 0, 0, false, Bc, qc, (d.stack.drop (d.stack.length - kn))⟩ : Ef)]), d.cost, d.As, d.qs, ((d.stack.take (d.stack.length - kn)).dropLast), d.next, d.sends + 1, d.disks, d.fault⟩ : Dm), rfl, by unfold sendV; rw [if_neg (show ¬ d.val.sends = 8 from c10)]; simp only []; rw [if_pos (show ((x.op : Nat) : Int) = 31 from c52)]; simp [Dm.val, hkn, Ef.val], hc⟩
  refine To.skip (To.thenN ?_)
  refine To.flow [] [⟨0, [], 0⟩, ⟨1, [], 0⟩, ⟨2, [], 0⟩, ⟨3, [], 0⟩, ⟨4, [], 0⟩, ⟨5, [], 1⟩, ⟨6, [], 1⟩, ⟨7, [], 2⟩, ⟨8, [7], 5⟩, ⟨9, [], 0⟩, ⟨10, [], 0⟩, ⟨11, [], 0⟩, ⟨12, [], 5⟩] mixed (by kernel_rfl) (oks_nil _) ?_
  refine FlowS.mo ?_
  refine FlowS.mo ?_
  refine FlowS.f rfl (Rd.nilCheck rfl rfl) ?_
  refine FlowS.fi fl77_0 ?_
  refine FlowS.fi fl56_1 ?_
  refine FlowS.lo 4 c54 ?_
  refine FlowS.r rfl (Rd.loadS (i := 2) rfl rfl r84 rfl box_whole rfl) ?_
  refine FlowS.mk rfl rfl rfl rfl rfl (Mk.sliceN (us := [.int .u8 1, .int .i64 x.a, .int .i64 x.b, .int .i64 0, .int .i64 0, .int .i64 0, .bool false, .slice Bc ((d.stack.drop (d.stack.length - kn)).length) qc]) rfl s54 rfl rfl rfl rfl rfl rfl) ?_
  rintro _ _ ⟨b64_2, rfl, rfl⟩
  refine FlowS.ge rfl rfl rfl rfl (Ge.append1 encEf (i := 10) (j := 0) (el := (⟨1, x.a, x.b, 0, 0, 0, false, Bc, qc, (d.stack.drop (d.stack.length - kn))⟩ : Ef)) rfl s54 rfl rfl rfl rfl rfl (by first | omega | (simp only [List.length_append, List.length_cons, List.length_nil]; omega)) (by first | omega | (simp only [List.length_append, List.length_cons, List.length_nil]; omega))) ?_
  rintro _ _ ⟨A65_2, q65_2, rfl, rfl⟩
  refine ⟨oks_nil _, ?_⟩
  refine FlowS.f rfl (Rd.nilCheck rfl rfl) ?_
  refine FlowS.fi fl77_0 ?_
  refine FlowS.fi fl56_1 ?_
  refine FlowS.up rfl rfl rfl (Up.store (i := 5) rfl rfl rfl c54 rfl rfl (box_takes1 rfl)) (oks_nil _) ?_
  refine FlowS.fin ?_
  refine To.famS ((d.effs ++ [(⟨1, x.a, x.b, 0, 0, 0, false, Bc, qc, (d.stack.drop (d.stack.length - kn))⟩ : Ef)]).map Ef.ar) 11 rfl (famE_snoc (List.mem_of_getElem? (i := 2) rfl)) ?_
  refine To.del12 ?_
  refine To.del5 ?_
  refine To.del4 ?_
  refine To.del3 ?_
  refine To.del1 ?_
  refine To.up7 ?_
  refine To.up7 ?_
  refine To.up7 ?_
  refine To.up7 ?_
  refine To.up7 ?_
  refine To.up7 ?_
  refine To.end0 (.inr rfl) Tryz.results67 ?_
  exact ⟨rfl, (⟨d.Av, d.qv, d.vars, d.At, d.qt, d.tabs, ⟨d.dk.A, d.dk.q, d.dk.l⟩, A65_2, q65_2, (d.effs ++ [(⟨1, x.a, x.b, 0, 0, 0, false, Bc, qc, (d.stack.drop (d.stack.length - kn))⟩ : Ef)]), d.cost, d.As, d.qs, (d.stack.take (d.stack.length - kn)), d.next, d.sends + 1, d.disks, d.fault⟩ : Dm), rfl, by unfold sendV; rw [if_neg (show ¬ d.val.sends = 8 from c10)]; simp only []; rw [if_neg (show ¬ ((x.op : Nat) : Int) = 31 from c52)]; simp [Dm.val, hkn, Ef.val], hc⟩
end Go.Proofs.YtoehnbacbobhiaaGreatDoor
