/- A step of the machine. Own text (walks printed by sx.py). -/
import Derived.Test.YtoehnbacbobhiaaGreatDoorL1
import Derived.Test.YtoehnbacbobhiaaGreatDoorX30
set_option linter.unusedVariables false
set_option linter.unusedSimpArgs false
namespace Go.Proofs.YtoehnbacbobhiaaGreatDoor
open Go.RowKit Go.Flow Go.Mem Go.Sep
theorem stepV_send {s : Sm} {x : Ins} {d : Dv} (h : ((x.op : Nat) : Int) = 30 ∨ ((x.op : Nat) : Int) = 31) : stepV s x d = sendV x d := by
  unfold stepV
  rw [if_neg (by omega), if_neg (by omega), if_neg (by omega), if_neg (by omega), if_neg (by omega), if_neg (by omega), if_neg (by omega), if_neg (by omega), if_neg (by omega), if_neg (by omega), if_pos h]
theorem stepV_disk {s : Sm} {x : Ins} {d : Dv} (h : ((x.op : Nat) : Int) = 32 ∨ ((x.op : Nat) : Int) = 33) : stepV s x d = diskV s x d := by
  unfold stepV
  rw [if_neg (by omega), if_neg (by omega), if_neg (by omega), if_neg (by omega), if_neg (by omega), if_neg (by omega), if_neg (by omega), if_neg (by omega), if_neg (by omega), if_neg (by omega), if_neg (by omega), if_pos h]
theorem stepV_table {s : Sm} {x : Ins} {d : Dv} (h : ((x.op : Nat) : Int) = 6 ∨ ((x.op : Nat) : Int) = 7 ∨ ((x.op : Nat) : Int) = 8 ∨ ((x.op : Nat) : Int) = 25 ∨ ((x.op : Nat) : Int) = 26) : stepV s x d = tableV x d := by
  unfold stepV
  rw [if_neg (by omega), if_neg (by omega), if_neg (by omega), if_neg (by omega), if_neg (by omega), if_neg (by omega), if_neg (by omega), if_neg (by omega), if_neg (by omega), if_neg (by omega), if_neg (by omega), if_neg (by omega), if_neg (by omega), if_pos h]
theorem Does.framed {P : Program} {f : FuncId} {args : List Value} {Γ Γ1 Δ : List Chunk} {R : Value → List Chunk → Prop} {is : List Nat} (h : Does P f args Γ1 R) (hp : pull Γ is = some (Γ1, Δ)) : Does P f args Γ (fun v Γ' => ∃ Γ1', R v Γ1' ∧ Γ' = Γ1' ++ Δ) := fun w hs =>
  (h w ((hs.perm (pull_perm hp)).left)).mono fun _ _ ⟨v, Γ', h1, h2, h3⟩ => ⟨v, Γ' ++ Δ, h1, ⟨Γ', h2, rfl⟩, Post.at_ hp hs h3⟩
theorem Does.turned {P : Program} {f : FuncId} {args : List Value} {Γ : List Chunk} {R R' : Value → List Chunk → Prop} (h : Does P f args Γ R) (hr : ∀ v Γ', R v Γ' → ∃ Γ'' Δ, R' v Γ'' ∧ Γ'.Perm (Γ'' ++ Δ)) : Does P f args Γ R' := fun w hs =>
  (h w hs).mono fun _ _ ⟨v, Γ', h1, h2, h3⟩ => by
    obtain ⟨Γ'', Δ, h4, h5⟩ := hr v Γ' h2
    exact ⟨v, Γ'', h1, h4, (h3.perm h5).drop⟩
set_option maxHeartbeats 2000000 in
set_option maxRecDepth 100000 in
theorem step1_fn (b : Nat) (s : Sm) (d : Dm) (x : Ins) (hop : ((x.op : Nat) : Int) = 6 ∨ ((x.op : Nat) : Int) = 7 ∨ ((x.op : Nat) : Int) = 8 ∨ ((x.op : Nat) : Int) = 25 ∨ ((x.op : Nat) : Int) = 26 ∨ ((x.op : Nat) : Int) = 30 ∨ ((x.op : Nat) : Int) = 31 ∨ ((x.op : Nat) : Int) = 32 ∨ ((x.op : Nat) : Int) = 33) (hf : Fit s x d.val) (ho : Okv s d.val) (hc : capsD d) :
    Does Tryz.prog 34 [.pointer (some ⟨b, 0, none⟩), .agg (Ins.cells x).toArray] [box b [.slice d.Av d.vars.length d.qv, .slice d.At d.tabs.length d.qt, .slice d.dk.A d.dk.l.length d.dk.q, .slice d.Ae d.effs.length d.qe, .int .i64 d.cost, .slice s.Ac s.code.length s.qc, .slice s.Aa s.args.length s.qa, .int .i64 s.now, .slice s.Ag s.flags.length s.qg, .int .i64 s.dsk, .slice s.Af s.fail.length s.qf, .slice d.As d.stack.length d.qs, .int .i64 d.next, .int .i64 d.sends, .int .i64 d.disks, .bool d.fault] 77, rows encI 2 1 d.Av d.qv d.vars, rows Tb.cells 40 1 d.At d.qt d.tabs, rosS encEn (d.tabs.map Tb.ar), ros encEn d.dk.A d.dk.l, rows Ef.cells 84 8 d.Ae d.qe d.effs, rosS encI (d.effs.map Ef.ar), rows encI 2 1 d.As d.qs d.stack, ros encI s.Aa s.args, ros encB s.Ag s.flags, ros encI s.Af s.fail] (fun v Γ' => v = .tuple #[] ∧ ∃ d' : Dm, Γ' = [box b [.slice d'.Av d'.vars.length d'.qv, .slice d'.At d'.tabs.length d'.qt, .slice d'.dk.A d'.dk.l.length d'.dk.q, .slice d'.Ae d'.effs.length d'.qe, .int .i64 d'.cost, .slice s.Ac s.code.length s.qc, .slice s.Aa s.args.length s.qa, .int .i64 s.now, .slice s.Ag s.flags.length s.qg, .int .i64 s.dsk, .slice s.Af s.fail.length s.qf, .slice d'.As d'.stack.length d'.qs, .int .i64 d'.next, .int .i64 d'.sends, .int .i64 d'.disks, .bool d'.fault] 77, rows encI 2 1 d'.Av d'.qv d'.vars, rows Tb.cells 40 1 d'.At d'.qt d'.tabs, rosS encEn (d'.tabs.map Tb.ar), ros encEn d'.dk.A d'.dk.l, rows Ef.cells 84 8 d'.Ae d'.qe d'.effs, rosS encI (d'.effs.map Ef.ar), rows encI 2 1 d'.As d'.qs d'.stack] ∧ d'.val = stepV s x d.val ∧ capsD d') := by
  have htb : ((x.op : Nat) : Int) = 6 ∨ ((x.op : Nat) : Int) = 7 ∨ ((x.op : Nat) : Int) = 8 ∨ ((x.op : Nat) : Int) = 25 ∨ ((x.op : Nat) : Int) = 26 → 0 ≤ x.a ∧ x.a < ((d.tabs.length : Nat) : Int) := fun h => by
    have := hf.tab h
    have e : d.val.tabs.length = d.tabs.length := by show (d.tabs.map Tb.l).length = _; rw [List.length_map]
    rw [e] at this; exact this
  refine Does.enter Tryz.func34 rfl Tryz.ntmps34 rfl (fun w0 => ?_)
  refine To.seq (To.reg ?_)
  refine To.boxed rfl rfl rfl rfl rfl rfl (fun b3 => ?_)
  refine To.nil (To.thenN (To.seq (To.reg ?_)))
  refine To.f fl36_0 ?_
  refine To.lo 0 c34 ?_
  refine To.nil (To.thenN (To.block (To.seq (To.reg ?_))))
  refine To.r (Rd.eql rfl rfl rfl) ?_
  refine To.a (To.nil (To.thenN ?_))
  refine To.condP rfl (fun k25 => ?_) (fun k25 => ?_)
  ·
   exfalso; omega
  refine To.seq (To.reg ?_)
  refine To.r (Rd.eql rfl rfl rfl) ?_
  refine To.a (To.nil (To.thenN ?_))
  refine To.condP rfl (fun k31 => ?_) (fun k31 => ?_)
  ·
   exfalso; omega
  refine To.seq (To.reg ?_)
  refine To.r (Rd.eql rfl rfl rfl) ?_
  refine To.a (To.nil (To.thenN ?_))
  refine To.condP rfl (fun k45 => ?_) (fun k45 => ?_)
  ·
   exfalso; omega
  refine To.seq (To.reg ?_)
  refine To.r (Rd.eql rfl rfl rfl) ?_
  refine To.a (To.nil (To.thenN ?_))
  refine To.condP rfl (fun k58 => ?_) (fun k58 => ?_)
  ·
   exfalso; omega
  refine To.seq (To.reg ?_)
  refine To.r (Rd.eql rfl rfl rfl) ?_
  refine To.a (To.nil (To.thenN ?_))
  refine To.condP rfl (fun k72 => ?_) (fun k72 => ?_)
  ·
   exfalso; omega
  refine To.seq (To.seq (To.reg ?_))
  refine To.r (Rd.eql rfl rfl rfl) ?_
  refine To.a (To.nil (To.thenN ?_))
  refine To.condP rfl (fun k81 => ?_) (fun k81 => ?_)
  ·
   exfalso; omega
  refine To.reg ?_
  refine To.r (Rd.eql rfl rfl rfl) ?_
  refine To.a (To.nil (To.thenN ?_))
  refine To.condP rfl (fun k81_2 => ?_) (fun k81_2 => ?_)
  ·
   exfalso; omega
  refine To.seq (To.reg ?_)
  refine To.r (Rd.eql rfl rfl rfl) ?_
  refine To.a (To.nil (To.thenN ?_))
  refine To.condP rfl (fun k95 => ?_) (fun k95 => ?_)
  ·
   exfalso; omega
  refine To.seq (To.reg ?_)
  refine To.r (Rd.eql rfl rfl rfl) ?_
  refine To.a (To.nil (To.thenN ?_))
  refine To.condP rfl (fun k108 => ?_) (fun k108 => ?_)
  ·
   exfalso; omega
  refine To.seq (To.reg ?_)
  refine To.r (Rd.eql rfl rfl rfl) ?_
  refine To.a (To.nil (To.thenN ?_))
  refine To.condP rfl (fun k115 => ?_) (fun k115 => ?_)
  ·
   exfalso; omega
  refine To.seq (To.reg ?_)
  refine To.r (Rd.eql rfl rfl rfl) ?_
  refine To.a (To.nil (To.thenN ?_))
  refine To.condP rfl (fun k125 => ?_) (fun k125 => ?_)
  ·
   exfalso; omega
  refine To.seq (To.seq (To.reg ?_))
  refine To.r (Rd.eql rfl rfl rfl) ?_
  refine To.a (To.nil (To.thenN ?_))
  refine To.condP rfl (fun k147 => ?_) (fun k147 => ?_)
  ·
   refine To.skip (To.thenN ?_)
   refine To.condT (congrArg (fun b => some (Value.bool b)) (decide_eq_true k147)) ?_
   refine To.reg (To.m ?_)
   refine To.r (Rd.loadS (i := 0) rfl rfl r36 rfl box_whole rfl) ?_
   refine To.call [1, 1, 1, 1, 1, 1, 1, 1] rfl rfl rfl (Ent.fn rfl rfl ca67) rfl (send_fn b s d x (by omega) hf ho hc) ?_
   rintro _ _ ⟨rfl, d', rfl, hv, hcap⟩
   refine To.nil (To.blockN ?_)
   refine To.del11 ?_
   refine To.del10 ?_
   refine To.del9 ?_
   refine To.del8 ?_
   refine To.end0 (.inr rfl) Tryz.results34 ?_
   exact ⟨rfl, d', rfl, by rw [hv]; exact (stepV_send (by omega)).symm, hcap⟩
  refine To.reg ?_
  refine To.r (Rd.eql rfl rfl rfl) ?_
  refine To.a (To.nil (To.thenN ?_))
  refine To.condP rfl (fun k147_2 => ?_) (fun k147_2 => ?_)
  ·
   refine To.reg (To.m ?_)
   refine To.r (Rd.loadS (i := 0) rfl rfl r36 rfl box_whole rfl) ?_
   refine To.call [1, 1, 1, 1, 1, 1, 1, 1] rfl rfl rfl (Ent.fn rfl rfl ca67) rfl (send_fn b s d x (by omega) hf ho hc) ?_
   rintro _ _ ⟨rfl, d', rfl, hv, hcap⟩
   refine To.nil (To.blockN ?_)
   refine To.del11 ?_
   refine To.del10 ?_
   refine To.del9 ?_
   refine To.del8 ?_
   refine To.end0 (.inr rfl) Tryz.results34 ?_
   exact ⟨rfl, d', rfl, by rw [hv]; exact (stepV_send (by omega)).symm, hcap⟩
  refine To.seq (To.seq (To.reg ?_))
  refine To.r (Rd.eql rfl rfl rfl) ?_
  refine To.a (To.nil (To.thenN ?_))
  refine To.condP rfl (fun k153 => ?_) (fun k153 => ?_)
  ·
   refine To.skip (To.thenN ?_)
   refine To.condT (congrArg (fun b => some (Value.bool b)) (decide_eq_true k153)) ?_
   refine To.reg (To.m ?_)
   refine To.r (Rd.loadS (i := 0) rfl rfl r36 rfl box_whole rfl) ?_
   refine To.call [1, 1, 1, 1, 1, 1, 1, 1, 3] rfl rfl rfl (Ent.fn rfl rfl ca68) rfl (disk_fn b s d x (by omega) hf ho hc) ?_
   rintro _ _ ⟨rfl, d', rfl, hv, hcap⟩
   refine To.nil (To.blockN ?_)
   refine To.del10 ?_
   refine To.del9 ?_
   refine To.del8 ?_
   refine To.end0 (.inr rfl) Tryz.results34 ?_
   exact ⟨rfl, d', rfl, by rw [hv]; exact (stepV_disk (by omega)).symm, hcap⟩
  refine To.reg ?_
  refine To.r (Rd.eql rfl rfl rfl) ?_
  refine To.a (To.nil (To.thenN ?_))
  refine To.condP rfl (fun k153_2 => ?_) (fun k153_2 => ?_)
  ·
   refine To.reg (To.m ?_)
   refine To.r (Rd.loadS (i := 0) rfl rfl r36 rfl box_whole rfl) ?_
   refine To.call [1, 1, 1, 1, 1, 1, 1, 1, 3] rfl rfl rfl (Ent.fn rfl rfl ca68) rfl (disk_fn b s d x (by omega) hf ho hc) ?_
   rintro _ _ ⟨rfl, d', rfl, hv, hcap⟩
   refine To.nil (To.blockN ?_)
   refine To.del10 ?_
   refine To.del9 ?_
   refine To.del8 ?_
   refine To.end0 (.inr rfl) Tryz.results34 ?_
   exact ⟨rfl, d', rfl, by rw [hv]; exact (stepV_disk (by omega)).symm, hcap⟩
  refine To.seq (To.reg ?_)
  refine To.r (Rd.eql rfl rfl rfl) ?_
  refine To.a (To.nil (To.thenN ?_))
  refine To.condP rfl (fun k159 => ?_) (fun k159 => ?_)
  ·
   exfalso; omega
  refine To.seq (To.seq (To.reg ?_))
  refine To.r (Rd.eql rfl rfl rfl) ?_
  refine To.a (To.nil (To.thenN ?_))
  refine To.condP rfl (fun k169 => ?_) (fun k169 => ?_)
  ·
   refine To.skip (To.thenN ?_)
   refine To.condT (congrArg (fun b => some (Value.bool b)) (decide_eq_true k169)) ?_
   obtain ⟨ka, hka⟩ : ∃ ka : Nat, x.a = ((ka : Nat) : Int) := ⟨x.a.toNat, by have := htb (by omega); omega⟩
   have hkl : ka < d.tabs.length := by have := htb (by omega); omega
   obtain ⟨t, ht⟩ : ∃ z0, d.tabs[ka]? = some z0 := ⟨d.tabs[ka]'(by omega), List.getElem?_eq_getElem _⟩
   refine To.flow [] [⟨0, [], 0⟩, ⟨1, [], 0⟩, ⟨3, [], 0⟩, ⟨4, [], 0⟩, ⟨5, [], 0⟩, ⟨6, [], 0⟩, ⟨7, [], 0⟩, ⟨9, [], 0⟩, ⟨2, [], 1⟩, ⟨8, [], 1⟩, ⟨10, [], 1⟩, ⟨11, [], 1⟩, ⟨12, [], 5⟩] mixed (by kernel_rfl) (oks_nil _) ?_
   refine FlowS.mo ?_
   refine FlowS.fi fl36_0 ?_
   refine FlowS.mo ?_
   refine FlowS.f rfl (Rd.nilCheck rfl rfl) ?_
   refine FlowS.fi fl77_0 ?_
   refine FlowS.fi fl56_0 ?_
   refine FlowS.fi fl42_1 ?_
   refine FlowS.fi fl36_1 ?_
   refine FlowS.lo 0 c34 ?_
   refine FlowS.lo 1 c37 ?_
   refine FlowS.lo 0 c3 ?_
   refine FlowS.r rfl (Rd.indexRowsI (i := 3) (j := ka) rfl rfl rfl hka s37 rfl ht) ?_
   refine FlowS.call [1, 1, 1, 1, 1, 1, 1, 1] rfl rfl rfl rfl (Ent.fn rfl rfl ca69) rfl (table_fn b s d x ka t ht hka (by omega) hf ho hc) ?_
   rintro _ _ ⟨rfl, d', rfl, hv, hcap⟩
   refine ⟨oks_nil _, ?_⟩
   refine FlowS.fin ?_
   refine To.blockN ?_
   refine To.del11 ?_
   refine To.del10 ?_
   refine To.del9 ?_
   refine To.del8 ?_
   refine To.end0 (.inr rfl) Tryz.results34 ?_
   exact ⟨rfl, d', rfl, by rw [hv]; exact (stepV_table (by omega)).symm, hcap⟩
  refine To.seq (To.reg ?_)
  refine To.r (Rd.eql rfl rfl rfl) ?_
  refine To.a (To.nil (To.thenN ?_))
  refine To.condP rfl (fun k169_2 => ?_) (fun k169_2 => ?_)
  ·
   refine To.skip (To.thenN ?_)
   refine To.condT (congrArg (fun b => some (Value.bool b)) (decide_eq_true k169_2)) ?_
   obtain ⟨ka, hka⟩ : ∃ ka : Nat, x.a = ((ka : Nat) : Int) := ⟨x.a.toNat, by have := htb (by omega); omega⟩
   have hkl : ka < d.tabs.length := by have := htb (by omega); omega
   obtain ⟨t, ht⟩ : ∃ z0, d.tabs[ka]? = some z0 := ⟨d.tabs[ka]'(by omega), List.getElem?_eq_getElem _⟩
   refine To.flow [] [⟨0, [], 0⟩, ⟨1, [], 0⟩, ⟨3, [], 0⟩, ⟨4, [], 0⟩, ⟨5, [], 0⟩, ⟨6, [], 0⟩, ⟨7, [], 0⟩, ⟨9, [], 0⟩, ⟨2, [], 1⟩, ⟨8, [], 1⟩, ⟨10, [], 1⟩, ⟨11, [], 1⟩, ⟨12, [], 5⟩] mixed (by kernel_rfl) (oks_nil _) ?_
   refine FlowS.mo ?_
   refine FlowS.fi fl36_0 ?_
   refine FlowS.mo ?_
   refine FlowS.f rfl (Rd.nilCheck rfl rfl) ?_
   refine FlowS.fi fl77_0 ?_
   refine FlowS.fi fl56_0 ?_
   refine FlowS.fi fl42_1 ?_
   refine FlowS.fi fl36_1 ?_
   refine FlowS.lo 0 c34 ?_
   refine FlowS.lo 1 c37 ?_
   refine FlowS.lo 0 c3 ?_
   refine FlowS.r rfl (Rd.indexRowsI (i := 3) (j := ka) rfl rfl rfl hka s37 rfl ht) ?_
   refine FlowS.call [1, 1, 1, 1, 1, 1, 1, 1] rfl rfl rfl rfl (Ent.fn rfl rfl ca69) rfl (table_fn b s d x ka t ht hka (by omega) hf ho hc) ?_
   rintro _ _ ⟨rfl, d', rfl, hv, hcap⟩
   refine ⟨oks_nil _, ?_⟩
   refine FlowS.fin ?_
   refine To.blockN ?_
   refine To.del11 ?_
   refine To.del10 ?_
   refine To.del9 ?_
   refine To.del8 ?_
   refine To.end0 (.inr rfl) Tryz.results34 ?_
   exact ⟨rfl, d', rfl, by rw [hv]; exact (stepV_table (by omega)).symm, hcap⟩
  refine To.seq (To.reg ?_)
  refine To.r (Rd.eql rfl rfl rfl) ?_
  refine To.a (To.nil (To.thenN ?_))
  refine To.condP rfl (fun k169_3 => ?_) (fun k169_3 => ?_)
  ·
   refine To.skip (To.thenN ?_)
   refine To.condT (congrArg (fun b => some (Value.bool b)) (decide_eq_true k169_3)) ?_
   obtain ⟨ka, hka⟩ : ∃ ka : Nat, x.a = ((ka : Nat) : Int) := ⟨x.a.toNat, by have := htb (by omega); omega⟩
   have hkl : ka < d.tabs.length := by have := htb (by omega); omega
   obtain ⟨t, ht⟩ : ∃ z0, d.tabs[ka]? = some z0 := ⟨d.tabs[ka]'(by omega), List.getElem?_eq_getElem _⟩
   refine To.flow [] [⟨0, [], 0⟩, ⟨1, [], 0⟩, ⟨3, [], 0⟩, ⟨4, [], 0⟩, ⟨5, [], 0⟩, ⟨6, [], 0⟩, ⟨7, [], 0⟩, ⟨9, [], 0⟩, ⟨2, [], 1⟩, ⟨8, [], 1⟩, ⟨10, [], 1⟩, ⟨11, [], 1⟩, ⟨12, [], 5⟩] mixed (by kernel_rfl) (oks_nil _) ?_
   refine FlowS.mo ?_
   refine FlowS.fi fl36_0 ?_
   refine FlowS.mo ?_
   refine FlowS.f rfl (Rd.nilCheck rfl rfl) ?_
   refine FlowS.fi fl77_0 ?_
   refine FlowS.fi fl56_0 ?_
   refine FlowS.fi fl42_1 ?_
   refine FlowS.fi fl36_1 ?_
   refine FlowS.lo 0 c34 ?_
   refine FlowS.lo 1 c37 ?_
   refine FlowS.lo 0 c3 ?_
   refine FlowS.r rfl (Rd.indexRowsI (i := 3) (j := ka) rfl rfl rfl hka s37 rfl ht) ?_
   refine FlowS.call [1, 1, 1, 1, 1, 1, 1, 1] rfl rfl rfl rfl (Ent.fn rfl rfl ca69) rfl (table_fn b s d x ka t ht hka (by omega) hf ho hc) ?_
   rintro _ _ ⟨rfl, d', rfl, hv, hcap⟩
   refine ⟨oks_nil _, ?_⟩
   refine FlowS.fin ?_
   refine To.blockN ?_
   refine To.del11 ?_
   refine To.del10 ?_
   refine To.del9 ?_
   refine To.del8 ?_
   refine To.end0 (.inr rfl) Tryz.results34 ?_
   exact ⟨rfl, d', rfl, by rw [hv]; exact (stepV_table (by omega)).symm, hcap⟩
  refine To.seq (To.reg ?_)
  refine To.r (Rd.eql rfl rfl rfl) ?_
  refine To.a (To.nil (To.thenN ?_))
  refine To.condP rfl (fun k169_4 => ?_) (fun k169_4 => ?_)
  ·
   refine To.skip (To.thenN ?_)
   refine To.condT (congrArg (fun b => some (Value.bool b)) (decide_eq_true k169_4)) ?_
   obtain ⟨ka, hka⟩ : ∃ ka : Nat, x.a = ((ka : Nat) : Int) := ⟨x.a.toNat, by have := htb (by omega); omega⟩
   have hkl : ka < d.tabs.length := by have := htb (by omega); omega
   obtain ⟨t, ht⟩ : ∃ z0, d.tabs[ka]? = some z0 := ⟨d.tabs[ka]'(by omega), List.getElem?_eq_getElem _⟩
   refine To.flow [] [⟨0, [], 0⟩, ⟨1, [], 0⟩, ⟨3, [], 0⟩, ⟨4, [], 0⟩, ⟨5, [], 0⟩, ⟨6, [], 0⟩, ⟨7, [], 0⟩, ⟨9, [], 0⟩, ⟨2, [], 1⟩, ⟨8, [], 1⟩, ⟨10, [], 1⟩, ⟨11, [], 1⟩, ⟨12, [], 5⟩] mixed (by kernel_rfl) (oks_nil _) ?_
   refine FlowS.mo ?_
   refine FlowS.fi fl36_0 ?_
   refine FlowS.mo ?_
   refine FlowS.f rfl (Rd.nilCheck rfl rfl) ?_
   refine FlowS.fi fl77_0 ?_
   refine FlowS.fi fl56_0 ?_
   refine FlowS.fi fl42_1 ?_
   refine FlowS.fi fl36_1 ?_
   refine FlowS.lo 0 c34 ?_
   refine FlowS.lo 1 c37 ?_
   refine FlowS.lo 0 c3 ?_
   refine FlowS.r rfl (Rd.indexRowsI (i := 3) (j := ka) rfl rfl rfl hka s37 rfl ht) ?_
   refine FlowS.call [1, 1, 1, 1, 1, 1, 1, 1] rfl rfl rfl rfl (Ent.fn rfl rfl ca69) rfl (table_fn b s d x ka t ht hka (by omega) hf ho hc) ?_
   rintro _ _ ⟨rfl, d', rfl, hv, hcap⟩
   refine ⟨oks_nil _, ?_⟩
   refine FlowS.fin ?_
   refine To.blockN ?_
   refine To.del11 ?_
   refine To.del10 ?_
   refine To.del9 ?_
   refine To.del8 ?_
   refine To.end0 (.inr rfl) Tryz.results34 ?_
   exact ⟨rfl, d', rfl, by rw [hv]; exact (stepV_table (by omega)).symm, hcap⟩
  refine To.reg ?_
  refine To.r (Rd.eql rfl rfl rfl) ?_
  refine To.a (To.nil (To.thenN ?_))
  refine To.condP rfl (fun k169_5 => ?_) (fun k169_5 => ?_)
  ·
   obtain ⟨ka, hka⟩ : ∃ ka : Nat, x.a = ((ka : Nat) : Int) := ⟨x.a.toNat, by have := htb (by omega); omega⟩
   have hkl : ka < d.tabs.length := by have := htb (by omega); omega
   obtain ⟨t, ht⟩ : ∃ z0, d.tabs[ka]? = some z0 := ⟨d.tabs[ka]'(by omega), List.getElem?_eq_getElem _⟩
   refine To.flow [] [⟨0, [], 0⟩, ⟨1, [], 0⟩, ⟨3, [], 0⟩, ⟨4, [], 0⟩, ⟨5, [], 0⟩, ⟨6, [], 0⟩, ⟨7, [], 0⟩, ⟨9, [], 0⟩, ⟨2, [], 1⟩, ⟨8, [], 1⟩, ⟨10, [], 1⟩, ⟨11, [], 1⟩, ⟨12, [], 5⟩] mixed (by kernel_rfl) (oks_nil _) ?_
   refine FlowS.mo ?_
   refine FlowS.fi fl36_0 ?_
   refine FlowS.mo ?_
   refine FlowS.f rfl (Rd.nilCheck rfl rfl) ?_
   refine FlowS.fi fl77_0 ?_
   refine FlowS.fi fl56_0 ?_
   refine FlowS.fi fl42_1 ?_
   refine FlowS.fi fl36_1 ?_
   refine FlowS.lo 0 c34 ?_
   refine FlowS.lo 1 c37 ?_
   refine FlowS.lo 0 c3 ?_
   refine FlowS.r rfl (Rd.indexRowsI (i := 3) (j := ka) rfl rfl rfl hka s37 rfl ht) ?_
   refine FlowS.call [1, 1, 1, 1, 1, 1, 1, 1] rfl rfl rfl rfl (Ent.fn rfl rfl ca69) rfl (table_fn b s d x ka t ht hka (by omega) hf ho hc) ?_
   rintro _ _ ⟨rfl, d', rfl, hv, hcap⟩
   refine ⟨oks_nil _, ?_⟩
   refine FlowS.fin ?_
   refine To.blockN ?_
   refine To.del11 ?_
   refine To.del10 ?_
   refine To.del9 ?_
   refine To.del8 ?_
   refine To.end0 (.inr rfl) Tryz.results34 ?_
   exact ⟨rfl, d', rfl, by rw [hv]; exact (stepV_table (by omega)).symm, hcap⟩
  exfalso; omega
theorem step_fn (b : Nat) (s : Sm) (d : Dm) (x : Ins) (hf : Fit s x d.val) (ho : Okv s d.val) (hc : capsD d) :
    Does Tryz.prog 34 [.pointer (some ⟨b, 0, none⟩), .agg x.cells.toArray] [box b [.slice d.Av d.vars.length d.qv, .slice d.At d.tabs.length d.qt, .slice d.dk.A d.dk.l.length d.dk.q, .slice d.Ae d.effs.length d.qe, .int .i64 d.cost, .slice s.Ac s.code.length s.qc, .slice s.Aa s.args.length s.qa, .int .i64 s.now, .slice s.Ag s.flags.length s.qg, .int .i64 s.dsk, .slice s.Af s.fail.length s.qf, .slice d.As d.stack.length d.qs, .int .i64 d.next, .int .i64 d.sends, .int .i64 d.disks, .bool d.fault] 77, rows encI 2 1 d.Av d.qv d.vars, rows Tb.cells 40 1 d.At d.qt d.tabs, rosS encEn (d.tabs.map Tb.ar), ros encEn d.dk.A d.dk.l, rows Ef.cells 84 8 d.Ae d.qe d.effs, rosS encI (d.effs.map Ef.ar), rows encI 2 1 d.As d.qs d.stack, ros encI s.Aa s.args, ros encB s.Ag s.flags, ros encI s.Af s.fail] (fun v Γ' => v = .tuple #[] ∧ ∃ d' : Dm, Γ' = [box b [.slice d'.Av d'.vars.length d'.qv, .slice d'.At d'.tabs.length d'.qt, .slice d'.dk.A d'.dk.l.length d'.dk.q, .slice d'.Ae d'.effs.length d'.qe, .int .i64 d'.cost, .slice s.Ac s.code.length s.qc, .slice s.Aa s.args.length s.qa, .int .i64 s.now, .slice s.Ag s.flags.length s.qg, .int .i64 s.dsk, .slice s.Af s.fail.length s.qf, .slice d'.As d'.stack.length d'.qs, .int .i64 d'.next, .int .i64 d'.sends, .int .i64 d'.disks, .bool d'.fault] 77, rows encI 2 1 d'.Av d'.qv d'.vars, rows Tb.cells 40 1 d'.At d'.qt d'.tabs, rosS encEn (d'.tabs.map Tb.ar), ros encEn d'.dk.A d'.dk.l, rows Ef.cells 84 8 d'.Ae d'.qe d'.effs, rosS encI (d'.effs.map Ef.ar), rows encI 2 1 d'.As d'.qs d'.stack] ∧ d'.val = stepV s x d.val ∧ capsD d') := by
  by_cases hop : ((x.op : Nat) : Int) = 6 ∨ ((x.op : Nat) : Int) = 7 ∨ ((x.op : Nat) : Int) = 8 ∨ ((x.op : Nat) : Int) = 25 ∨ ((x.op : Nat) : Int) = 26 ∨ ((x.op : Nat) : Int) = 30 ∨ ((x.op : Nat) : Int) = 31 ∨ ((x.op : Nat) : Int) = 32 ∨ ((x.op : Nat) : Int) = 33
  · exact step1_fn b s d x hop hf ho hc
  · refine Does.turned (Does.framed (is := [0, 0, 5, 5, 5]) (Δ := [rows Tb.cells 40 1 d.At d.qt d.tabs, rosS encEn (d.tabs.map Tb.ar), ros encEn d.dk.A d.dk.l, rows Ef.cells 84 8 d.Ae d.qe d.effs, rosS encI (d.effs.map Ef.ar), ros encI s.Af s.fail]) (step0_fn b s d x hf (by omega)) rfl) fun v Γ' h => ?_
    obtain ⟨_, ⟨rfl, d', rfl, ⟨k1, k2, k3, k4, k5, k6, k7⟩, hv⟩, rfl⟩ := h
    refine ⟨[box b [.slice d'.Av d'.vars.length d'.qv, .slice d'.At d'.tabs.length d'.qt, .slice d'.dk.A d'.dk.l.length d'.dk.q, .slice d'.Ae d'.effs.length d'.qe, .int .i64 d'.cost, .slice s.Ac s.code.length s.qc, .slice s.Aa s.args.length s.qa, .int .i64 s.now, .slice s.Ag s.flags.length s.qg, .int .i64 s.dsk, .slice s.Af s.fail.length s.qf, .slice d'.As d'.stack.length d'.qs, .int .i64 d'.next, .int .i64 d'.sends, .int .i64 d'.disks, .bool d'.fault] 77, rows encI 2 1 d'.Av d'.qv d'.vars, rows Tb.cells 40 1 d'.At d'.qt d'.tabs, rosS encEn (d'.tabs.map Tb.ar), ros encEn d'.dk.A d'.dk.l, rows Ef.cells 84 8 d'.Ae d'.qe d'.effs, rosS encI (d'.effs.map Ef.ar), rows encI 2 1 d'.As d'.qs d'.stack], [ros encI s.Af s.fail], ⟨rfl, d', rfl, hv, by unfold capsD; rw [k3, k4]; exact hc⟩, ?_⟩
    rw [← k1, ← k2, ← k3, ← k4, ← k5, ← k6, ← k7]
    exact List.Perm.cons _ (List.Perm.cons _ (List.perm_middle (l₁ := [_, _, _, _, _]) (l₂ := [_])).symm)
end Go.Proofs.YtoehnbacbobhiaaGreatDoor
