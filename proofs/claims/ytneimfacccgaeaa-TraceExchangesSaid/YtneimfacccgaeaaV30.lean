/- The walk of TraceExchanges. Own text (walks printed by sx.py). -/
import Derived.Test.YtneimfacccgaeaaV29
namespace Go.Proofs.Ytneimfacccgaeaa
open Go.RowKit Go.Flow Go.Mem Go.Sep
def encB (n : Nat) : List Value := [.int .u8 n]
theorem encB_ok : Enc encB 1 := ⟨fun _ => rfl, fun x u hu => by simp [encB] at hu; subst hu; rfl⟩
theorem same_val {x y : Ev} (h : x.same y = false) : ¬ x.val = y.val := of_decide_eq_false h
set_option maxHeartbeats 2000000 in
set_option maxRecDepth 100000 in
theorem exchanges_fn (AX : Option Addr) (cX : Nat) (X : List Ev) (hcX : X.length ≤ cX) (hokX : ∀ e ∈ X, e.ok) (Ap : Option Addr) (cp : Nat) (P : List Nat) (hP : ∀ y ∈ P, y < 256) (hPl : P.length ≤ 9223372036854775807) :
    Does Try.prog 8 [.slice AX X.length cX, .slice Ap P.length cp] [ros Ev.cells AX X, argsS (X.map Ev.ar), ros encB Ap P] (fun v _ => v = .bool true) := by
  refine Does.enter Try.func8 rfl Try.ntmps8 rfl (fun w0 => ?_)
  refine To.seq ?_
  refine To.reg ?_
  refine To.rd rfl rfl rfl (Rd.assign rfl rfl) ?_
  refine To.nil ?_
  refine To.thenN ?_
  refine To.seq ?_
  refine To.seq ?_
  refine To.reg ?_
  refine To.callV rfl rfl rfl (Ent.fn rfl rfl ca11) (awake_fn) rfl (oks_nil _) ?_
  refine To.rd rfl rfl rfl (Rd.not rfl rfl) ?_
  refine To.nil ?_
  refine To.thenN ?_
  refine To.condF rfl ?_
  refine To.skip ?_
  refine To.thenN ?_
  refine To.seq ?_
  refine To.reg ?_
  refine To.rd rfl rfl rfl (Rd.move rfl rfl) ?_
  refine To.callQ rfl rfl rfl (Ent.fn rfl rfl ca12) (few_fn AX cX X 14 (by decide) hcX (fun e he => (hokX e he).cap)) rfl (oks_cons (oks_at 0 rfl) (oks_nil _)) ?_
  rintro _ _ ⟨Aa, qa, rfl, rfl⟩
  refine ⟨rfl, ?_⟩
  refine To.as [rows Ev.cells 37 9 Aa qa ((X.take 14).map Ev.cut), ros Ev.cells AX X, argsS (X.map Ev.ar), ros encB Ap P] rfl ?_
  refine To.rd rfl rfl rfl (Rd.assign rfl rfl) ?_
  refine To.nil ?_
  refine To.thenN ?_
  refine To.seq ?_
  refine To.seq ?_
  refine To.know (p := ((X.take 14).map Ev.cut).length ≤ qa) (fun w hw => own_caps 0 rfl hw) (fun hqa => ?_)
  refine To.only [0, 0, 0, 0] rfl ?_
  refine To.layRow ?_
  refine To.derive (argsS (((X.take 14).map Ev.cut).map Ev.ar)) rfl (argsS_cut 2 rfl).1 (argsS_cut 2 rfl).2 ?_
  have hal : ((X.take 14).map Ev.cut).length ≤ 14 := cut_len
  have haa : ∀ e ∈ ((X.take 14).map Ev.cut), e.args.length ≤ 1000000000000 := cut_args
  have hak : ∀ e ∈ ((X.take 14).map Ev.cut), 0 ≤ e.k ∧ e.k < 256 := cut_k hokX
  obtain ⟨a, ha⟩ : ∃ a, a = ((X.take 14).map Ev.cut) := ⟨_, rfl⟩
  rw [← ha] at hal haa hak hqa
  rw [← ha]
  refine To.reg ?_
  refine To.rd rfl rfl rfl (Rd.move rfl rfl) ?_
  refine To.rd rfl rfl rfl (Rd.len rfl rfl Try.underlying22) ?_
  refine To.rd rfl rfl rfl (Rd.lss rfl rfl rfl) ?_
  refine To.nil ?_
  refine To.thenN ?_
  refine To.condP rfl (fun c18 => ?_) (fun c18 => ?_)
  ·
    refine To.seq ?_
    refine To.reg ?_
    refine To.rd rfl rfl rfl (Rd.move rfl rfl) ?_
    refine To.rd rfl rfl rfl (Rd.move rfl rfl) ?_
    refine To.callV rfl rfl rfl (Ent.fn rfl rfl ca24) (equiv_fn1 Aa qa a (Nat.le_trans hal (by decide)) haa) rfl (oks_cons (oks_at 1 rfl) (oks_cons (oks_at 1 rfl) (oks_cons (oks_at 0 rfl) (oks_cons (oks_at 0 rfl) (oks_nil _))))) ?_
    refine To.rd rfl rfl rfl (Rd.assign rfl rfl) ?_
    refine To.nil ?_
    refine To.thenN ?_
    refine To.ret ?_
    refine To.thenR ?_
    refine To.end1 (.inl rfl) Try.results8 rfl ?_
    rfl
  ·
    refine To.skip ?_
    refine To.thenN ?_
    refine To.seq ?_
    have ha2 : 2 ≤ a.length := by omega
    refine To.know (p := Aa.isNone = false) (fun w hw => ros_some encE (by decide) (l := a) (by omega) 1 rfl hw) (fun hAa => ?_)
    refine To.reg ?_
    refine To.rd rfl rfl rfl (Rd.move rfl rfl) ?_
    refine To.callQ rfl rfl rfl (Ent.fn rfl rfl ca30) (cloneS_fn Aa qa a hAa (Nat.le_trans hal (by decide))) rfl (oks_cons (oks_at 1 rfl) (oks_nil _)) ?_
    rintro _ _ ⟨Am, qm, rfl, rfl⟩
    refine ⟨rfl, ?_⟩
    refine To.as [rows Ev.cells 37 9 Am qm a, argsS (a.map Ev.ar), ros Ev.cells Aa a, ros Ev.cells AX X, argsS (X.map Ev.ar), ros encB Ap P] rfl ?_
    refine To.rd rfl rfl rfl (Rd.assign rfl rfl) ?_
    refine To.nil ?_
    refine To.thenN ?_
    refine To.seq ?_
    refine To.seq ?_
    refine To.reg ?_
    refine To.rd rfl rfl rfl (Rd.move rfl rfl) ?_
    refine To.rd rfl rfl rfl (Rd.len rfl rfl Try.underlying44) ?_
    refine To.rd rfl rfl rfl (Rd.move rfl rfl) ?_
    refine To.nil ?_
    refine To.thenN ?_
    refine To.block ?_
    refine To.sub [(0, .slice Aa a.length qa), (5, .slice Am a.length qm), (24, .slice Ap P.length cp), (25, .int .i64 ((P.length : Nat) : Int)), (26, .int .i64 ((0 : Nat) : Int))] ⟨rfl, rfl, rfl, rfl, rfl, trivial⟩ ?_
    refine To.only [0, 1, 0, 2] rfl ?_
    refine To.loop (fun mz ρ Γ => ∃ (i : Nat) (m : List Ev), ρ = [(0, .slice Aa a.length qa), (5, .slice Am m.length qm), (24, .slice Ap P.length cp), (25, .int .i64 ((P.length : Nat) : Int)), (26, .int .i64 ((i : Nat) : Int))] ∧ Γ = [rows Ev.cells 37 9 Am qm m, ros Ev.cells Aa a, argsS (a.map Ev.ar), ros encB Ap P] ∧ mz = P.length - i ∧ (i ≤ P.length) ∧ (normV m = normV a) ∧ (∀ c, m.filter (fun e => decide (e.c = c)) = a.filter (fun e => decide (e.c = c))) ∧ (∀ e ∈ m, e ∈ a) ∧ (m.length = a.length)) (P.length - 0) ⟨0, a, rfl, rfl, rfl, (Nat.zero_le _), rfl, (fun _ => rfl), (fun _ h => h), rfl⟩ ?_
    rintro mz _ _ ⟨i, m, rfl, rfl, rfl, hi, hn, hf, hmem, hmlen⟩
    have hml : m.length ≤ 14 := by omega
    have hma : ∀ e ∈ m, e.args.length ≤ 1000000000000 := fun e he => haa e (hmem e he)
    refine To.seq ?_
    refine To.reg ?_
    refine To.rd rfl rfl rfl (Rd.lss rfl rfl rfl) ?_
    refine To.nil ?_
    refine To.thenN ?_
    refine To.seq ?_
    refine To.condP rfl (fun c27 => ?_) (fun c27 => ?_)
    ·
      obtain ⟨y, hy⟩ : ∃ z0, P[i]? = some z0 := ⟨P[i]'(by omega), List.getElem?_eq_getElem _⟩
      have hm2 : m.length - 1 < 1000 := by omega
      have hy256 : y < 256 := hP y (List.mem_of_getElem? hy)
      refine To.skip ?_
      refine To.thenN ?_
      refine To.seq ?_
      refine To.block ?_
      refine To.seq ?_
      refine To.reg ?_
      refine To.rd rfl rfl rfl (Rd.move rfl rfl) ?_
      refine To.rd rfl rfl rfl (Rd.indexRos encB_ok (i := 3) (j := i) rfl rfl rfl s44 rfl hy) ?_
      refine To.rd rfl rfl rfl (Rd.load (i := 3) rfl rfl c5 rfl (gives_1 (ros_gives encB_ok hy) rfl)) ?_
      refine To.rd rfl rfl rfl (Rd.assign rfl rfl) ?_
      refine To.rd rfl rfl rfl (Rd.assign rfl rfl) ?_
      refine To.nil ?_
      refine To.thenN ?_
      refine To.seq ?_
      refine To.seq ?_
      refine To.reg ?_
      refine To.rd rfl rfl rfl (Rd.move rfl rfl) ?_
      refine To.rd rfl rfl rfl (Rd.eql rfl rfl rfl) ?_
      refine To.nil ?_
      refine To.thenN ?_
      refine To.condP rfl (fun c32 => ?_) (fun c32 => ?_)
      ·
        refine To.exit ?_
        refine To.thenX ?_
        refine To.blockY rfl ?_
        refine To.thenX ?_
        refine To.thenX ?_
        refine To.blockX ?_
        refine To.thenN ?_
        refine To.seq ?_
        refine To.seq ?_
        refine To.reg ?_
        refine To.rd rfl rfl rfl (Rd.move rfl rfl) ?_
        refine To.rd rfl rfl rfl (Rd.len rfl rfl Try.underlying22) ?_
        refine To.rd rfl rfl rfl (Rd.move rfl rfl) ?_
        refine To.nil ?_
        refine To.thenN ?_
        refine To.block ?_
        refine To.only [0, 0, 0, 0] rfl ?_
        refine To.layRow ?_
        refine To.derive (argsS (m.map Ev.ar)) rfl (argsS_sub 2 rfl (fun p hp => by obtain ⟨e, he, rfl⟩ := List.mem_map.1 hp; exact List.mem_map.2 ⟨e, hmem e he, rfl⟩)).1 (argsS_sub 2 rfl (fun p hp => by obtain ⟨e, he, rfl⟩ := List.mem_map.1 hp; exact List.mem_map.2 ⟨e, hmem e he, rfl⟩)).2 ?_
        have hi9 : True := trivial
        refine To.sub [(0, .slice Aa a.length qa), (5, .slice Am m.length qm), (103, .slice Aa a.length qa), (104, .int .i64 ((a.length : Nat) : Int)), (105, .int .i64 ((0 : Nat) : Int))] ⟨rfl, rfl, rfl, rfl, rfl, trivial⟩ ?_
        refine To.only [1, 0, 0, 0] rfl ?_
        refine To.loop (fun mz ρ Γ => ∃ (j : Nat), ρ = [(0, .slice Aa a.length qa), (5, .slice Am m.length qm), (103, .slice Aa a.length qa), (104, .int .i64 ((a.length : Nat) : Int)), (105, .int .i64 ((j : Nat) : Int))] ∧ Γ = [ros Ev.cells Am m, argsS (m.map Ev.ar), ros Ev.cells Aa a, argsS (a.map Ev.ar)] ∧ mz = a.length - j ∧ (j ≤ a.length)) (a.length - 0) ⟨0, rfl, rfl, rfl, (Nat.zero_le _)⟩ ?_
        rintro mz _ _ ⟨j, rfl, rfl, rfl, hj⟩
        refine To.seq ?_
        refine To.reg ?_
        refine To.rd rfl rfl rfl (Rd.lss rfl rfl rfl) ?_
        refine To.nil ?_
        refine To.thenN ?_
        refine To.seq ?_
        refine To.condP rfl (fun c106 => ?_) (fun c106 => ?_)
        ·
          obtain ⟨e, he⟩ : ∃ z0, a[j]? = some z0 := ⟨a[j]'(by omega), List.getElem?_eq_getElem _⟩
          refine To.skip ?_
          refine To.thenN ?_
          refine To.seq ?_
          refine To.block ?_
          refine To.seq ?_
          refine To.reg ?_
          refine To.rd rfl rfl rfl (Rd.indexRos encE (i := 2) (j := j) rfl rfl rfl s22 rfl he) ?_
          refine To.rd rfl rfl rfl (Rd.loadS (i := 2) rfl rfl r37 rfl (ros_gives encE he) (encE.len _)) ?_
          refine To.alloc rfl rfl rfl rfl z37 (fun b11 => ?_)
          refine To.up rfl rfl (Up.storeS (i := 0) rfl rfl rfl r37 rfl rfl rfl (box_takesAll rfl)) ?_
          refine To.nil ?_
          refine To.thenN ?_
          refine To.seq ?_
          refine To.dup 1 rfl rfl ?_
          refine To.dup 3 rfl rfl ?_
          refine To.dup 5 rfl rfl ?_
          refine To.dup 7 rfl rfl ?_
          refine To.flow [box b11 [.int .i64 e.t, .int .i64 e.c, .int .u8 e.k, .int .i64 e.p, .int .i64 e.n, .int .i64 e.cp, .int .i64 e.h, .int .i64 e.d, .slice e.A e.args.length e.cap] 37] [⟨0, [], 0⟩, ⟨1, [], 0⟩, ⟨2, [], 0⟩, ⟨4, [], 0⟩, ⟨5, [], 0⟩, ⟨6, [], 0⟩, ⟨3, [], 5⟩, ⟨7, [], 5⟩, ⟨8, [], 3⟩, ⟨9, [], 0⟩] mixed (by kernel_rfl) (oks_cons (oks_at 4 rfl) (oks_nil _)) ?_
          refine FlowS.free rfl rfl rfl rfl (Rd.move rfl rfl) ?_
          refine FlowS.free rfl rfl rfl rfl (Rd.field rfl rfl fl37_1) ?_
          refine FlowS.free rfl rfl rfl rfl (Rd.load (i := 0) rfl rfl c3 rfl (box_gives1 rfl)) ?_
          refine FlowS.free rfl rfl rfl rfl (Rd.move rfl rfl) ?_
          refine FlowS.free rfl rfl rfl rfl (Rd.field rfl rfl fl37_1) ?_
          refine FlowS.free rfl rfl rfl rfl (Rd.load (i := 0) rfl rfl c3 rfl (box_gives1 rfl)) ?_
          refine FlowS.call [1, 0] rfl rfl rfl rfl (Ent.fn rfl rfl ca26) rfl (project_fn Aa qa a e.c (Nat.le_trans hal (by decide)) haa) ?_
          rintro _ _ ⟨AOa, qOa, Oa, rfl, rfl, hOa⟩
          refine ⟨oks_cons (oks_at 4 rfl) (oks_nil _), ?_⟩
          have hlOa : Oa.length ≤ 1000000 := by
            have h := congrArg List.length hOa
            rw [List.length_map, List.length_map] at h
            rw [h]; exact Nat.le_trans (List.length_filter_le _ _) (Nat.le_trans hal (by decide))
          have haOa : ∀ e ∈ Oa, e.args.length ≤ 1000000000000 := proj_args hOa haa
          refine FlowS.call [3, 2] rfl rfl rfl rfl (Ent.fn rfl rfl ca26) rfl (project_fn Am qm m e.c (Nat.le_trans hml (by decide)) hma) ?_
          rintro _ _ ⟨AOm, qOm, Om, rfl, rfl, hOm⟩
          refine ⟨oks_cons (oks_at 4 rfl) (oks_nil _), ?_⟩
          have hlOm : Om.length ≤ 1000000 := by
            have h := congrArg List.length hOm
            rw [List.length_map, List.length_map] at h
            rw [h]; exact Nat.le_trans (List.length_filter_le _ _) (Nat.le_trans hml (by decide))
          have haOm : ∀ e ∈ Om, e.args.length ≤ 1000000000000 := proj_args hOm hma
          refine FlowS.callQ rfl rfl rfl rfl (Ent.fn rfl rfl ca25) (sames_fn AOa AOm qOa qOm Oa Om haOa (Nat.le_trans hlOa (by decide))) rfl (oks_cons (oks_row 2 rfl) (oks_cons (oks_row 0 rfl) (oks_cons (oks_at 3 rfl) (oks_cons (oks_at 1 rfl) (oks_nil _))))) ?_
          refine FlowS.free rfl rfl rfl rfl (Rd.not rfl rfl) ?_
          refine FlowS.fin ?_
          refine To.as [rows Ev.cells 37 9 AOm qOm Om, argsS (Om.map Ev.ar), rows Ev.cells 37 9 AOa qOa Oa, argsS (Oa.map Ev.ar), box b11 [.int .i64 e.t, .int .i64 e.c, .int .u8 e.k, .int .i64 e.p, .int .i64 e.n, .int .i64 e.cp, .int .i64 e.h, .int .i64 e.d, .slice e.A e.args.length e.cap] 37, ros Ev.cells Am m, argsS (m.map Ev.ar), ros Ev.cells Aa a, argsS (a.map Ev.ar)] rfl ?_
          refine To.thenN ?_
          refine To.cond rfl (fun c118 => ?_) (fun c118 => ?_)
          ·
            exact absurd (hOa.trans ((congrArg (List.map Ev.val) (hf e.c)).symm.trans hOm.symm)) (by simpa using c118)
          ·
            refine To.skip ?_
            refine To.blockN ?_
            refine To.thenN ?_
            refine To.reg ?_
            refine To.rd rfl rfl rfl (Rd.inc rfl rfl rfl (by omega)) ?_
            refine To.rd rfl rfl rfl (Rd.move rfl rfl) ?_
            refine To.nil ?_
            refine To.thenN ?_
            refine To.sub [(0, .slice Aa a.length qa), (5, .slice Am m.length qm), (103, .slice Aa a.length qa), (104, .int .i64 ((a.length : Nat) : Int)), (105, .int .i64 (((j + 1) : Nat) : Int))] ⟨rfl, rfl, rfl, rfl, rfl, trivial⟩ ?_
            refine To.only [5, 5, 5, 5] rfl ?_
            refine To.again (a.length - (j + 1)) (by omega) ⟨j + 1, rfl, rfl, rfl, (by omega)⟩
        ·
          refine To.exit ?_
          refine To.thenX ?_
          refine To.thenX ?_
          refine To.blockX ?_
          refine To.thenN ?_
          refine To.seq ?_
          refine To.reg ?_
          refine To.rd rfl rfl rfl (Rd.move rfl rfl) ?_
          refine To.rd rfl rfl rfl (Rd.move rfl rfl) ?_
          refine To.callV rfl rfl rfl (Ent.fn rfl rfl ca24) (equiv_fn Aa Am qa qm a m (Nat.le_trans hal (by decide)) haa (Nat.le_trans hml (by decide)) hma) rfl (oks_cons (oks_at 2 rfl) (oks_cons (oks_at 0 rfl) (oks_cons (oks_at 3 rfl) (oks_cons ((argsS_sub 3 rfl (fun p hp => by obtain ⟨e, he, rfl⟩ := List.mem_map.1 hp; exact List.mem_map.2 ⟨e, hmem e he, rfl⟩)).2) (oks_nil _))))) ?_
          refine To.rdP rfl rfl rfl (Rd.move rfl rfl) (fun g123 => ?_) (fun g123 => ?_)
          ·
            refine To.rd rfl rfl rfl (Rd.move rfl rfl) ?_
            refine To.rd rfl rfl rfl (Rd.move rfl rfl) ?_
            refine To.callV rfl rfl rfl (Ent.fn rfl rfl ca24) (equiv_fnS Am Aa qm qa m a (Nat.le_trans hml (by decide)) hma (Nat.le_trans hal (by decide)) haa) rfl (oks_cons (oks_at 0 rfl) (oks_cons (oks_at 2 rfl) (oks_cons ((argsS_sub 3 rfl (fun p hp => by obtain ⟨e, he, rfl⟩ := List.mem_map.1 hp; exact List.mem_map.2 ⟨e, hmem e he, rfl⟩)).2) (oks_cons (oks_at 3 rfl) (oks_nil _))))) ?_
            refine To.rd rfl rfl rfl (Rd.pickT rfl rfl rfl) ?_
            refine To.rdP rfl rfl rfl (Rd.move rfl rfl) (fun g128 => ?_) (fun g128 => ?_)
            ·
              refine To.rd rfl rfl rfl (Rd.move rfl rfl) ?_
              refine To.dup 2 rfl rfl ?_
              refine To.dup 4 rfl rfl ?_
              refine To.call [1, 0] rfl rfl rfl (Ent.fn rfl rfl ca14) rfl (normal_fn Aa qa a (Nat.le_trans hal (by decide)) haa) ?_
              rintro _ _ ⟨AU, qU, U, MU, rfl, rfl, hU, hMU, hAU⟩
              refine To.as [rows St.cells 22 1 AU qU U, all (U.map St.ch), argsS MU, ros Ev.cells Am m, argsS (m.map Ev.ar), ros Ev.cells Aa a, argsS (a.map Ev.ar)] rfl ?_
              refine To.rd rfl rfl rfl (Rd.move rfl rfl) ?_
              refine To.dup 3 rfl rfl ?_
              refine To.dup 5 rfl rfl ?_
              refine To.call [1, 0] rfl rfl rfl (Ent.fn rfl rfl ca14) rfl (normal_fn Am qm m (Nat.le_trans hml (by decide)) hma) ?_
              rintro _ _ ⟨AV, qV, V, MV, rfl, rfl, hV, hMV, hAV⟩
              refine To.as [rows St.cells 22 1 AV qV V, all (V.map St.ch), argsS MV, rows St.cells 22 1 AU qU U, all (U.map St.ch), argsS MU, ros Ev.cells Am m, argsS (m.map Ev.ar), ros Ev.cells Aa a, argsS (a.map Ev.ar)] rfl ?_
              refine To.callV rfl rfl rfl (Ent.fn rfl rfl ca13) ((rsame_fn AU AV qU qV U V MU MV hMU hMV hAU (fun s hs => Nat.le_trans (len_of_vals hU s hs) (Nat.le_trans hal (by decide))) (Nat.le_trans (steps_of_vals hU) (Nat.le_trans hal (by decide)))).mono (R' := fun v _ => v = .bool (decide (normV a = normV m))) (fun v _ h => by rw [h, hU, hV])) rfl (oks_cons (oks_row 3 rfl) (oks_cons (oks_row 0 rfl) (oks_cons (oks_steps 4 rfl) (oks_cons (oks_steps 1 rfl) (oks_cons (oks_at 5 rfl) (oks_cons (oks_at 2 rfl) (oks_nil _))))))) ?_
              refine To.rd rfl rfl rfl (Rd.pickT rfl rfl rfl) ?_
              refine To.rd rfl rfl rfl (Rd.assign rfl rfl) ?_
              refine To.nil ?_
              refine To.sub [(0, .slice Aa a.length qa), (5, .slice Am m.length qm), (103, .slice Aa a.length qa), (104, .int .i64 ((a.length : Nat) : Int)), (105, .int .i64 ((j : Nat) : Int)), (106, .bool (decide (((j : Nat) : Int) < ((a.length : Nat) : Int)))), (4, .bool (decide (normV a = normV m)))] ⟨rfl, rfl, rfl, rfl, rfl, rfl, rfl, trivial⟩ ?_
              refine To.thenN ?_
              refine To.ret ?_
              refine To.end1 (.inl rfl) Try.results8 rfl ?_
              rw [decide_eq_true hn.symm]
            ·
              exact absurd hn.symm g128
          ·
            exact absurd hn.symm g123
      ·
        refine To.skip ?_
        refine To.thenN ?_
        refine To.seq ?_
        refine To.reg ?_
        refine To.rd rfl rfl rfl (Rd.move rfl rfl) ?_
        refine To.rd rfl rfl rfl (Rd.conv rfl rfl Try.underlying5 Try.underlying3 (IntWalk.i64_in _ (by omega))) ?_
        refine To.rd rfl rfl rfl (Rd.move rfl rfl) ?_
        refine To.rd rfl rfl rfl (Rd.len rfl rfl Try.underlying22) ?_
        refine To.rd rfl rfl rfl (Rd.as (v' := .int .i64 ((m.length - 1 : Nat) : Int)) (congrArg (Value.int .i64) (by omega)) (Rd.sub64 rfl rfl rfl (by omega))) ?_
        refine To.rd rfl rfl rfl (Rd.remN (a := y) (b := (m.length - 1)) rfl rfl rfl (by omega)) ?_
        refine To.rd rfl rfl rfl (Rd.assign rfl rfl) ?_
        refine To.nil ?_
        refine To.thenN ?_
        refine To.seq ?_
        obtain ⟨k, hk⟩ : ∃ k, k = y % (m.length - 1) := ⟨_, rfl⟩
        rw [← hk]
        have hkl : k + 1 < m.length := by have := Nat.mod_lt y (show 0 < m.length - 1 by omega); omega
        clear hk
        obtain ⟨u, hu⟩ : ∃ z0, m[k]? = some z0 := ⟨m[k]'(by omega), List.getElem?_eq_getElem _⟩
        obtain ⟨v, hv⟩ : ∃ z0, m[k + 1]? = some z0 := ⟨m[k + 1]'(by omega), List.getElem?_eq_getElem _⟩
        have hl2 : k + 1 < (m.set k v).length := by rw [List.length_set]; omega
        refine To.know (p := Am = some ⟨blk Am, ofs Am, none⟩) (fun w hw => rows_some encE (by decide) (l := m) (by omega) 0 rfl hw) (fun hAm => ?_)
        refine To.flow [rows Ev.cells 37 9 Am qm m, ros Ev.cells Aa a, argsS (a.map Ev.ar), ros encB Ap P] [⟨0, [], 0⟩, ⟨1, [], 0⟩, ⟨4, [], 0⟩, ⟨5, [], 0⟩, ⟨6, [], 0⟩, ⟨2, [], 1⟩, ⟨3, [], 1⟩, ⟨7, [], 1⟩, ⟨8, [], 1⟩, ⟨9, [], 3⟩] mixed (by kernel_rfl) (oks_cons (oks_at 0 rfl) (oks_cons (oks_at 1 rfl) (oks_cons (oks_at 2 rfl) (oks_cons (oks_at 3 rfl) (oks_nil _))))) ?_
        refine FlowS.free rfl rfl rfl rfl (Rd.move rfl rfl) ?_
        refine FlowS.free rfl rfl rfl rfl (Rd.move rfl rfl) ?_
        refine FlowS.free rfl rfl rfl rfl (Rd.move rfl rfl) ?_
        refine FlowS.free rfl rfl rfl rfl (Rd.move rfl rfl) ?_
        refine FlowS.free rfl rfl rfl rfl (Rd.inc rfl rfl rfl (by omega)) ?_
        refine FlowS.rd rfl rfl rfl rfl (Rd.indexRows (i := 0) (j := k) rfl rfl rfl s22 rfl hu) ?_
        refine FlowS.rd rfl rfl rfl rfl (Rd.loadS (i := 0) rfl rfl r37 rfl (rows_gives encE hu) (encE.len _)) ?_
        refine FlowS.rd rfl rfl rfl rfl (Rd.indexRows (i := 0) (j := (k + 1)) rfl rfl rfl s22 rfl hv) ?_
        refine FlowS.rd rfl rfl rfl rfl (Rd.loadS (i := 0) rfl rfl r37 rfl (rows_gives encE hv) (encE.len _)) ?_
        refine FlowS.callQ rfl rfl rfl rfl (Ent.fn rfl rfl ca22) (indep_fn2 u v) rfl (oks_nil _) ?_
        refine FlowS.fin ?_
        refine To.as [rows Ev.cells 37 9 Am qm m, ros Ev.cells Aa a, argsS (a.map Ev.ar), ros encB Ap P] rfl ?_
        refine To.thenN ?_
        refine To.cond rfl (fun c48 => ?_) (fun c48 => ?_)
        ·
          refine To.flow [] [⟨0, [], 0⟩, ⟨1, [], 0⟩, ⟨2, [], 0⟩, ⟨3, [], 0⟩, ⟨4, [], 0⟩, ⟨5, [], 0⟩, ⟨6, [], 0⟩, ⟨7, [], 0⟩, ⟨8, [], 0⟩, ⟨10, [], 0⟩, ⟨11, [], 0⟩, ⟨12, [], 0⟩, ⟨9, [], 1⟩, ⟨13, [], 1⟩, ⟨14, [], 0⟩, ⟨15, [], 5⟩, ⟨16, [], 0⟩, ⟨17, [], 5⟩] mixed (by kernel_rfl) (oks_nil _) ?_
          refine FlowS.free rfl rfl rfl rfl (Rd.move rfl rfl) ?_
          refine FlowS.free rfl rfl rfl rfl (Rd.move rfl rfl) ?_
          refine FlowS.free rfl rfl rfl rfl (Rd.move rfl rfl) ?_
          refine FlowS.free rfl rfl rfl rfl (Rd.move rfl rfl) ?_
          refine FlowS.free rfl rfl rfl rfl (Rd.inc rfl rfl rfl (by omega)) ?_
          refine FlowS.free rfl rfl rfl rfl (Rd.move rfl rfl) ?_
          refine FlowS.free rfl rfl rfl rfl (Rd.move rfl rfl) ?_
          refine FlowS.free rfl rfl rfl rfl (Rd.inc rfl rfl rfl (by omega)) ?_
          refine FlowS.free rfl rfl rfl rfl (Rd.indexS (j := (k + 1)) hAm rfl rfl rfl s22 (by omega)) ?_
          refine FlowS.free rfl rfl rfl rfl (Rd.move rfl rfl) ?_
          refine FlowS.free rfl rfl rfl rfl (Rd.move rfl rfl) ?_
          refine FlowS.free rfl rfl rfl rfl (Rd.indexS (j := k) hAm rfl rfl rfl s22 (by omega)) ?_
          refine FlowS.rd rfl rfl rfl rfl (Rd.loadS (i := 0) rfl rfl r37 rfl (rows_gives encE hv) (encE.len _)) ?_
          refine FlowS.rd rfl rfl rfl rfl (Rd.loadS (i := 0) rfl rfl r37 rfl (rows_gives encE hu) (encE.len _)) ?_
          refine FlowS.free rfl rfl rfl rfl (Rd.indexS (j := k) hAm rfl rfl rfl s22 (by omega)) ?_
          refine FlowS.up (Γ' := [rows Ev.cells 37 9 Am qm (m.set k v), ros Ev.cells Aa a, argsS (a.map Ev.ar), ros encB Ap P]) rfl rfl rfl (Up.storeS (i := 0) (us := Ev.cells v) rfl rfl rfl r37 (encE.len _) rfl rfl (rows_takes encE (by decide) (by omega))) (oks_nil _) ?_
          refine FlowS.free rfl rfl rfl rfl (Rd.indexS (j := (k + 1)) hAm rfl rfl rfl s22 (by omega)) ?_
          refine FlowS.up (Γ' := [rows Ev.cells 37 9 Am qm ((m.set k v).set (k + 1) u), ros Ev.cells Aa a, argsS (a.map Ev.ar), ros encB Ap P]) rfl rfl rfl (Up.storeS (i := 0) (us := Ev.cells u) rfl rfl rfl r37 (encE.len _) rfl rfl (rows_takes encE (by decide) (by omega))) (oks_nil _) ?_
          refine FlowS.fin ?_
          refine To.as [rows Ev.cells 37 9 Am qm ((m.set k v).set (k + 1) u), ros Ev.cells Aa a, argsS (a.map Ev.ar), ros encB Ap P] rfl ?_
          refine To.sub [(0, .slice Aa a.length qa), (5, .slice Am m.length qm), (24, .slice Ap P.length cp), (25, .int .i64 ((P.length : Nat) : Int)), (26, .int .i64 ((i : Nat) : Int)), (8, .int .i64 ((k : Nat) : Int)), (48, .bool (!(u.dep v)))] ⟨rfl, rfl, rfl, rfl, rfl, rfl, rfl, trivial⟩ ?_
          refine To.blockN ?_
          refine To.thenN ?_
          refine To.reg ?_
          refine To.rd rfl rfl rfl (Rd.inc rfl rfl rfl (by omega)) ?_
          refine To.rd rfl rfl rfl (Rd.move rfl rfl) ?_
          refine To.nil ?_
          refine To.thenN ?_
          refine To.sub [(0, .slice Aa a.length qa), (5, .slice Am ((m.set k v).set (k + 1) u).length qm), (24, .slice Ap P.length cp), (25, .int .i64 ((P.length : Nat) : Int)), (26, .int .i64 (((i + 1) : Nat) : Int))] ⟨rfl, by rw [List.length_set, List.length_set]; rfl, rfl, rfl, rfl, trivial⟩ ?_
          refine To.only [0, 0, 0, 0] rfl ?_
          refine To.again (P.length - (i + 1)) (by omega) ⟨i + 1, ((m.set k v).set (k + 1) u), rfl, rfl, rfl, (by omega), (by rw [← Swap.norm (Swap.of hu hv) (by rw [depAt_of hu hv]; simpa using c48)]; exact hn), (fun c => by rw [swap_filter hu hv (by simpa using c48)]; exact hf c), (swap_mem hu hv hmem), (by rw [List.length_set, List.length_set]; exact hmlen)⟩
        ·
          refine To.seq ?_
          refine To.flow [rows Ev.cells 37 9 Am qm m, ros Ev.cells Aa a, argsS (a.map Ev.ar), ros encB Ap P] [⟨0, [], 0⟩, ⟨1, [], 0⟩, ⟨4, [], 0⟩, ⟨5, [], 0⟩, ⟨6, [], 0⟩, ⟨2, [], 1⟩, ⟨3, [], 1⟩, ⟨7, [], 1⟩, ⟨8, [], 1⟩, ⟨9, [], 3⟩, ⟨10, [], 0⟩] mixed (by kernel_rfl) (oks_cons (oks_at 0 rfl) (oks_cons (oks_at 1 rfl) (oks_cons (oks_at 2 rfl) (oks_cons (oks_at 3 rfl) (oks_nil _))))) ?_
          refine FlowS.free rfl rfl rfl rfl (Rd.move rfl rfl) ?_
          refine FlowS.free rfl rfl rfl rfl (Rd.move rfl rfl) ?_
          refine FlowS.free rfl rfl rfl rfl (Rd.move rfl rfl) ?_
          refine FlowS.free rfl rfl rfl rfl (Rd.move rfl rfl) ?_
          refine FlowS.free rfl rfl rfl rfl (Rd.inc rfl rfl rfl (by omega)) ?_
          refine FlowS.rd rfl rfl rfl rfl (Rd.indexRows (i := 0) (j := k) rfl rfl rfl s22 rfl hu) ?_
          refine FlowS.rd rfl rfl rfl rfl (Rd.loadS (i := 0) rfl rfl r37 rfl (rows_gives encE hu) (encE.len _)) ?_
          refine FlowS.rd rfl rfl rfl rfl (Rd.indexRows (i := 0) (j := (k + 1)) rfl rfl rfl s22 rfl hv) ?_
          refine FlowS.rd rfl rfl rfl rfl (Rd.loadS (i := 0) rfl rfl r37 rfl (rows_gives encE hv) (encE.len _)) ?_
          refine FlowS.callQ rfl rfl rfl rfl (Ent.fn rfl rfl ca19) (equal_fn2 u v (haa u (hmem u (List.mem_of_getElem? hu)))) rfl (oks_cons (oks_S 2 rfl (List.mem_map.2 ⟨u, hmem u (List.mem_of_getElem? hu), rfl⟩)) (oks_cons (oks_S 2 rfl (List.mem_map.2 ⟨v, hmem v (List.mem_of_getElem? hv), rfl⟩)) (oks_nil _))) ?_
          refine FlowS.free rfl rfl rfl rfl (Rd.not rfl rfl) ?_
          refine FlowS.fin ?_
          refine To.as [rows Ev.cells 37 9 Am qm m, ros Ev.cells Aa a, argsS (a.map Ev.ar), ros encB Ap P] rfl ?_
          refine To.sub [(0, .slice Aa a.length qa), (5, .slice Am m.length qm), (24, .slice Ap P.length cp), (25, .int .i64 ((P.length : Nat) : Int)), (26, .int .i64 ((i : Nat) : Int)), (8, .int .i64 ((k : Nat) : Int)), (48, .bool (!(u.dep v))), (75, .bool (!(u.same v)))] ⟨rfl, rfl, rfl, rfl, rfl, rfl, rfl, rfl, trivial⟩ ?_
          refine To.thenN ?_
          refine To.cond rfl (fun c75 => ?_) (fun c75 => ?_)
          ·
            refine To.seq ?_
            refine To.reg ?_
            refine To.rd rfl rfl rfl (Rd.move rfl rfl) ?_
            refine To.callQ rfl rfl rfl (Ent.fn rfl rfl ca30) (cloneS_fn Am qm m (by rw [hAm]; rfl) (by omega)) rfl (oks_cons (oks_row 0 rfl) (oks_nil _)) ?_
            rintro _ _ ⟨Ao, qo, rfl, rfl⟩
            refine ⟨rfl, ?_⟩
            refine To.as [rows Ev.cells 37 9 Ao qo m, rows Ev.cells 37 9 Am qm m, ros Ev.cells Aa a, argsS (a.map Ev.ar), ros encB Ap P] rfl ?_
            refine To.rd rfl rfl rfl (Rd.assign rfl rfl) ?_
            refine To.nil ?_
            refine To.thenN ?_
            refine To.seq ?_
            refine To.know (p := Ao = some ⟨blk Ao, ofs Ao, none⟩) (fun w hw => rows_some encE (by decide) (l := m) (by omega) 0 rfl hw) (fun hAo => ?_)
            refine To.flow [] [⟨0, [], 0⟩, ⟨1, [], 0⟩, ⟨2, [], 0⟩, ⟨3, [], 0⟩, ⟨4, [], 0⟩, ⟨5, [], 0⟩, ⟨6, [], 0⟩, ⟨7, [], 0⟩, ⟨8, [], 0⟩, ⟨10, [], 0⟩, ⟨11, [], 0⟩, ⟨12, [], 0⟩, ⟨9, [], 1⟩, ⟨13, [], 1⟩, ⟨14, [], 0⟩, ⟨15, [], 5⟩, ⟨16, [], 0⟩, ⟨17, [], 5⟩] mixed (by kernel_rfl) (oks_nil _) ?_
            refine FlowS.free rfl rfl rfl rfl (Rd.move rfl rfl) ?_
            refine FlowS.free rfl rfl rfl rfl (Rd.move rfl rfl) ?_
            refine FlowS.free rfl rfl rfl rfl (Rd.move rfl rfl) ?_
            refine FlowS.free rfl rfl rfl rfl (Rd.move rfl rfl) ?_
            refine FlowS.free rfl rfl rfl rfl (Rd.inc rfl rfl rfl (by omega)) ?_
            refine FlowS.free rfl rfl rfl rfl (Rd.move rfl rfl) ?_
            refine FlowS.free rfl rfl rfl rfl (Rd.move rfl rfl) ?_
            refine FlowS.free rfl rfl rfl rfl (Rd.inc rfl rfl rfl (by omega)) ?_
            refine FlowS.free rfl rfl rfl rfl (Rd.indexS (j := (k + 1)) hAo rfl rfl rfl s22 (by omega)) ?_
            refine FlowS.free rfl rfl rfl rfl (Rd.move rfl rfl) ?_
            refine FlowS.free rfl rfl rfl rfl (Rd.move rfl rfl) ?_
            refine FlowS.free rfl rfl rfl rfl (Rd.indexS (j := k) hAo rfl rfl rfl s22 (by omega)) ?_
            refine FlowS.rd rfl rfl rfl rfl (Rd.loadS (i := 0) rfl rfl r37 rfl (rows_gives encE hv) (encE.len _)) ?_
            refine FlowS.rd rfl rfl rfl rfl (Rd.loadS (i := 0) rfl rfl r37 rfl (rows_gives encE hu) (encE.len _)) ?_
            refine FlowS.free rfl rfl rfl rfl (Rd.indexS (j := k) hAo rfl rfl rfl s22 (by omega)) ?_
            refine FlowS.up (Γ' := [rows Ev.cells 37 9 Ao qo (m.set k v), rows Ev.cells 37 9 Am qm m, ros Ev.cells Aa a, argsS (a.map Ev.ar), ros encB Ap P]) rfl rfl rfl (Up.storeS (i := 0) (us := Ev.cells v) rfl rfl rfl r37 (encE.len _) rfl rfl (rows_takes encE (by decide) (by omega))) (oks_nil _) ?_
            refine FlowS.free rfl rfl rfl rfl (Rd.indexS (j := (k + 1)) hAo rfl rfl rfl s22 (by omega)) ?_
            refine FlowS.up (Γ' := [rows Ev.cells 37 9 Ao qo ((m.set k v).set (k + 1) u), rows Ev.cells 37 9 Am qm m, ros Ev.cells Aa a, argsS (a.map Ev.ar), ros encB Ap P]) rfl rfl rfl (Up.storeS (i := 0) (us := Ev.cells u) rfl rfl rfl r37 (encE.len _) rfl rfl (rows_takes encE (by decide) (by omega))) (oks_nil _) ?_
            refine FlowS.fin ?_
            refine To.as [rows Ev.cells 37 9 Ao qo ((m.set k v).set (k + 1) u), rows Ev.cells 37 9 Am qm m, ros Ev.cells Aa a, argsS (a.map Ev.ar), ros encB Ap P] rfl ?_
            refine To.sub [(0, .slice Aa a.length qa), (5, .slice Am m.length qm), (24, .slice Ap P.length cp), (25, .int .i64 ((P.length : Nat) : Int)), (26, .int .i64 ((i : Nat) : Int)), (8, .int .i64 ((k : Nat) : Int)), (48, .bool (!(u.dep v))), (75, .bool (!(u.same v))), (9, .slice Ao m.length qo)] ⟨rfl, rfl, rfl, rfl, rfl, rfl, rfl, rfl, rfl, trivial⟩ ?_
            refine To.thenN ?_
            refine To.seq ?_
            have hom := swap_mem hu hv hmem
            have hol : ((m.set k v).set (k + 1) u).length ≤ 14 := by rw [List.length_set, List.length_set]; omega
            have hoa : ∀ e ∈ ((m.set k v).set (k + 1) u), e.args.length ≤ 1000000000000 := fun e he => haa e (hom e he)
            have hno : ¬ normV a = normV ((m.set k v).set (k + 1) u) := by
              rw [← hn]
              exact Swap.ne hu hv (by simpa using c48) (same_val (by simpa using c75))
            refine To.sub [(0, .slice Aa a.length qa), (5, .slice Am m.length qm), (24, .slice Ap P.length cp), (25, .int .i64 ((P.length : Nat) : Int)), (26, .int .i64 ((i : Nat) : Int)), (8, .int .i64 ((k : Nat) : Int)), (9, .slice Ao (((m.set k v).set (k + 1) u).length) qo)] ⟨rfl, rfl, rfl, rfl, rfl, rfl, by rw [List.length_set, List.length_set]; rfl, trivial⟩ ?_
            refine To.reg ?_
            refine To.rd rfl rfl rfl (Rd.move rfl rfl) ?_
            refine To.rd rfl rfl rfl (Rd.move rfl rfl) ?_
            refine To.callV rfl rfl rfl (Ent.fn rfl rfl ca24) (equiv_fn Aa Ao qa qo a ((m.set k v).set (k + 1) u) (Nat.le_trans hal (by decide)) haa (Nat.le_trans hol (by decide)) hoa) rfl (oks_cons (oks_at 2 rfl) (oks_cons (oks_row 0 rfl) (oks_cons (oks_at 3 rfl) (oks_cons ((argsS_sub 3 rfl (fun p hp => by obtain ⟨e, he, rfl⟩ := List.mem_map.1 hp; exact List.mem_map.2 ⟨e, hom e he, rfl⟩)).2) (oks_nil _))))) ?_
            refine To.rdP rfl rfl rfl (Rd.move rfl rfl) (fun g97 => ?_) (fun g97 => ?_)
            ·
              exact absurd g97 hno
            ·
              refine To.rd rfl rfl rfl (Rd.move rfl rfl) ?_
              refine To.rd rfl rfl rfl (Rd.move rfl rfl) ?_
              refine To.callV rfl rfl rfl (Ent.fn rfl rfl ca24) (equiv_fnS Ao Aa qo qa ((m.set k v).set (k + 1) u) a (Nat.le_trans hol (by decide)) hoa (Nat.le_trans hal (by decide)) haa) rfl (oks_cons (oks_row 0 rfl) (oks_cons (oks_at 2 rfl) (oks_cons ((argsS_sub 3 rfl (fun p hp => by obtain ⟨e, he, rfl⟩ := List.mem_map.1 hp; exact List.mem_map.2 ⟨e, hom e he, rfl⟩)).2) (oks_cons (oks_at 3 rfl) (oks_nil _))))) ?_
              refine To.rd rfl rfl rfl (Rd.pickF rfl rfl rfl) ?_
              refine To.nil ?_
              refine To.thenN ?_
              refine To.condP rfl (fun c101 => ?_) (fun c101 => ?_)
              ·
                exact absurd c101 hno
              ·
                refine To.skip ?_
                refine To.blockN ?_
                refine To.thenN ?_
                refine To.reg ?_
                refine To.rd rfl rfl rfl (Rd.inc rfl rfl rfl (by omega)) ?_
                refine To.rd rfl rfl rfl (Rd.move rfl rfl) ?_
                refine To.nil ?_
                refine To.thenN ?_
                refine To.sub [(0, .slice Aa a.length qa), (5, .slice Am m.length qm), (24, .slice Ap P.length cp), (25, .int .i64 ((P.length : Nat) : Int)), (26, .int .i64 (((i + 1) : Nat) : Int))] ⟨rfl, rfl, rfl, rfl, rfl, trivial⟩ ?_
                refine To.only [1, 1, 1, 1] rfl ?_
                refine To.again (P.length - (i + 1)) (by omega) ⟨i + 1, m, rfl, rfl, rfl, (by omega), hn, hf, hmem, hmlen⟩
          ·
            refine To.skip ?_
            refine To.blockN ?_
            refine To.thenN ?_
            refine To.reg ?_
            refine To.rd rfl rfl rfl (Rd.inc rfl rfl rfl (by omega)) ?_
            refine To.rd rfl rfl rfl (Rd.move rfl rfl) ?_
            refine To.nil ?_
            refine To.thenN ?_
            refine To.sub [(0, .slice Aa a.length qa), (5, .slice Am m.length qm), (24, .slice Ap P.length cp), (25, .int .i64 ((P.length : Nat) : Int)), (26, .int .i64 (((i + 1) : Nat) : Int))] ⟨rfl, rfl, rfl, rfl, rfl, trivial⟩ ?_
            refine To.only [0, 0, 0, 0] rfl ?_
            refine To.again (P.length - (i + 1)) (by omega) ⟨i + 1, m, rfl, rfl, rfl, (by omega), hn, hf, hmem, hmlen⟩
    ·
      refine To.exit ?_
      refine To.thenX ?_
      refine To.thenX ?_
      refine To.blockX ?_
      refine To.thenN ?_
      refine To.seq ?_
      refine To.seq ?_
      refine To.reg ?_
      refine To.rd rfl rfl rfl (Rd.move rfl rfl) ?_
      refine To.rd rfl rfl rfl (Rd.len rfl rfl Try.underlying22) ?_
      refine To.rd rfl rfl rfl (Rd.move rfl rfl) ?_
      refine To.nil ?_
      refine To.thenN ?_
      refine To.block ?_
      refine To.only [0, 0, 0, 0] rfl ?_
      refine To.layRow ?_
      refine To.derive (argsS (m.map Ev.ar)) rfl (argsS_sub 2 rfl (fun p hp => by obtain ⟨e, he, rfl⟩ := List.mem_map.1 hp; exact List.mem_map.2 ⟨e, hmem e he, rfl⟩)).1 (argsS_sub 2 rfl (fun p hp => by obtain ⟨e, he, rfl⟩ := List.mem_map.1 hp; exact List.mem_map.2 ⟨e, hmem e he, rfl⟩)).2 ?_
      have hi9 : True := trivial
      refine To.sub [(0, .slice Aa a.length qa), (5, .slice Am m.length qm), (103, .slice Aa a.length qa), (104, .int .i64 ((a.length : Nat) : Int)), (105, .int .i64 ((0 : Nat) : Int))] ⟨rfl, rfl, rfl, rfl, rfl, trivial⟩ ?_
      refine To.only [1, 0, 0, 0] rfl ?_
      refine To.loop (fun mz ρ Γ => ∃ (j : Nat), ρ = [(0, .slice Aa a.length qa), (5, .slice Am m.length qm), (103, .slice Aa a.length qa), (104, .int .i64 ((a.length : Nat) : Int)), (105, .int .i64 ((j : Nat) : Int))] ∧ Γ = [ros Ev.cells Am m, argsS (m.map Ev.ar), ros Ev.cells Aa a, argsS (a.map Ev.ar)] ∧ mz = a.length - j ∧ (j ≤ a.length)) (a.length - 0) ⟨0, rfl, rfl, rfl, (Nat.zero_le _)⟩ ?_
      rintro mz _ _ ⟨j, rfl, rfl, rfl, hj⟩
      refine To.seq ?_
      refine To.reg ?_
      refine To.rd rfl rfl rfl (Rd.lss rfl rfl rfl) ?_
      refine To.nil ?_
      refine To.thenN ?_
      refine To.seq ?_
      refine To.condP rfl (fun c106 => ?_) (fun c106 => ?_)
      ·
        obtain ⟨e, he⟩ : ∃ z0, a[j]? = some z0 := ⟨a[j]'(by omega), List.getElem?_eq_getElem _⟩
        refine To.skip ?_
        refine To.thenN ?_
        refine To.seq ?_
        refine To.block ?_
        refine To.seq ?_
        refine To.reg ?_
        refine To.rd rfl rfl rfl (Rd.indexRos encE (i := 2) (j := j) rfl rfl rfl s22 rfl he) ?_
        refine To.rd rfl rfl rfl (Rd.loadS (i := 2) rfl rfl r37 rfl (ros_gives encE he) (encE.len _)) ?_
        refine To.alloc rfl rfl rfl rfl z37 (fun b11_2 => ?_)
        refine To.up rfl rfl (Up.storeS (i := 0) rfl rfl rfl r37 rfl rfl rfl (box_takesAll rfl)) ?_
        refine To.nil ?_
        refine To.thenN ?_
        refine To.seq ?_
        refine To.dup 1 rfl rfl ?_
        refine To.dup 3 rfl rfl ?_
        refine To.dup 5 rfl rfl ?_
        refine To.dup 7 rfl rfl ?_
        refine To.flow [box b11_2 [.int .i64 e.t, .int .i64 e.c, .int .u8 e.k, .int .i64 e.p, .int .i64 e.n, .int .i64 e.cp, .int .i64 e.h, .int .i64 e.d, .slice e.A e.args.length e.cap] 37] [⟨0, [], 0⟩, ⟨1, [], 0⟩, ⟨2, [], 0⟩, ⟨4, [], 0⟩, ⟨5, [], 0⟩, ⟨6, [], 0⟩, ⟨3, [], 5⟩, ⟨7, [], 5⟩, ⟨8, [], 3⟩, ⟨9, [], 0⟩] mixed (by kernel_rfl) (oks_cons (oks_at 4 rfl) (oks_nil _)) ?_
        refine FlowS.free rfl rfl rfl rfl (Rd.move rfl rfl) ?_
        refine FlowS.free rfl rfl rfl rfl (Rd.field rfl rfl fl37_1) ?_
        refine FlowS.free rfl rfl rfl rfl (Rd.load (i := 0) rfl rfl c3 rfl (box_gives1 rfl)) ?_
        refine FlowS.free rfl rfl rfl rfl (Rd.move rfl rfl) ?_
        refine FlowS.free rfl rfl rfl rfl (Rd.field rfl rfl fl37_1) ?_
        refine FlowS.free rfl rfl rfl rfl (Rd.load (i := 0) rfl rfl c3 rfl (box_gives1 rfl)) ?_
        refine FlowS.call [1, 0] rfl rfl rfl rfl (Ent.fn rfl rfl ca26) rfl (project_fn Aa qa a e.c (Nat.le_trans hal (by decide)) haa) ?_
        rintro _ _ ⟨AOa, qOa, Oa, rfl, rfl, hOa⟩
        refine ⟨oks_cons (oks_at 4 rfl) (oks_nil _), ?_⟩
        have hlOa : Oa.length ≤ 1000000 := by
          have h := congrArg List.length hOa
          rw [List.length_map, List.length_map] at h
          rw [h]; exact Nat.le_trans (List.length_filter_le _ _) (Nat.le_trans hal (by decide))
        have haOa : ∀ e ∈ Oa, e.args.length ≤ 1000000000000 := proj_args hOa haa
        refine FlowS.call [3, 2] rfl rfl rfl rfl (Ent.fn rfl rfl ca26) rfl (project_fn Am qm m e.c (Nat.le_trans hml (by decide)) hma) ?_
        rintro _ _ ⟨AOm, qOm, Om, rfl, rfl, hOm⟩
        refine ⟨oks_cons (oks_at 4 rfl) (oks_nil _), ?_⟩
        have hlOm : Om.length ≤ 1000000 := by
          have h := congrArg List.length hOm
          rw [List.length_map, List.length_map] at h
          rw [h]; exact Nat.le_trans (List.length_filter_le _ _) (Nat.le_trans hml (by decide))
        have haOm : ∀ e ∈ Om, e.args.length ≤ 1000000000000 := proj_args hOm hma
        refine FlowS.callQ rfl rfl rfl rfl (Ent.fn rfl rfl ca25) (sames_fn AOa AOm qOa qOm Oa Om haOa (Nat.le_trans hlOa (by decide))) rfl (oks_cons (oks_row 2 rfl) (oks_cons (oks_row 0 rfl) (oks_cons (oks_at 3 rfl) (oks_cons (oks_at 1 rfl) (oks_nil _))))) ?_
        refine FlowS.free rfl rfl rfl rfl (Rd.not rfl rfl) ?_
        refine FlowS.fin ?_
        refine To.as [rows Ev.cells 37 9 AOm qOm Om, argsS (Om.map Ev.ar), rows Ev.cells 37 9 AOa qOa Oa, argsS (Oa.map Ev.ar), box b11_2 [.int .i64 e.t, .int .i64 e.c, .int .u8 e.k, .int .i64 e.p, .int .i64 e.n, .int .i64 e.cp, .int .i64 e.h, .int .i64 e.d, .slice e.A e.args.length e.cap] 37, ros Ev.cells Am m, argsS (m.map Ev.ar), ros Ev.cells Aa a, argsS (a.map Ev.ar)] rfl ?_
        refine To.thenN ?_
        refine To.cond rfl (fun c118 => ?_) (fun c118 => ?_)
        ·
          exact absurd (hOa.trans ((congrArg (List.map Ev.val) (hf e.c)).symm.trans hOm.symm)) (by simpa using c118)
        ·
          refine To.skip ?_
          refine To.blockN ?_
          refine To.thenN ?_
          refine To.reg ?_
          refine To.rd rfl rfl rfl (Rd.inc rfl rfl rfl (by omega)) ?_
          refine To.rd rfl rfl rfl (Rd.move rfl rfl) ?_
          refine To.nil ?_
          refine To.thenN ?_
          refine To.sub [(0, .slice Aa a.length qa), (5, .slice Am m.length qm), (103, .slice Aa a.length qa), (104, .int .i64 ((a.length : Nat) : Int)), (105, .int .i64 (((j + 1) : Nat) : Int))] ⟨rfl, rfl, rfl, rfl, rfl, trivial⟩ ?_
          refine To.only [5, 5, 5, 5] rfl ?_
          refine To.again (a.length - (j + 1)) (by omega) ⟨j + 1, rfl, rfl, rfl, (by omega)⟩
      ·
        refine To.exit ?_
        refine To.thenX ?_
        refine To.thenX ?_
        refine To.blockX ?_
        refine To.thenN ?_
        refine To.seq ?_
        refine To.reg ?_
        refine To.rd rfl rfl rfl (Rd.move rfl rfl) ?_
        refine To.rd rfl rfl rfl (Rd.move rfl rfl) ?_
        refine To.callV rfl rfl rfl (Ent.fn rfl rfl ca24) (equiv_fn Aa Am qa qm a m (Nat.le_trans hal (by decide)) haa (Nat.le_trans hml (by decide)) hma) rfl (oks_cons (oks_at 2 rfl) (oks_cons (oks_at 0 rfl) (oks_cons (oks_at 3 rfl) (oks_cons ((argsS_sub 3 rfl (fun p hp => by obtain ⟨e, he, rfl⟩ := List.mem_map.1 hp; exact List.mem_map.2 ⟨e, hmem e he, rfl⟩)).2) (oks_nil _))))) ?_
        refine To.rdP rfl rfl rfl (Rd.move rfl rfl) (fun g123 => ?_) (fun g123 => ?_)
        ·
          refine To.rd rfl rfl rfl (Rd.move rfl rfl) ?_
          refine To.rd rfl rfl rfl (Rd.move rfl rfl) ?_
          refine To.callV rfl rfl rfl (Ent.fn rfl rfl ca24) (equiv_fnS Am Aa qm qa m a (Nat.le_trans hml (by decide)) hma (Nat.le_trans hal (by decide)) haa) rfl (oks_cons (oks_at 0 rfl) (oks_cons (oks_at 2 rfl) (oks_cons ((argsS_sub 3 rfl (fun p hp => by obtain ⟨e, he, rfl⟩ := List.mem_map.1 hp; exact List.mem_map.2 ⟨e, hmem e he, rfl⟩)).2) (oks_cons (oks_at 3 rfl) (oks_nil _))))) ?_
          refine To.rd rfl rfl rfl (Rd.pickT rfl rfl rfl) ?_
          refine To.rdP rfl rfl rfl (Rd.move rfl rfl) (fun g128 => ?_) (fun g128 => ?_)
          ·
            refine To.rd rfl rfl rfl (Rd.move rfl rfl) ?_
            refine To.dup 2 rfl rfl ?_
            refine To.dup 4 rfl rfl ?_
            refine To.call [1, 0] rfl rfl rfl (Ent.fn rfl rfl ca14) rfl (normal_fn Aa qa a (Nat.le_trans hal (by decide)) haa) ?_
            rintro _ _ ⟨AU, qU, U, MU, rfl, rfl, hU, hMU, hAU⟩
            refine To.as [rows St.cells 22 1 AU qU U, all (U.map St.ch), argsS MU, ros Ev.cells Am m, argsS (m.map Ev.ar), ros Ev.cells Aa a, argsS (a.map Ev.ar)] rfl ?_
            refine To.rd rfl rfl rfl (Rd.move rfl rfl) ?_
            refine To.dup 3 rfl rfl ?_
            refine To.dup 5 rfl rfl ?_
            refine To.call [1, 0] rfl rfl rfl (Ent.fn rfl rfl ca14) rfl (normal_fn Am qm m (Nat.le_trans hml (by decide)) hma) ?_
            rintro _ _ ⟨AV, qV, V, MV, rfl, rfl, hV, hMV, hAV⟩
            refine To.as [rows St.cells 22 1 AV qV V, all (V.map St.ch), argsS MV, rows St.cells 22 1 AU qU U, all (U.map St.ch), argsS MU, ros Ev.cells Am m, argsS (m.map Ev.ar), ros Ev.cells Aa a, argsS (a.map Ev.ar)] rfl ?_
            refine To.callV rfl rfl rfl (Ent.fn rfl rfl ca13) ((rsame_fn AU AV qU qV U V MU MV hMU hMV hAU (fun s hs => Nat.le_trans (len_of_vals hU s hs) (Nat.le_trans hal (by decide))) (Nat.le_trans (steps_of_vals hU) (Nat.le_trans hal (by decide)))).mono (R' := fun v _ => v = .bool (decide (normV a = normV m))) (fun v _ h => by rw [h, hU, hV])) rfl (oks_cons (oks_row 3 rfl) (oks_cons (oks_row 0 rfl) (oks_cons (oks_steps 4 rfl) (oks_cons (oks_steps 1 rfl) (oks_cons (oks_at 5 rfl) (oks_cons (oks_at 2 rfl) (oks_nil _))))))) ?_
            refine To.rd rfl rfl rfl (Rd.pickT rfl rfl rfl) ?_
            refine To.rd rfl rfl rfl (Rd.assign rfl rfl) ?_
            refine To.nil ?_
            refine To.sub [(0, .slice Aa a.length qa), (5, .slice Am m.length qm), (103, .slice Aa a.length qa), (104, .int .i64 ((a.length : Nat) : Int)), (105, .int .i64 ((j : Nat) : Int)), (106, .bool (decide (((j : Nat) : Int) < ((a.length : Nat) : Int)))), (4, .bool (decide (normV a = normV m)))] ⟨rfl, rfl, rfl, rfl, rfl, rfl, rfl, trivial⟩ ?_
            refine To.thenN ?_
            refine To.ret ?_
            refine To.end1 (.inl rfl) Try.results8 rfl ?_
            rw [decide_eq_true hn.symm]
          ·
            exact absurd hn.symm g128
        ·
          exact absurd hn.symm g123
section
open Go.ChangeShapes Go.WideShapes Go.ChangeAt
theorem open_u8s {H : Type} {ench : TypeId × Value → H} {w : World} {base : Nat} {spare : Nat → Bool} {held : Bool} {fuel : Nat} {cs : List Value} {x : DataW H × List MemPlace} (h : DataW.trod ench Try.prog w base spare held fuel 44 cs = some x) :
    ∃ (A : Option Addr) (l : List Nat) (cap : Nat), cs = [.slice A l.length cap] ∧ (∀ y ∈ l, y < 256) ∧ l.length ≤ 9223372036854775807 ∧ (ros encB A l).holds w := by
  obtain ⟨A, l, cap, h1, h2, h3, h4, h5⟩ := open_list (enc := encB) (size := 1) (fun _ => rfl) (by decide) (fun y => y < 256) Try.underlying44 (by kernel_rfl) (fun n cs' x' h' _ => by
    obtain ⟨k, rfl, _, hw⟩ := DataW.trod_int Try.underlying5 h'
    have b := bounds_u8 hw
    obtain ⟨n, rfl⟩ : ∃ n : Nat, k = n := ⟨k.toNat, by omega⟩
    exact ⟨n, rfl, by omega⟩) h
  unfold maxLen at h5
  exact ⟨A, l, cap, h1, h3, by omega, h2⟩
end
end Go.Proofs.Ytneimfacccgaeaa
