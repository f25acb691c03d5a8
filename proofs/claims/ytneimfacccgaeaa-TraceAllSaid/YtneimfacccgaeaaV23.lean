/- The walks of TraceNormal and TraceCompares. Own text (walks printed by sx.py). -/
import Derived.Test.YtneimfacccgaeaaV22
namespace Go.Proofs.Ytneimfacccgaeaa
open Go.RowKit Go.Flow Go.Mem Go.Sep
theorem equiv_fnS (Aa Ab : Option Addr) (ca cb : Nat) (a b : List Ev) (hal : a.length ≤ 1000000) (haa : ∀ e ∈ a, e.args.length ≤ 1000000000000) (hbl : b.length ≤ 1000000) (hba : ∀ e ∈ b, e.args.length ≤ 1000000000000) :
    Does Try.prog 24 [.slice Aa a.length ca, .slice Ab b.length cb] [ros Ev.cells Aa a, ros Ev.cells Ab b, argsS (a.map Ev.ar), argsS (b.map Ev.ar)] (fun v _ => v = .bool (decide (normV b = normV a))) :=
  (equiv_fn Aa Ab ca cb a b hal haa hbl hba).mono fun v _ h => by rw [h]; congr 1; exact decide_eq_decide.2 eq_comm
theorem equiv_fn1 (Aa : Option Addr) (ca : Nat) (a : List Ev) (hal : a.length ≤ 1000000) (haa : ∀ e ∈ a, e.args.length ≤ 1000000000000) :
    Does Try.prog 24 [.slice Aa a.length ca, .slice Aa a.length ca] [ros Ev.cells Aa a, ros Ev.cells Aa a, argsS (a.map Ev.ar), argsS (a.map Ev.ar)] (fun v _ => v = .bool true) :=
  (equiv_fn Aa Aa ca ca a a hal haa hal haa).mono fun v _ h => by rw [h]; simp
set_option maxHeartbeats 2000000 in
set_option maxRecDepth 100000 in
theorem tnormal_fn (AX : Option Addr) (cX : Nat) (X : List Ev) (hcX : X.length ≤ cX) (hokX : ∀ e ∈ X, e.ok) :
    Does Try.prog 3 [.slice AX X.length cX] [ros Ev.cells AX X, argsS (X.map Ev.ar)] (fun v _ => v = .bool true) := by
  refine Does.enter Try.func3 rfl Try.ntmps3 rfl (fun w0 => ?_)
  refine To.seq ?_
  refine To.reg ?_
  refine To.rd rfl rfl rfl (Rd.assign rfl rfl) ?_
  refine To.nil ?_
  refine To.thenN ?_
  refine To.seq ?_
  refine To.seq ?_
  refine To.reg ?_
  refine To.callV rfl rfl rfl (Ent.fn rfl rfl ca11) (awake_fn) rfl (oks_nil _) ?_
  refine To.rd rfl rfl rfl (Rd.not rfl rfl) ?_
  refine To.nil ?_
  refine To.thenN ?_
  refine To.condF rfl ?_
  refine To.skip ?_
  refine To.thenN ?_
  refine To.seq ?_
  refine To.reg ?_
  refine To.rd rfl rfl rfl (Rd.move rfl rfl) ?_
  refine To.callQ rfl rfl rfl (Ent.fn rfl rfl ca12) (few_fn AX cX X 20 (by decide) hcX (fun e he => (hokX e he).cap)) rfl (oks_cons (oks_at 0 rfl) (oks_nil _)) ?_
  rintro _ _ ⟨Aa, qa, rfl, rfl⟩
  refine ⟨rfl, ?_⟩
  refine To.as [rows Ev.cells 37 9 Aa qa ((X.take 20).map Ev.cut), ros Ev.cells AX X, argsS (X.map Ev.ar)] rfl ?_
  refine To.rd rfl rfl rfl (Rd.assign rfl rfl) ?_
  refine To.nil ?_
  refine To.thenN ?_
  refine To.seq ?_
  refine To.know (p := ((X.take 20).map Ev.cut).length ≤ qa) (fun w hw => own_caps 0 rfl hw) (fun hqa => ?_)
  refine To.only [0, 0, 0] rfl ?_
  refine To.layRow ?_
  refine To.derive (argsS (((X.take 20).map Ev.cut).map Ev.ar)) rfl (argsS_cut 2 rfl).1 (argsS_cut 2 rfl).2 ?_
  have hal : ((X.take 20).map Ev.cut).length ≤ 20 := cut_len
  have haa : ∀ e ∈ ((X.take 20).map Ev.cut), e.args.length ≤ 1000000000000 := cut_args
  have hak : ∀ e ∈ ((X.take 20).map Ev.cut), 0 ≤ e.k ∧ e.k < 256 := cut_k hokX
  obtain ⟨a, ha⟩ : ∃ a, a = ((X.take 20).map Ev.cut) := ⟨_, rfl⟩
  rw [← ha] at hal haa hak hqa
  rw [← ha]
  refine To.reg ?_
  refine To.rd rfl rfl rfl (Rd.move rfl rfl) ?_
  refine To.dup 1 rfl rfl ?_
  refine To.dup 1 rfl rfl ?_
  refine To.call [1, 0] rfl rfl rfl (Ent.fn rfl rfl ca14) rfl (normal_fn Aa qa a (Nat.le_trans hal (by decide)) haa) ?_
  rintro _ _ ⟨AU, qU, U, MU, rfl, rfl, hU, hMU, hAU⟩
  refine To.as [rows St.cells 22 1 AU qU U, all (U.map St.ch), argsS MU, argsS (a.map Ev.ar), ros Ev.cells Aa a, ros Ev.cells AX X, argsS (X.map Ev.ar)] rfl ?_
  refine To.rd rfl rfl rfl (Rd.move rfl rfl) ?_
  refine To.dup 4 rfl rfl ?_
  refine To.dup 4 rfl rfl ?_
  refine To.call [1, 0] rfl rfl rfl (Ent.fn rfl rfl ca15) rfl (rnormal_fn Aa qa a (Nat.le_trans hal (by decide)) haa hak) ?_
  rintro _ _ ⟨AV, qV, V, rfl, rfl, hV, hIV⟩
  refine To.as [rows St.cells 22 1 AV qV V, all (V.map St.ch), rows St.cells 22 1 AU qU U, all (U.map St.ch), argsS MU, argsS (a.map Ev.ar), ros Ev.cells Aa a, ros Ev.cells AX X, argsS (X.map Ev.ar)] rfl ?_
  have hMV : ∀ s ∈ V, ∀ e ∈ s.l, e.ar ∈ a.map Ev.ar := fun s hs e he => List.mem_map.2 ⟨e, hIV s hs e he, rfl⟩
  have hAV : ∀ s ∈ V, ∀ e ∈ s.l, e.args.length ≤ 1000000000000 := fun s hs e he => haa e (hIV s hs e he)
  refine To.callV rfl rfl rfl (Ent.fn rfl rfl ca13) ((rsame_fn AU AV qU qV U V MU (a.map Ev.ar) hMU hMV hAU (fun s hs => Nat.le_trans (len_of_vals hU s hs) (Nat.le_trans hal (by decide))) (Nat.le_trans (steps_of_vals hU) (Nat.le_trans hal (by decide)))).mono (R' := fun v _ => v = .bool true) (fun v _ h => by rw [h, hU, hV]; simp)) rfl (oks_cons (oks_row 2 rfl) (oks_cons (oks_row 0 rfl) (oks_cons (oks_steps 3 rfl) (oks_cons (oks_steps 1 rfl) (oks_cons (oks_at 4 rfl) (oks_cons (oks_at 5 rfl) (oks_nil _))))))) ?_
  refine To.rd rfl rfl rfl (Rd.assign rfl rfl) ?_
  refine To.nil ?_
  refine To.thenN ?_
  refine To.ret ?_
  refine To.end1 (.inl rfl) Try.results3 rfl ?_
  rfl
set_option maxHeartbeats 2000000 in
set_option maxRecDepth 100000 in
theorem compares_fn (AX : Option Addr) (cX : Nat) (X : List Ev) (hcX : X.length ≤ cX) (hokX : ∀ e ∈ X, e.ok) (AY : Option Addr) (cY : Nat) (Y : List Ev) (hcY : Y.length ≤ cY) (hokY : ∀ e ∈ Y, e.ok) (AZ : Option Addr) (cZ : Nat) (Z : List Ev) (hcZ : Z.length ≤ cZ) (hokZ : ∀ e ∈ Z, e.ok) :
    Does Try.prog 6 [.slice AX X.length cX, .slice AY Y.length cY, .slice AZ Z.length cZ] [ros Ev.cells AX X, argsS (X.map Ev.ar), ros Ev.cells AY Y, argsS (Y.map Ev.ar), ros Ev.cells AZ Z, argsS (Z.map Ev.ar)] (fun v _ => v = .bool true) := by
  refine Does.enter Try.func6 rfl Try.ntmps6 rfl (fun w0 => ?_)
  refine To.seq ?_
  refine To.reg ?_
  refine To.rd rfl rfl rfl (Rd.assign rfl rfl) ?_
  refine To.nil ?_
  refine To.thenN ?_
  refine To.seq ?_
  refine To.seq ?_
  refine To.reg ?_
  refine To.callV rfl rfl rfl (Ent.fn rfl rfl ca11) (awake_fn) rfl (oks_nil _) ?_
  refine To.rd rfl rfl rfl (Rd.not rfl rfl) ?_
  refine To.nil ?_
  refine To.thenN ?_
  refine To.condF rfl ?_
  refine To.skip ?_
  refine To.thenN ?_
  refine To.seq ?_
  refine To.reg ?_
  refine To.rd rfl rfl rfl (Rd.move rfl rfl) ?_
  refine To.callQ rfl rfl rfl (Ent.fn rfl rfl ca12) (few_fn AX cX X 10 (by decide) hcX (fun e he => (hokX e he).cap)) rfl (oks_cons (oks_at 0 rfl) (oks_nil _)) ?_
  rintro _ _ ⟨Aa, qa, rfl, rfl⟩
  refine ⟨rfl, ?_⟩
  refine To.as [rows Ev.cells 37 9 Aa qa ((X.take 10).map Ev.cut), ros Ev.cells AX X, argsS (X.map Ev.ar), ros Ev.cells AY Y, argsS (Y.map Ev.ar), ros Ev.cells AZ Z, argsS (Z.map Ev.ar)] rfl ?_
  refine To.rd rfl rfl rfl (Rd.move rfl rfl) ?_
  refine To.callQ rfl rfl rfl (Ent.fn rfl rfl ca12) (few_fn AY cY Y 10 (by decide) hcY (fun e he => (hokY e he).cap)) rfl (oks_cons (oks_at 3 rfl) (oks_nil _)) ?_
  rintro _ _ ⟨Ab, qb, rfl, rfl⟩
  refine ⟨rfl, ?_⟩
  refine To.as [rows Ev.cells 37 9 Ab qb ((Y.take 10).map Ev.cut), rows Ev.cells 37 9 Aa qa ((X.take 10).map Ev.cut), ros Ev.cells AX X, argsS (X.map Ev.ar), ros Ev.cells AY Y, argsS (Y.map Ev.ar), ros Ev.cells AZ Z, argsS (Z.map Ev.ar)] rfl ?_
  refine To.rd rfl rfl rfl (Rd.move rfl rfl) ?_
  refine To.callQ rfl rfl rfl (Ent.fn rfl rfl ca12) (few_fn AZ cZ Z 10 (by decide) hcZ (fun e he => (hokZ e he).cap)) rfl (oks_cons (oks_at 6 rfl) (oks_nil _)) ?_
  rintro _ _ ⟨Ac, qc, rfl, rfl⟩
  refine ⟨rfl, ?_⟩
  refine To.as [rows Ev.cells 37 9 Ac qc ((Z.take 10).map Ev.cut), rows Ev.cells 37 9 Ab qb ((Y.take 10).map Ev.cut), rows Ev.cells 37 9 Aa qa ((X.take 10).map Ev.cut), ros Ev.cells AX X, argsS (X.map Ev.ar), ros Ev.cells AY Y, argsS (Y.map Ev.ar), ros Ev.cells AZ Z, argsS (Z.map Ev.ar)] rfl ?_
  refine To.rd rfl rfl rfl (Rd.assign rfl rfl) ?_
  refine To.rd rfl rfl rfl (Rd.assign rfl rfl) ?_
  refine To.rd rfl rfl rfl (Rd.assign rfl rfl) ?_
  refine To.nil ?_
  refine To.thenN ?_
  refine To.seq ?_
  refine To.know (p := ((X.take 10).map Ev.cut).length ≤ qa) (fun w hw => own_caps 2 rfl hw) (fun hqa => ?_)
  refine To.only [2, 0, 0, 0, 0, 0, 0, 0, 0] rfl ?_
  refine To.layRow ?_
  refine To.derive (argsS (((X.take 10).map Ev.cut).map Ev.ar)) rfl (argsS_cut 4 rfl).1 (argsS_cut 4 rfl).2 ?_
  have hal : ((X.take 10).map Ev.cut).length ≤ 10 := cut_len
  have haa : ∀ e ∈ ((X.take 10).map Ev.cut), e.args.length ≤ 1000000000000 := cut_args
  have hak : ∀ e ∈ ((X.take 10).map Ev.cut), 0 ≤ e.k ∧ e.k < 256 := cut_k hokX
  obtain ⟨a, ha⟩ : ∃ a, a = ((X.take 10).map Ev.cut) := ⟨_, rfl⟩
  rw [← ha] at hal haa hak hqa
  rw [← ha]
  refine To.know (p := ((Y.take 10).map Ev.cut).length ≤ qb) (fun w hw => own_caps 3 rfl hw) (fun hqb => ?_)
  refine To.only [3, 0, 0, 0, 0, 0, 0, 0, 0, 0] rfl ?_
  refine To.layRow ?_
  refine To.derive (argsS (((Y.take 10).map Ev.cut).map Ev.ar)) rfl (argsS_cut 7 rfl).1 (argsS_cut 7 rfl).2 ?_
  have hbl : ((Y.take 10).map Ev.cut).length ≤ 10 := cut_len
  have hba : ∀ e ∈ ((Y.take 10).map Ev.cut), e.args.length ≤ 1000000000000 := cut_args
  have hbk : ∀ e ∈ ((Y.take 10).map Ev.cut), 0 ≤ e.k ∧ e.k < 256 := cut_k hokY
  obtain ⟨b, hb⟩ : ∃ b, b = ((Y.take 10).map Ev.cut) := ⟨_, rfl⟩
  rw [← hb] at hbl hba hbk hqb
  rw [← hb]
  refine To.know (p := ((Z.take 10).map Ev.cut).length ≤ qc) (fun w hw => own_caps 4 rfl hw) (fun hqc => ?_)
  refine To.only [4, 0, 0, 0, 0, 0, 0, 0, 0, 0, 0] rfl ?_
  refine To.layRow ?_
  refine To.derive (argsS (((Z.take 10).map Ev.cut).map Ev.ar)) rfl (argsS_cut 10 rfl).1 (argsS_cut 10 rfl).2 ?_
  have hcl : ((Z.take 10).map Ev.cut).length ≤ 10 := cut_len
  have hca : ∀ e ∈ ((Z.take 10).map Ev.cut), e.args.length ≤ 1000000000000 := cut_args
  have hck : ∀ e ∈ ((Z.take 10).map Ev.cut), 0 ≤ e.k ∧ e.k < 256 := cut_k hokZ
  obtain ⟨c, hc⟩ : ∃ c, c = ((Z.take 10).map Ev.cut) := ⟨_, rfl⟩
  rw [← hc] at hcl hca hck hqc
  rw [← hc]
  refine To.reg ?_
  refine To.rd rfl rfl rfl (Rd.move rfl rfl) ?_
  refine To.rd rfl rfl rfl (Rd.move rfl rfl) ?_
  refine To.callV rfl rfl rfl (Ent.fn rfl rfl ca24) (equiv_fn Aa Ab qa qb a b (Nat.le_trans hal (by decide)) haa (Nat.le_trans hbl (by decide)) hba) rfl (oks_cons (oks_at 5 rfl) (oks_cons (oks_at 3 rfl) (oks_cons (oks_at 4 rfl) (oks_cons (oks_at 2 rfl) (oks_nil _))))) ?_
  refine To.rd rfl rfl rfl (Rd.move rfl rfl) ?_
  refine To.rd rfl rfl rfl (Rd.move rfl rfl) ?_
  refine To.callV rfl rfl rfl (Ent.fn rfl rfl ca24) (equiv_fn Ab Ac qb qc b c (Nat.le_trans hbl (by decide)) hba (Nat.le_trans hcl (by decide)) hca) rfl (oks_cons (oks_at 3 rfl) (oks_cons (oks_at 1 rfl) (oks_cons (oks_at 2 rfl) (oks_cons (oks_at 0 rfl) (oks_nil _))))) ?_
  refine To.rd rfl rfl rfl (Rd.move rfl rfl) ?_
  refine To.rd rfl rfl rfl (Rd.move rfl rfl) ?_
  refine To.callV rfl rfl rfl (Ent.fn rfl rfl ca24) (equiv_fn Aa Ac qa qc a c (Nat.le_trans hal (by decide)) haa (Nat.le_trans hcl (by decide)) hca) rfl (oks_cons (oks_at 5 rfl) (oks_cons (oks_at 1 rfl) (oks_cons (oks_at 4 rfl) (oks_cons (oks_at 0 rfl) (oks_nil _))))) ?_
  refine To.rd rfl rfl rfl (Rd.assign rfl rfl) ?_
  refine To.rd rfl rfl rfl (Rd.assign rfl rfl) ?_
  refine To.rd rfl rfl rfl (Rd.assign rfl rfl) ?_
  refine To.nil ?_
  refine To.sub [(0, .slice Aa a.length qa), (1, .slice Ab b.length qb), (2, .slice Ac c.length qc), (6, .bool false), (11, .bool false), (7, .bool (decide (normV a = normV b))), (8, .bool (decide (normV b = normV c))), (9, .bool (decide (normV a = normV c)))] ⟨rfl, rfl, rfl, rfl, rfl, rfl, rfl, rfl, trivial⟩ ?_
  refine To.thenN ?_
  refine To.seq ?_
  refine To.reg ?_
  refine To.rd rfl rfl rfl (Rd.move rfl rfl) ?_
  refine To.rd rfl rfl rfl (Rd.move rfl rfl) ?_
  refine To.dup 5 rfl rfl ?_
  refine To.dup 5 rfl rfl ?_
  refine To.call [1, 0] rfl rfl rfl (Ent.fn rfl rfl ca15) rfl (rnormal_fn Aa qa a (Nat.le_trans hal (by decide)) haa hak) ?_
  rintro _ _ ⟨AU, qU, U, rfl, rfl, hU, hIU⟩
  refine To.as [rows St.cells 22 1 AU qU U, all (U.map St.ch), argsS (c.map Ev.ar), ros Ev.cells Ac c, argsS (b.map Ev.ar), ros Ev.cells Ab b, argsS (a.map Ev.ar), ros Ev.cells Aa a, ros Ev.cells AX X, argsS (X.map Ev.ar), ros Ev.cells AY Y, argsS (Y.map Ev.ar), ros Ev.cells AZ Z, argsS (Z.map Ev.ar)] rfl ?_
  have hMU : ∀ s ∈ U, ∀ e ∈ s.l, e.ar ∈ a.map Ev.ar := fun s hs e he => List.mem_map.2 ⟨e, hIU s hs e he, rfl⟩
  have hAU : ∀ s ∈ U, ∀ e ∈ s.l, e.args.length ≤ 1000000000000 := fun s hs e he => haa e (hIU s hs e he)
  refine To.rd rfl rfl rfl (Rd.move rfl rfl) ?_
  refine To.dup 5 rfl rfl ?_
  refine To.dup 5 rfl rfl ?_
  refine To.call [1, 0] rfl rfl rfl (Ent.fn rfl rfl ca15) rfl (rnormal_fn Ab qb b (Nat.le_trans hbl (by decide)) hba hbk) ?_
  rintro _ _ ⟨AV, qV, V, rfl, rfl, hV, hIV⟩
  refine To.as [rows St.cells 22 1 AV qV V, all (V.map St.ch), rows St.cells 22 1 AU qU U, all (U.map St.ch), argsS (c.map Ev.ar), ros Ev.cells Ac c, argsS (b.map Ev.ar), ros Ev.cells Ab b, argsS (a.map Ev.ar), ros Ev.cells Aa a, ros Ev.cells AX X, argsS (X.map Ev.ar), ros Ev.cells AY Y, argsS (Y.map Ev.ar), ros Ev.cells AZ Z, argsS (Z.map Ev.ar)] rfl ?_
  have hMV : ∀ s ∈ V, ∀ e ∈ s.l, e.ar ∈ b.map Ev.ar := fun s hs e he => List.mem_map.2 ⟨e, hIV s hs e he, rfl⟩
  have hAV : ∀ s ∈ V, ∀ e ∈ s.l, e.args.length ≤ 1000000000000 := fun s hs e he => hba e (hIV s hs e he)
  refine To.callV rfl rfl rfl (Ent.fn rfl rfl ca13) ((rsame_fn AU AV qU qV U V (a.map Ev.ar) (b.map Ev.ar) hMU hMV hAU (fun s hs => Nat.le_trans (len_of_vals hU s hs) (Nat.le_trans hal (by decide))) (Nat.le_trans (steps_of_vals hU) (Nat.le_trans hal (by decide)))).mono (R' := fun v _ => v = .bool (decide (normV a = normV b))) (fun v _ h => by rw [h, hU, hV])) rfl (oks_cons (oks_row 2 rfl) (oks_cons (oks_row 0 rfl) (oks_cons (oks_steps 3 rfl) (oks_cons (oks_steps 1 rfl) (oks_cons (oks_at 8 rfl) (oks_cons (oks_at 6 rfl) (oks_nil _))))))) ?_
  refine To.rd rfl rfl rfl (Rd.as (v' := .bool true) (congrArg Value.bool (beq_self_eq_true _)) (Rd.eqlB rfl Try.underlying4 rfl rfl)) ?_
  refine To.rd rfl rfl rfl (Rd.move rfl rfl) ?_
  refine To.rd rfl rfl rfl (Rd.move rfl rfl) ?_
  refine To.rd rfl rfl rfl (Rd.move rfl rfl) ?_
  refine To.callV rfl rfl rfl (Ent.fn rfl rfl ca24) (equiv_fn1 Aa qa a (Nat.le_trans hal (by decide)) haa) rfl (oks_cons (oks_at 9 rfl) (oks_cons (oks_at 9 rfl) (oks_cons (oks_at 8 rfl) (oks_cons (oks_at 8 rfl) (oks_nil _))))) ?_
  refine To.rd rfl rfl rfl (Rd.pickT rfl rfl rfl) ?_
  refine To.rd rfl rfl rfl (Rd.move rfl rfl) ?_
  refine To.rd rfl rfl rfl (Rd.move rfl rfl) ?_
  refine To.rd rfl rfl rfl (Rd.move rfl rfl) ?_
  refine To.rd rfl rfl rfl (Rd.move rfl rfl) ?_
  refine To.callV rfl rfl rfl (Ent.fn rfl rfl ca24) (equiv_fnS Ab Aa qb qa b a (Nat.le_trans hbl (by decide)) hba (Nat.le_trans hal (by decide)) haa) rfl (oks_cons (oks_at 7 rfl) (oks_cons (oks_at 9 rfl) (oks_cons (oks_at 6 rfl) (oks_cons (oks_at 8 rfl) (oks_nil _))))) ?_
  refine To.rd rfl rfl rfl (Rd.as (v' := .bool true) (congrArg Value.bool (beq_self_eq_true _)) (Rd.eqlB rfl Try.underlying4 rfl rfl)) ?_
  refine To.rd rfl rfl rfl (Rd.pickT rfl rfl rfl) ?_
  refine To.rd rfl rfl rfl (Rd.move rfl rfl) ?_
  refine To.rd rfl rfl rfl (Rd.move rfl rfl) ?_
  refine To.rd rfl rfl rfl (Rd.not rfl rfl) ?_
  refine To.rdB rfl rfl rfl (Rd.move rfl rfl) (fun g49 => ?_) (fun g49 => ?_)
  ·
    refine To.sk rfl rfl rfl ?_
    refine To.sk rfl rfl rfl ?_
    refine To.rd rfl rfl rfl (Rd.pickT rfl rfl rfl) ?_
    refine To.rd rfl rfl rfl (Rd.move rfl rfl) ?_
    refine To.sk rfl rfl rfl ?_
    refine To.rd rfl rfl rfl (Rd.pickT rfl rfl rfl) ?_
    refine To.rd rfl rfl rfl (Rd.pickT rfl rfl rfl) ?_
    refine To.rd rfl rfl rfl (Rd.assign rfl rfl) ?_
    refine To.nil ?_
    refine To.sub [(0, .slice Aa a.length qa), (1, .slice Ab b.length qb), (2, .slice Ac c.length qc), (6, .bool true), (11, .bool false), (7, .bool (decide (normV a = normV b))), (8, .bool (decide (normV b = normV c))), (9, .bool (decide (normV a = normV c)))] ⟨rfl, rfl, rfl, rfl, rfl, rfl, rfl, rfl, trivial⟩ ?_
    refine To.thenN ?_
    refine To.ret ?_
    refine To.end1 (.inl rfl) Try.results6 rfl ?_
    rfl
  ·
    refine To.rd rfl rfl rfl (Rd.move rfl rfl) ?_
    refine To.rd rfl rfl rfl (Rd.not rfl rfl) ?_
    refine To.rd rfl rfl rfl (Rd.pickF rfl rfl rfl) ?_
    refine To.rdB rfl rfl rfl (Rd.move rfl rfl) (fun g53 => ?_) (fun g53 => ?_)
    ·
      refine To.sk rfl rfl rfl ?_
      refine To.rd rfl rfl rfl (Rd.pickT rfl rfl rfl) ?_
      refine To.rd rfl rfl rfl (Rd.pickT rfl rfl rfl) ?_
      refine To.rd rfl rfl rfl (Rd.assign rfl rfl) ?_
      refine To.nil ?_
      refine To.sub [(0, .slice Aa a.length qa), (1, .slice Ab b.length qb), (2, .slice Ac c.length qc), (6, .bool true), (11, .bool false), (7, .bool (decide (normV a = normV b))), (8, .bool (decide (normV b = normV c))), (9, .bool (decide (normV a = normV c)))] ⟨rfl, rfl, rfl, rfl, rfl, rfl, rfl, rfl, trivial⟩ ?_
      refine To.thenN ?_
      refine To.ret ?_
      refine To.end1 (.inl rfl) Try.results6 rfl ?_
      rfl
    ·
      refine To.rd rfl rfl rfl (Rd.move rfl rfl) ?_
      refine To.rd rfl rfl rfl (Rd.pickF rfl rfl rfl) ?_
      refine To.rd rfl rfl rfl (Rd.pickT rfl rfl rfl) ?_
      refine To.rd rfl rfl rfl (Rd.assign rfl rfl) ?_
      refine To.nil ?_
      refine To.sub [(0, .slice Aa a.length qa), (1, .slice Ab b.length qb), (2, .slice Ac c.length qc), (6, .bool (decide (normV a = normV c))), (11, .bool false), (7, .bool (decide (normV a = normV b))), (8, .bool (decide (normV b = normV c))), (9, .bool (decide (normV a = normV c)))] ⟨rfl, rfl, rfl, rfl, rfl, rfl, rfl, rfl, trivial⟩ ?_
      refine To.thenN ?_
      refine To.ret ?_
      refine To.end1 (.inl rfl) Try.results6 rfl ?_
      have h1 : normV a = normV b := by simpa using g49
      have h2 : normV b = normV c := by simpa using g53
      rw [decide_eq_true (h1.trans h2)]
end Go.Proofs.Ytneimfacccgaeaa
