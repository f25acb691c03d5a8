/- The reference's order of events, and equality of events. Own text (walks printed by sx.py). -/
import Derived.Test.YtneimfacccgaeaaV2
namespace Go.Proofs.Ytneimfacccgaeaa
open Go.RowKit Go.Flow Go.Mem Go.Sep
set_option maxHeartbeats 2000000 in
set_option maxRecDepth 100000 in
theorem rcmp_fn (a b : Int) :
    Does Try.prog 39 [.int .i64 a, .int .i64 b] [] (fun v _ => v = .int .i64 (cmpI a b)) := by
  refine Does.enter Try.func39 rfl Try.ntmps39 rfl (fun w0 => ?_)
  refine To.seq ?_
  refine To.reg ?_
  refine To.rd rfl rfl rfl (Rd.assign rfl rfl) ?_
  refine To.nil ?_
  refine To.thenN ?_
  refine To.seq ?_
  refine To.seq ?_
  refine To.reg ?_
  refine To.rd rfl rfl rfl (Rd.move rfl rfl) ?_
  refine To.rd rfl rfl rfl (Rd.move rfl rfl) ?_
  refine To.rd rfl rfl rfl (Rd.lss rfl rfl rfl) ?_
  refine To.nil ?_
  refine To.thenN ?_
  refine To.condP rfl (fun c7 => ?_) (fun c7 => ?_)
  ·
    refine To.seq ?_
    refine To.reg ?_
    refine To.rd rfl rfl rfl (Rd.assign rfl rfl) ?_
    refine To.nil ?_
    refine To.thenN ?_
    refine To.ret ?_
    refine To.thenR ?_
    refine To.end1 (.inl rfl) Try.results39 rfl ?_
    unfold cmpI; rw [if_pos c7]
  ·
    refine To.skip ?_
    refine To.thenN ?_
    refine To.seq ?_
    refine To.seq ?_
    refine To.reg ?_
    refine To.rd rfl rfl rfl (Rd.move rfl rfl) ?_
    refine To.rd rfl rfl rfl (Rd.move rfl rfl) ?_
    refine To.rd rfl rfl rfl (Rd.gtr rfl rfl rfl) ?_
    refine To.nil ?_
    refine To.thenN ?_
    refine To.condP rfl (fun c10 => ?_) (fun c10 => ?_)
    ·
      refine To.seq ?_
      refine To.reg ?_
      refine To.rd rfl rfl rfl (Rd.assign rfl rfl) ?_
      refine To.nil ?_
      refine To.thenN ?_
      refine To.ret ?_
      refine To.thenR ?_
      refine To.end1 (.inl rfl) Try.results39 rfl ?_
      unfold cmpI; rw [if_neg c7, if_pos c10]
    ·
      refine To.skip ?_
      refine To.thenN ?_
      refine To.seq ?_
      refine To.reg ?_
      refine To.rd rfl rfl rfl (Rd.assign rfl rfl) ?_
      refine To.nil ?_
      refine To.thenN ?_
      refine To.ret ?_
      refine To.end1 (.inl rfl) Try.results39 rfl ?_
      unfold cmpI; rw [if_neg c7, if_neg c10]
set_option maxHeartbeats 2000000 in
set_option maxRecDepth 100000 in
theorem fields_fn (x : Ev) (hk : 0 ≤ x.k ∧ x.k < 256) :
    Does Try.prog 38 [.agg (Ev.cells x).toArray] [] (fun v Γ' => ∃ A, v = .slice A x.fields.length 8 ∧ Γ' = [rows encI 2 1 A 8 x.fields]) := by
  refine Does.enter Try.func38 rfl Try.ntmps38 rfl (fun w0 => ?_)
  refine To.seq ?_
  refine To.reg ?_
  refine To.boxed rfl rfl rfl rfl rfl rfl (fun b1 => ?_)
  refine To.rd rfl rfl rfl (Rd.assign rfl rfl) ?_
  refine To.nil ?_
  refine To.thenN ?_
  refine To.seq ?_
  refine To.reg ?_
  refine To.rd rfl rfl rfl (Rd.field rfl rfl fl37_0) ?_
  refine To.rd rfl rfl rfl (Rd.load (i := 0) rfl rfl c3 rfl (box_gives1 rfl)) ?_
  refine To.rd rfl rfl rfl (Rd.field rfl rfl fl37_1) ?_
  refine To.rd rfl rfl rfl (Rd.load (i := 0) rfl rfl c3 rfl (box_gives1 rfl)) ?_
  refine To.rd rfl rfl rfl (Rd.field rfl rfl fl37_2) ?_
  refine To.rd rfl rfl rfl (Rd.load (i := 0) rfl rfl c34 rfl (box_gives1 rfl)) ?_
  refine To.rd rfl rfl rfl (Rd.conv rfl rfl Try.underlying34 Try.underlying2 (IntWalk.i64_in _ (by omega))) ?_
  refine To.rd rfl rfl rfl (Rd.field rfl rfl fl37_3) ?_
  refine To.rd rfl rfl rfl (Rd.load (i := 0) rfl rfl c3 rfl (box_gives1 rfl)) ?_
  refine To.rd rfl rfl rfl (Rd.field rfl rfl fl37_4) ?_
  refine To.rd rfl rfl rfl (Rd.load (i := 0) rfl rfl c3 rfl (box_gives1 rfl)) ?_
  refine To.rd rfl rfl rfl (Rd.field rfl rfl fl37_5) ?_
  refine To.rd rfl rfl rfl (Rd.load (i := 0) rfl rfl c3 rfl (box_gives1 rfl)) ?_
  refine To.rd rfl rfl rfl (Rd.field rfl rfl fl37_6) ?_
  refine To.rd rfl rfl rfl (Rd.load (i := 0) rfl rfl c3 rfl (box_gives1 rfl)) ?_
  refine To.rd rfl rfl rfl (Rd.field rfl rfl fl37_7) ?_
  refine To.rd rfl rfl rfl (Rd.load (i := 0) rfl rfl c2 rfl (box_gives1 rfl)) ?_
  refine To.mk rfl rfl rfl (Mk.sliceN (us := [.int .i64 x.t, .int .i64 x.c, .int .i64 x.k, .int .i64 x.p, .int .i64 x.n, .int .i64 x.cp, .int .i64 x.h, .int .i64 x.d]) rfl s35 rfl rfl rfl rfl rfl rfl) ?_
  rintro _ _ ⟨b20, rfl, rfl⟩
  refine To.as [row 2 1 (some ⟨b20, 0, none⟩) 8 8 [.int .i64 x.t, .int .i64 x.c, .int .i64 x.k, .int .i64 x.p, .int .i64 x.n, .int .i64 x.cp, .int .i64 x.h, .int .i64 x.d], box b1 [.int .i64 x.t, .int .i64 x.c, .int .u8 x.k, .int .i64 x.p, .int .i64 x.n, .int .i64 x.cp, .int .i64 x.h, .int .i64 x.d, .slice x.A x.args.length x.cap] 37] rfl ?_
  refine To.rd rfl rfl rfl (Rd.assign rfl rfl) ?_
  refine To.nil ?_
  refine To.sub [(0, .agg (Ev.cells x).toArray), (1, .pointer (some ⟨b1, 0, none⟩)), (2, .slice (some ⟨b20, 0, none⟩) 8 8)] ⟨rfl, rfl, rfl, trivial⟩ ?_
  refine To.thenN ?_
  refine To.ret ?_
  refine To.only [0] rfl ?_
  refine To.end1 (.inl rfl) Try.results38 rfl ?_
  exact ⟨_, rfl, rfl⟩
theorem val_fields (x y : Ev) : x.cmp y = if cmpL x.fields y.fields = 0 then cmpL x.args y.args else cmpL x.fields y.fields := by
  rw [cmp_val]
  simp only [Ev.val, Ev.fields, cmpL]
  repeat' split
  all_goals first | rfl | omega
theorem val_eq (x y : Ev) : x.val = y.val ↔ x.t = y.t ∧ x.c = y.c ∧ x.k = y.k ∧ x.p = y.p ∧ x.n = y.n ∧ x.cp = y.cp ∧ x.h = y.h ∧ x.d = y.d ∧ x.args = y.args := by simp [Ev.val]
set_option maxHeartbeats 2000000 in
set_option maxRecDepth 100000 in
theorem rless_fn (x y : Ev) (hkx : 0 ≤ x.k ∧ x.k < 256) (hky : 0 ≤ y.k ∧ y.k < 256) (hl : x.args.length ≤ 1000000000000) :
    Does Try.prog 21 [.agg (Ev.cells x).toArray, .agg (Ev.cells y).toArray] [ros encI x.A x.args, ros encI y.A y.args] (fun v _ => v = .bool (decide (x.cmp y < 0))) := by
  have h8 : x.fields.length = 8 := rfl
  refine Does.enter Try.func21 rfl Try.ntmps21 rfl (fun w0 => ?_)
  refine To.seq ?_
  refine To.reg ?_
  refine To.boxed rfl rfl rfl rfl rfl rfl (fun b2 => ?_)
  refine To.boxed rfl rfl rfl rfl rfl rfl (fun b3 => ?_)
  refine To.rd rfl rfl rfl (Rd.assign rfl rfl) ?_
  refine To.nil ?_
  refine To.thenN ?_
  refine To.seq ?_
  refine To.flow [box b3 [.int .i64 y.t, .int .i64 y.c, .int .u8 y.k, .int .i64 y.p, .int .i64 y.n, .int .i64 y.cp, .int .i64 y.h, .int .i64 y.d, .slice y.A y.args.length y.cap] 37, box b2 [.int .i64 x.t, .int .i64 x.c, .int .u8 x.k, .int .i64 x.p, .int .i64 x.n, .int .i64 x.cp, .int .i64 x.h, .int .i64 x.d, .slice x.A x.args.length x.cap] 37] [⟨0, [], 1⟩, ⟨1, [], 4⟩, ⟨2, [], 1⟩, ⟨3, [1], 4⟩, ⟨4, [1, 3], 0⟩, ⟨5, [1, 3], 0⟩] mixed (by kernel_rfl) (oks_cons (oks_at 0 rfl) (oks_cons (oks_at 1 rfl) (oks_nil _))) ?_
  refine FlowS.rd rfl rfl rfl rfl (Rd.loadS (i := 1) rfl rfl r37 rfl box_whole rfl) ?_
  refine FlowS.callM rfl rfl rfl rfl rfl (Ent.fn rfl rfl ca38) (fields_fn x hkx) rfl (oks_nil _) ?_
  rintro _ _ ⟨Ax, rfl, rfl⟩
  refine ⟨rfl, ?_⟩
  refine FlowS.rd rfl rfl rfl rfl (Rd.loadS (i := 0) rfl rfl r37 rfl box_whole rfl) ?_
  refine FlowS.callM rfl rfl rfl rfl rfl (Ent.fn rfl rfl ca38) (fields_fn y hky) rfl (oks_nil _) ?_
  rintro _ _ ⟨Ay, rfl, rfl⟩
  refine ⟨rfl, ?_⟩
  refine FlowS.free rfl rfl rfl rfl (Rd.assign rfl rfl) ?_
  refine FlowS.free rfl rfl rfl rfl (Rd.assign rfl rfl) ?_
  refine FlowS.fin ?_
  refine To.as [rows encI 2 1 Ay 8 y.fields, rows encI 2 1 Ax 8 x.fields, box b3 [.int .i64 y.t, .int .i64 y.c, .int .u8 y.k, .int .i64 y.p, .int .i64 y.n, .int .i64 y.cp, .int .i64 y.h, .int .i64 y.d, .slice y.A y.args.length y.cap] 37, box b2 [.int .i64 x.t, .int .i64 x.c, .int .u8 x.k, .int .i64 x.p, .int .i64 x.n, .int .i64 x.cp, .int .i64 x.h, .int .i64 x.d, .slice x.A x.args.length x.cap] 37, ros encI x.A x.args, ros encI y.A y.args] rfl ?_
  refine To.thenN ?_
  refine To.seq ?_
  refine To.seq ?_
  refine To.reg ?_
  refine To.rd rfl rfl rfl (Rd.move rfl rfl) ?_
  refine To.rd rfl rfl rfl (Rd.len rfl rfl Try.underlying35) ?_
  refine To.rd rfl rfl rfl (Rd.move rfl rfl) ?_
  refine To.nil ?_
  refine To.thenN ?_
  refine To.block ?_
  refine To.sub [(2, .pointer (some ⟨b2, 0, none⟩)), (3, .pointer (some ⟨b3, 0, none⟩)), (5, .slice Ax x.fields.length 8), (6, .slice Ay y.fields.length 8), (16, .int .i64 ((x.fields.length : Nat) : Int)), (17, .int .i64 ((0 : Nat) : Int))] ⟨rfl, rfl, rfl, rfl, rfl, rfl, trivial⟩ ?_
  refine To.only [3, 2, 1, 0, 0, 0] rfl ?_
  refine To.loop (fun mz ρ Γ => ∃ (i : Nat), ρ = [(2, .pointer (some ⟨b2, 0, none⟩)), (3, .pointer (some ⟨b3, 0, none⟩)), (5, .slice Ax x.fields.length 8), (6, .slice Ay y.fields.length 8), (16, .int .i64 ((x.fields.length : Nat) : Int)), (17, .int .i64 ((i : Nat) : Int))] ∧ Γ = [box b2 x.cells 37, box b3 y.cells 37, rows encI 2 1 Ax 8 x.fields, rows encI 2 1 Ay 8 y.fields, ros encI x.A x.args, ros encI y.A y.args] ∧ mz = x.fields.length - i ∧ (i ≤ x.fields.length) ∧ (cmpL x.fields y.fields = cmpL (x.fields.drop i) (y.fields.drop i))) (x.fields.length - 0) ⟨0, rfl, rfl, rfl, (Nat.zero_le _), rfl⟩ ?_
  rintro mz _ _ ⟨i, rfl, rfl, rfl, hi, hI⟩
  refine To.seq ?_
  refine To.reg ?_
  refine To.rd rfl rfl rfl (Rd.lss rfl rfl rfl) ?_
  refine To.nil ?_
  refine To.thenN ?_
  refine To.seq ?_
  refine To.condP rfl (fun c18 => ?_) (fun c18 => ?_)
  ·
    obtain ⟨u, hx⟩ : ∃ z0, x.fields[i]? = some z0 := ⟨x.fields[i]'(by omega), List.getElem?_eq_getElem _⟩
    have hlen : x.fields.length = y.fields.length := rfl
    obtain ⟨v, hy⟩ : ∃ z0, y.fields[i]? = some z0 := ⟨y.fields[i]'(by omega), List.getElem?_eq_getElem _⟩
    refine To.skip ?_
    refine To.thenN ?_
    refine To.seq ?_
    refine To.block ?_
    refine To.seq ?_
    refine To.reg ?_
    refine To.rd rfl rfl rfl (Rd.move rfl rfl) ?_
    refine To.rd rfl rfl rfl (Rd.assign rfl rfl) ?_
    refine To.nil ?_
    refine To.thenN ?_
    refine To.seq ?_
    refine To.flow [box b2 x.cells 37, box b3 y.cells 37, rows encI 2 1 Ax 8 x.fields, rows encI 2 1 Ay 8 y.fields, ros encI x.A x.args, ros encI y.A y.args] [⟨0, [], 0⟩, ⟨1, [], 0⟩, ⟨4, [], 0⟩, ⟨5, [], 0⟩, ⟨2, [], 1⟩, ⟨3, [], 1⟩, ⟨6, [], 1⟩, ⟨7, [], 1⟩, ⟨8, [], 3⟩, ⟨9, [], 0⟩] mixed (by kernel_rfl) (oks_cons (oks_at 0 rfl) (oks_cons (oks_at 1 rfl) (oks_cons (oks_at 2 rfl) (oks_cons (oks_at 3 rfl) (oks_cons (oks_at 4 rfl) (oks_cons (oks_at 5 rfl) (oks_nil _))))))) ?_
    refine FlowS.free rfl rfl rfl rfl (Rd.move rfl rfl) ?_
    refine FlowS.free rfl rfl rfl rfl (Rd.move rfl rfl) ?_
    refine FlowS.free rfl rfl rfl rfl (Rd.move rfl rfl) ?_
    refine FlowS.free rfl rfl rfl rfl (Rd.move rfl rfl) ?_
    refine FlowS.rd rfl rfl rfl rfl (Rd.indexRows (i := 2) (j := i) rfl rfl rfl s35 rfl hx) ?_
    refine FlowS.rd rfl rfl rfl rfl (Rd.load (i := 2) rfl rfl c2 rfl (gives_1 (rows_gives encI_ok hx) rfl)) ?_
    refine FlowS.rd rfl rfl rfl rfl (Rd.indexRows (i := 3) (j := i) rfl rfl rfl s35 rfl hy) ?_
    refine FlowS.rd rfl rfl rfl rfl (Rd.load (i := 3) rfl rfl c2 rfl (gives_1 (rows_gives encI_ok hy) rfl)) ?_
    refine FlowS.callQ rfl rfl rfl rfl (Ent.fn rfl rfl ca39) (rcmp_fn u v) rfl (oks_nil _) ?_
    refine FlowS.free rfl rfl rfl rfl (Rd.assign rfl rfl) ?_
    refine FlowS.fin ?_
    refine To.as [box b2 x.cells 37, box b3 y.cells 37, rows encI 2 1 Ax 8 x.fields, rows encI 2 1 Ay 8 y.fields, ros encI x.A x.args, ros encI y.A y.args] rfl ?_
    refine To.thenN ?_
    refine To.seq ?_
    refine To.reg ?_
    refine To.rd rfl rfl rfl (Rd.move rfl rfl) ?_
    refine To.rd rfl rfl rfl (Rd.neq rfl rfl rfl) ?_
    refine To.nil ?_
    refine To.thenN ?_
    refine To.condP rfl (fun c30 => ?_) (fun c30 => ?_)
    ·
      refine To.seq ?_
      refine To.reg ?_
      refine To.rd rfl rfl rfl (Rd.move rfl rfl) ?_
      refine To.rd rfl rfl rfl (Rd.lss rfl rfl rfl) ?_
      refine To.rd rfl rfl rfl (Rd.assign rfl rfl) ?_
      refine To.nil ?_
      refine To.sub [(2, .pointer (some ⟨b2, 0, none⟩)), (3, .pointer (some ⟨b3, 0, none⟩)), (5, .slice Ax x.fields.length 8), (6, .slice Ay y.fields.length 8), (16, .int .i64 ((x.fields.length : Nat) : Int)), (17, .int .i64 ((i : Nat) : Int)), (18, .bool (decide (((i : Nat) : Int) < ((x.fields.length : Nat) : Int)))), (7, .int .i64 ((i : Nat) : Int)), (8, .int .i64 (cmpI u v)), (30, .bool (decide ((cmpI u v) ≠ 0))), (4, .bool (decide ((cmpI u v) < 0)))] ⟨rfl, rfl, rfl, rfl, rfl, rfl, rfl, rfl, rfl, rfl, rfl, trivial⟩ ?_
      refine To.thenN ?_
      refine To.ret ?_
      refine To.blockR ?_
      refine To.thenR ?_
      refine To.thenR ?_
      refine To.blockR ?_
      refine To.thenR ?_
      refine To.end1 (.inl rfl) Try.results21 rfl ?_
      have hc : cmpL x.fields y.fields = cmpI u v := by rw [hI, cmpL_step hx hy, if_neg (by simpa using c30)]
      rw [val_fields, if_neg (by rw [hc]; simpa using c30), hc]
    ·
      refine To.skip ?_
      refine To.blockN ?_
      refine To.thenN ?_
      refine To.reg ?_
      refine To.rd rfl rfl rfl (Rd.inc rfl rfl rfl (by omega)) ?_
      refine To.rd rfl rfl rfl (Rd.move rfl rfl) ?_
      refine To.nil ?_
      refine To.thenN ?_
      refine To.sub [(2, .pointer (some ⟨b2, 0, none⟩)), (3, .pointer (some ⟨b3, 0, none⟩)), (5, .slice Ax x.fields.length 8), (6, .slice Ay y.fields.length 8), (16, .int .i64 ((x.fields.length : Nat) : Int)), (17, .int .i64 (((i + 1) : Nat) : Int))] ⟨rfl, rfl, rfl, rfl, rfl, rfl, trivial⟩ ?_
      refine To.only [0, 0, 0, 0, 0, 0] rfl ?_
      refine To.again (x.fields.length - (i + 1)) (by omega) ⟨i + 1, rfl, rfl, rfl, (by omega), (by rw [hI, cmpL_step hx hy, if_pos (by simpa using c30)])⟩
  ·
    refine To.exit ?_
    refine To.thenX ?_
    refine To.thenX ?_
    refine To.blockX ?_
    refine To.thenN ?_
    refine To.seq ?_
    refine To.seq ?_
    refine To.reg ?_
    refine To.rd rfl rfl rfl (Rd.assign rfl rfl) ?_
    refine To.nil ?_
    refine To.thenN ?_
    refine To.block ?_
    have hlen : x.fields.length = y.fields.length := rfl
    have h0 : cmpL x.fields y.fields = 0 := by rw [hI, List.drop_eq_nil_of_le (by omega), List.drop_eq_nil_of_le (by omega)]; rfl
    have hcmp : x.cmp y = cmpL x.args y.args := by rw [val_fields, if_pos h0]
    clear hI hi
    refine To.sub [(2, .pointer (some ⟨b2, 0, none⟩)), (3, .pointer (some ⟨b3, 0, none⟩)), (9, .int .i64 ((0 : Nat) : Int))] ⟨rfl, rfl, rfl, trivial⟩ ?_
    refine To.only [0, 0, 2, 2] rfl ?_
    refine To.loop (fun mz ρ Γ => ∃ (i : Nat), ρ = [(2, .pointer (some ⟨b2, 0, none⟩)), (3, .pointer (some ⟨b3, 0, none⟩)), (9, .int .i64 ((i : Nat) : Int))] ∧ Γ = [box b2 x.cells 37, box b3 y.cells 37, ros encI x.A x.args, ros encI y.A y.args] ∧ mz = x.args.length - i ∧ (i ≤ x.args.length ∧ i ≤ y.args.length) ∧ (cmpL x.args y.args = cmpL (x.args.drop i) (y.args.drop i))) (x.args.length - 0) ⟨0, rfl, rfl, rfl, ⟨Nat.zero_le _, Nat.zero_le _⟩, rfl⟩ ?_
    rintro mz _ _ ⟨i, rfl, rfl, rfl, hi, hI⟩
    refine To.seq ?_
    refine To.seq ?_
    refine To.reg ?_
    refine To.rd rfl rfl rfl (Rd.move rfl rfl) ?_
    refine To.rd rfl rfl rfl (Rd.field rfl rfl fl37_8) ?_
    refine To.rd rfl rfl rfl (Rd.load (i := 0) rfl rfl c35 rfl (box_gives1 rfl)) ?_
    refine To.rd rfl rfl rfl (Rd.len rfl rfl Try.underlying35) ?_
    refine To.rd rfl rfl rfl (Rd.lss rfl rfl rfl) ?_
    refine To.rdP rfl rfl rfl (Rd.move rfl rfl) (fun g39 => ?_) (fun g39 => ?_)
    ·
      refine To.rd rfl rfl rfl (Rd.move rfl rfl) ?_
      refine To.rd rfl rfl rfl (Rd.field rfl rfl fl37_8) ?_
      refine To.rd rfl rfl rfl (Rd.load (i := 1) rfl rfl c35 rfl (box_gives1 rfl)) ?_
      refine To.rd rfl rfl rfl (Rd.len rfl rfl Try.underlying35) ?_
      refine To.rd rfl rfl rfl (Rd.lss rfl rfl rfl) ?_
      refine To.rd rfl rfl rfl (Rd.pickT rfl rfl rfl) ?_
      refine To.nil ?_
      refine To.thenN ?_
      refine To.condP rfl (fun c45 => ?_) (fun c45 => ?_)
      ·
        obtain ⟨u, hx⟩ : ∃ z0, x.args[i]? = some z0 := ⟨x.args[i]'(by omega), List.getElem?_eq_getElem _⟩
        obtain ⟨v, hy⟩ : ∃ z0, y.args[i]? = some z0 := ⟨y.args[i]'(by omega), List.getElem?_eq_getElem _⟩
        refine To.skip ?_
        refine To.thenN ?_
        refine To.seq ?_
        refine To.block ?_
        refine To.seq ?_
        refine To.flow [box b2 x.cells 37, box b3 y.cells 37, ros encI x.A x.args, ros encI y.A y.args] [⟨0, [], 0⟩, ⟨2, [], 0⟩, ⟨5, [], 0⟩, ⟨7, [], 0⟩, ⟨1, [], 1⟩, ⟨3, [], 1⟩, ⟨4, [], 1⟩, ⟨6, [], 1⟩, ⟨8, [], 1⟩, ⟨9, [], 1⟩, ⟨10, [], 3⟩, ⟨11, [], 0⟩] mixed (by kernel_rfl) (oks_cons (oks_at 0 rfl) (oks_cons (oks_at 1 rfl) (oks_cons (oks_at 2 rfl) (oks_cons (oks_at 3 rfl) (oks_nil _))))) ?_
        refine FlowS.free rfl rfl rfl rfl (Rd.field rfl rfl fl37_8) ?_
        refine FlowS.free rfl rfl rfl rfl (Rd.move rfl rfl) ?_
        refine FlowS.free rfl rfl rfl rfl (Rd.field rfl rfl fl37_8) ?_
        refine FlowS.free rfl rfl rfl rfl (Rd.move rfl rfl) ?_
        refine FlowS.rd rfl rfl rfl rfl (Rd.load (i := 0) rfl rfl c35 rfl (box_gives1 rfl)) ?_
        refine FlowS.rd rfl rfl rfl rfl (Rd.indexRos encI_ok (i := 2) (j := i) rfl rfl rfl s35 rfl hx) ?_
        refine FlowS.rd rfl rfl rfl rfl (Rd.load (i := 2) rfl rfl c2 rfl (gives_1 (ros_gives encI_ok hx) rfl)) ?_
        refine FlowS.rd rfl rfl rfl rfl (Rd.load (i := 1) rfl rfl c35 rfl (box_gives1 rfl)) ?_
        refine FlowS.rd rfl rfl rfl rfl (Rd.indexRos encI_ok (i := 3) (j := i) rfl rfl rfl s35 rfl hy) ?_
        refine FlowS.rd rfl rfl rfl rfl (Rd.load (i := 3) rfl rfl c2 rfl (gives_1 (ros_gives encI_ok hy) rfl)) ?_
        refine FlowS.callQ rfl rfl rfl rfl (Ent.fn rfl rfl ca39) (rcmp_fn u v) rfl (oks_nil _) ?_
        refine FlowS.free rfl rfl rfl rfl (Rd.assign rfl rfl) ?_
        refine FlowS.fin ?_
        refine To.as [box b2 x.cells 37, box b3 y.cells 37, ros encI x.A x.args, ros encI y.A y.args] rfl ?_
        refine To.sub [(2, .pointer (some ⟨b2, 0, none⟩)), (3, .pointer (some ⟨b3, 0, none⟩)), (9, .int .i64 ((i : Nat) : Int)), (45, .bool (decide (((i : Nat) : Int) < ((y.args.length : Nat) : Int)))), (10, .int .i64 (cmpI u v))] ⟨rfl, rfl, rfl, rfl, rfl, trivial⟩ ?_
        refine To.thenN ?_
        refine To.seq ?_
        refine To.reg ?_
        refine To.rd rfl rfl rfl (Rd.move rfl rfl) ?_
        refine To.rd rfl rfl rfl (Rd.neq rfl rfl rfl) ?_
        refine To.nil ?_
        refine To.thenN ?_
        refine To.condP rfl (fun c60 => ?_) (fun c60 => ?_)
        ·
          refine To.seq ?_
          refine To.reg ?_
          refine To.rd rfl rfl rfl (Rd.move rfl rfl) ?_
          refine To.rd rfl rfl rfl (Rd.lss rfl rfl rfl) ?_
          refine To.rd rfl rfl rfl (Rd.assign rfl rfl) ?_
          refine To.nil ?_
          refine To.thenN ?_
          refine To.ret ?_
          refine To.blockR ?_
          refine To.thenR ?_
          refine To.thenR ?_
          refine To.blockR ?_
          refine To.thenR ?_
          refine To.end1 (.inl rfl) Try.results21 rfl ?_
          rw [hcmp, hI, cmpL_step hx hy, if_neg (by simpa using c60)]
        ·
          refine To.skip ?_
          refine To.blockN ?_
          refine To.thenN ?_
          refine To.reg ?_
          refine To.rd rfl rfl rfl (Rd.move rfl rfl) ?_
          refine To.rd rfl rfl rfl (Rd.inc rfl rfl rfl (by omega)) ?_
          refine To.rd rfl rfl rfl (Rd.assign rfl rfl) ?_
          refine To.nil ?_
          refine To.thenN ?_
          refine To.sub [(2, .pointer (some ⟨b2, 0, none⟩)), (3, .pointer (some ⟨b3, 0, none⟩)), (9, .int .i64 (((i + 1) : Nat) : Int))] ⟨rfl, rfl, rfl, trivial⟩ ?_
          refine To.only [0, 0, 0, 0] rfl ?_
          refine To.again (x.args.length - (i + 1)) (by omega) ⟨i + 1, rfl, rfl, rfl, (by omega), (by rw [hI, cmpL_step hx hy, if_pos (by simpa using c60)])⟩
      ·
        refine To.exit ?_
        refine To.thenX ?_
        refine To.thenX ?_
        refine To.blockX ?_
        refine To.thenN ?_
        refine To.seq ?_
        refine To.reg ?_
        refine To.rd rfl rfl rfl (Rd.field rfl rfl fl37_8) ?_
        refine To.rd rfl rfl rfl (Rd.load (i := 0) rfl rfl c35 rfl (box_gives1 rfl)) ?_
        refine To.rd rfl rfl rfl (Rd.len rfl rfl Try.underlying35) ?_
        refine To.rd rfl rfl rfl (Rd.field rfl rfl fl37_8) ?_
        refine To.rd rfl rfl rfl (Rd.load (i := 1) rfl rfl c35 rfl (box_gives1 rfl)) ?_
        refine To.rd rfl rfl rfl (Rd.len rfl rfl Try.underlying35) ?_
        refine To.rd rfl rfl rfl (Rd.lss rfl rfl rfl) ?_
        refine To.rd rfl rfl rfl (Rd.assign rfl rfl) ?_
        refine To.nil ?_
        refine To.sub [(2, .pointer (some ⟨b2, 0, none⟩)), (3, .pointer (some ⟨b3, 0, none⟩)), (9, .int .i64 ((i : Nat) : Int)), (45, .bool (decide (((i : Nat) : Int) < ((y.args.length : Nat) : Int)))), (4, .bool (decide (((x.args.length : Nat) : Int) < ((y.args.length : Nat) : Int))))] ⟨rfl, rfl, rfl, rfl, rfl, trivial⟩ ?_
        refine To.thenN ?_
        refine To.ret ?_
        refine To.end1 (.inl rfl) Try.results21 rfl ?_
        rw [hcmp, hI]
        by_cases h1 : x.args.length = i
        · rw [List.drop_eq_nil_of_le (by omega : x.args.length ≤ i)]
          by_cases h2 : y.args.length = i
          · rw [List.drop_eq_nil_of_le (by omega : y.args.length ≤ i)]; simp [cmpL]; omega
          · obtain ⟨v, hv⟩ : ∃ v, y.args[i]? = some v := ⟨y.args[i]'(by omega), List.getElem?_eq_getElem _⟩
            rw [drop_of_get hv]; simp [cmpL]; omega
        · obtain ⟨u, hu⟩ : ∃ u, x.args[i]? = some u := ⟨x.args[i]'(by omega), List.getElem?_eq_getElem _⟩
          rw [drop_of_get hu, List.drop_eq_nil_of_le (by omega : y.args.length ≤ i)]; simp [cmpL]; omega
    ·
      refine To.sk rfl rfl rfl ?_
      refine To.sk rfl rfl rfl ?_
      refine To.sk rfl rfl rfl ?_
      refine To.sk rfl rfl rfl ?_
      refine To.sk rfl rfl rfl ?_
      refine To.rd rfl rfl rfl (Rd.pickF rfl rfl rfl) ?_
      refine To.nil ?_
      refine To.thenN ?_
      refine To.condF rfl ?_
      refine To.exit ?_
      refine To.thenX ?_
      refine To.thenX ?_
      refine To.blockX ?_
      refine To.thenN ?_
      refine To.seq ?_
      refine To.reg ?_
      refine To.rd rfl rfl rfl (Rd.field rfl rfl fl37_8) ?_
      refine To.rd rfl rfl rfl (Rd.load (i := 0) rfl rfl c35 rfl (box_gives1 rfl)) ?_
      refine To.rd rfl rfl rfl (Rd.len rfl rfl Try.underlying35) ?_
      refine To.rd rfl rfl rfl (Rd.field rfl rfl fl37_8) ?_
      refine To.rd rfl rfl rfl (Rd.load (i := 1) rfl rfl c35 rfl (box_gives1 rfl)) ?_
      refine To.rd rfl rfl rfl (Rd.len rfl rfl Try.underlying35) ?_
      refine To.rd rfl rfl rfl (Rd.lss rfl rfl rfl) ?_
      refine To.rd rfl rfl rfl (Rd.assign rfl rfl) ?_
      refine To.nil ?_
      refine To.sub [(2, .pointer (some ⟨b2, 0, none⟩)), (3, .pointer (some ⟨b3, 0, none⟩)), (9, .int .i64 ((i : Nat) : Int)), (45, .bool false), (4, .bool (decide (((x.args.length : Nat) : Int) < ((y.args.length : Nat) : Int))))] ⟨rfl, rfl, rfl, rfl, rfl, trivial⟩ ?_
      refine To.thenN ?_
      refine To.ret ?_
      refine To.end1 (.inl rfl) Try.results21 rfl ?_
      rw [hcmp, hI]
      by_cases h1 : x.args.length = i
      · rw [List.drop_eq_nil_of_le (by omega : x.args.length ≤ i)]
        by_cases h2 : y.args.length = i
        · rw [List.drop_eq_nil_of_le (by omega : y.args.length ≤ i)]; simp [cmpL]; omega
        · obtain ⟨v, hv⟩ : ∃ v, y.args[i]? = some v := ⟨y.args[i]'(by omega), List.getElem?_eq_getElem _⟩
          rw [drop_of_get hv]; simp [cmpL]; omega
      · obtain ⟨u, hu⟩ : ∃ u, x.args[i]? = some u := ⟨x.args[i]'(by omega), List.getElem?_eq_getElem _⟩
        rw [drop_of_get hu, List.drop_eq_nil_of_le (by omega : y.args.length ≤ i)]; simp [cmpL]; omega
end Go.Proofs.Ytneimfacccgaeaa
