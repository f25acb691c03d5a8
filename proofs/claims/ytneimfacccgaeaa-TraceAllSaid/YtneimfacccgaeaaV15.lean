/- The example of the chapter. Own text (walks printed by sx.py). -/
import Derived.Test.YtneimfacccgaeaaV14
namespace Go.Proofs.Ytneimfacccgaeaa
open Go.RowKit Go.Flow Go.Mem Go.Sep
theorem normal_fn (Al : Option Addr) (cl : Nat) (l : List Ev) (hl : l.length ≤ 1000000) (ha : ∀ e ∈ l, e.args.length ≤ 1000000000000) :
    Does Try.prog 14 [.slice Al l.length cl] [ros Ev.cells Al l, argsS (l.map Ev.ar)] (fun v Γ' => ∃ A q U M, v = .slice A U.length q ∧ Γ' = [rows St.cells 22 1 A q U, all (U.map St.ch), argsS M] ∧ valsT U = normV l ∧ (∀ s ∈ U, ∀ e ∈ s.l, e.ar ∈ M) ∧ (∀ s ∈ U, ∀ e ∈ s.l, e.args.length ≤ 1000000000000)) := normal_fn0 sort_fn Al cl l hl ha
def ex0 : Ev := ⟨1, 0, 8, 1, 0, 0, 0, 0, [], none, 0⟩
def ex1 : Ev := ⟨1, 2, 3, 0, 0, 0, 0, 0, [], none, 0⟩
def ex2 : Ev := ⟨2, 1, 5, 0, 0, 0, 0, 0, [], none, 0⟩
def exL : List Ev := [ex0, ex1, ex2]
theorem ex_norm : (normV exL).map List.length = [2, 1] := by decide +kernel
theorem ex_count : cntV exL = 3 := by decide +kernel
theorem ex_count_fn (A : Option Addr) : Does Try.prog 16 [.slice A exL.length 3] [ros Ev.cells A exL] (fun v _ => v = .tuple #[.int .u64 3, .bool true]) :=
  (count_fn A 3 exL (by decide) (by decide)).mono fun v Γ' h => by rw [h, if_pos (by decide), ex_count]; rfl
theorem ex_steps {U : List St} (h : valsT U = normV exL) : ∃ s0 s1, U = [s0, s1] ∧ s0.l.length = 2 ∧ s1.l.length = 1 := by
  have h1 : (valsT U).map List.length = [2, 1] := by rw [h]; exact ex_norm
  clear h
  cases U with
  | nil => simp [valsT] at h1
  | cons s0 U => cases U with
    | nil => simp [valsT] at h1
    | cons s1 U => cases U with
      | nil => simp [valsT] at h1; exact ⟨s0, s1, rfl, h1.1, h1.2⟩
      | cons s2 U => simp [valsT] at h1
theorem ex_args : ∀ e ∈ exL, e.args.length ≤ 1000000000000 := by decide
set_option maxHeartbeats 2000000 in
set_option maxRecDepth 100000 in
theorem awake_fn  :
    Does Try.prog 11 [] [] (fun v _ => v = .bool true) := by
  refine Does.enter Try.func11 rfl Try.ntmps11 rfl (fun w0 => ?_)
  refine To.seq ?_
  refine To.reg ?_
  refine To.rd rfl rfl rfl (Rd.assign rfl rfl) ?_
  refine To.nil ?_
  refine To.thenN ?_
  refine To.seq ?_
  refine To.reg ?_
  refine To.rd rfl rfl rfl (Rd.build (vs := [(0, .int .i64 1), (2, .int .u8 8), (3, .int .i64 1)]) (cells := [.int .i64 1, .int .i64 0, .int .u8 8, .int .i64 1, .int .i64 0, .int .i64 0, .int .i64 0, .int .i64 0, .slice none 0 0]) rfl rfl rfl (by kernel_rfl)) ?_
  refine To.rd rfl rfl rfl (Rd.build (vs := [(0, .int .i64 1), (1, .int .i64 2), (2, .int .u8 3)]) (cells := [.int .i64 1, .int .i64 2, .int .u8 3, .int .i64 0, .int .i64 0, .int .i64 0, .int .i64 0, .int .i64 0, .slice none 0 0]) rfl rfl rfl (by kernel_rfl)) ?_
  refine To.rd rfl rfl rfl (Rd.build (vs := [(0, .int .i64 2), (1, .int .i64 1), (2, .int .u8 5)]) (cells := [.int .i64 2, .int .i64 1, .int .u8 5, .int .i64 0, .int .i64 0, .int .i64 0, .int .i64 0, .int .i64 0, .slice none 0 0]) rfl rfl rfl (by kernel_rfl)) ?_
  refine To.mk rfl rfl rfl (Mk.sliceN (us := [.int .i64 1, .int .i64 0, .int .u8 8, .int .i64 1, .int .i64 0, .int .i64 0, .int .i64 0, .int .i64 0, .slice none 0 0, .int .i64 1, .int .i64 2, .int .u8 3, .int .i64 0, .int .i64 0, .int .i64 0, .int .i64 0, .int .i64 0, .slice none 0 0, .int .i64 2, .int .i64 1, .int .u8 5, .int .i64 0, .int .i64 0, .int .i64 0, .int .i64 0, .int .i64 0, .slice none 0 0]) rfl s22 rfl rfl rfl rfl rfl rfl) ?_
  rintro _ _ ⟨b8, rfl, rfl⟩
  refine To.as [row 37 9 (some ⟨b8, 0, none⟩) 3 3 [.int .i64 1, .int .i64 0, .int .u8 8, .int .i64 1, .int .i64 0, .int .i64 0, .int .i64 0, .int .i64 0, .slice none 0 0, .int .i64 1, .int .i64 2, .int .u8 3, .int .i64 0, .int .i64 0, .int .i64 0, .int .i64 0, .int .i64 0, .slice none 0 0, .int .i64 2, .int .i64 1, .int .u8 5, .int .i64 0, .int .i64 0, .int .i64 0, .int .i64 0, .int .i64 0, .slice none 0 0]] rfl ?_
  refine To.rd rfl rfl rfl (Rd.assign rfl rfl) ?_
  refine To.nil ?_
  refine To.thenN ?_
  refine To.seq ?_
  refine To.only [0] rfl ?_
  refine To.as [rows Ev.cells 37 9 (some ⟨b8, 0, none⟩) 3 exL] rfl ?_
  refine To.only [0] rfl ?_
  refine To.layRow ?_
  refine To.free (c := argsS (exL.map Ev.ar)) rfl rfl (fun w p hp => ?_) ?_
  · simp [exL, ex0, ex1, ex2, Ev.ar] at hp
    rw [hp]; exact .inl rfl
  refine To.reg ?_
  refine To.rd rfl rfl rfl (Rd.move rfl rfl) ?_
  refine To.dup 1 rfl rfl ?_
  refine To.dup 1 rfl rfl ?_
  refine To.call [1, 0] rfl rfl rfl (Ent.fn rfl rfl ca14) rfl (normal_fn (some ⟨b8, 0, none⟩) 3 exL (by decide) ex_args) ?_
  rintro _ _ ⟨An, qn, U, M, rfl, rfl, hU, hM, hA⟩
  refine To.as [rows St.cells 22 1 An qn U, all (U.map St.ch), argsS M, argsS (exL.map Ev.ar), ros Ev.cells (some ⟨b8, 0, none⟩) exL] rfl ?_
  refine To.rd rfl rfl rfl (Rd.assign rfl rfl) ?_
  refine To.nil ?_
  refine To.thenN ?_
  refine To.seq ?_
  refine To.reg ?_
  refine To.rd rfl rfl rfl (Rd.move rfl rfl) ?_
  refine To.callV rfl rfl rfl (Ent.fn rfl rfl ca16) (ex_count_fn (some ⟨b8, 0, none⟩)) rfl (oks_cons (oks_at 4 rfl) (oks_nil _)) ?_
  refine To.rd rfl rfl rfl (Rd.move rfl rfl) ?_
  refine To.rd rfl rfl rfl (Rd.extract rfl rfl rfl) ?_
  refine To.rd rfl rfl rfl (Rd.extract rfl rfl rfl) ?_
  refine To.rd rfl rfl rfl (Rd.assign rfl rfl) ?_
  refine To.rd rfl rfl rfl (Rd.assign rfl rfl) ?_
  refine To.nil ?_
  refine To.thenN ?_
  refine To.seq ?_
  obtain ⟨s0, s1, hU2, hl0, hl1⟩ := ex_steps hU
  have hu : U.length = 2 := by rw [hU2]; rfl
  have hu0 : U[0]? = some s0 := by rw [hU2]; rfl
  have hu1 : U[1]? = some s1 := by rw [hU2]; rfl
  have hx0 : exL[0]? = some ex0 := rfl
  have hx1 : exL[1]? = some ex1 := rfl
  have hx2 : exL[2]? = some ex2 := rfl
  refine To.flow [rows St.cells 22 1 An qn U, all (U.map St.ch), argsS M, argsS (exL.map Ev.ar), ros Ev.cells (some ⟨b8, 0, none⟩) exL] [⟨0, [], 0⟩, ⟨1, [], 0⟩, ⟨2, [], 0⟩, ⟨3, [], 0⟩, ⟨4, [], 0⟩, ⟨5, [], 1⟩, ⟨6, [], 1⟩, ⟨7, [], 0⟩, ⟨8, [], 0⟩, ⟨9, [], 0⟩, ⟨10, [], 0⟩, ⟨11, [], 0⟩, ⟨12, [], 1⟩, ⟨13, [], 1⟩, ⟨14, [], 0⟩, ⟨15, [], 0⟩, ⟨16, [], 0⟩, ⟨17, [], 0⟩, ⟨18, [], 0⟩, ⟨19, [], 0⟩, ⟨20, [], 0⟩, ⟨21, [], 0⟩, ⟨22, [], 0⟩, ⟨23, [], 0⟩, ⟨24, [], 0⟩, ⟨25, [], 0⟩, ⟨28, [], 0⟩, ⟨26, [], 1⟩, ⟨27, [], 1⟩, ⟨29, [], 1⟩, ⟨30, [], 1⟩, ⟨31, [], 3⟩, ⟨32, [], 0⟩, ⟨33, [], 0⟩, ⟨34, [], 0⟩, ⟨37, [], 0⟩, ⟨35, [], 1⟩, ⟨36, [], 1⟩, ⟨38, [], 1⟩, ⟨39, [], 1⟩, ⟨40, [], 3⟩, ⟨41, [], 0⟩, ⟨42, [], 0⟩, ⟨43, [], 0⟩] mixed (by kernel_rfl) (oks_cons (oks_at 0 rfl) (oks_cons (oks_at 1 rfl) (oks_cons (oks_at 2 rfl) (oks_cons (oks_at 3 rfl) (oks_cons (oks_at 4 rfl) (oks_nil _)))))) ?_
  refine FlowS.free rfl rfl rfl rfl (Rd.move rfl rfl) ?_
  refine FlowS.free rfl rfl rfl rfl (Rd.len rfl rfl Try.underlying26) ?_
  refine FlowS.free rfl rfl rfl rfl (Rd.eql rfl rfl rfl) ?_
  refine FlowS.rdP rfl rfl rfl rfl (Rd.move rfl rfl) (fun g19 => ?_) (fun g19 => ?_)
  ·
    refine FlowS.free rfl rfl rfl rfl (Rd.move rfl rfl) ?_
    refine FlowS.rd rfl rfl rfl rfl (Rd.indexRows (i := 0) (j := 0) rfl rfl rfl s26 rfl hu0) ?_
    refine FlowS.rd rfl rfl rfl rfl (Rd.load (i := 0) rfl rfl c22 rfl (gives_1 (rows_gives encS hu0) rfl)) ?_
    refine FlowS.free rfl rfl rfl rfl (Rd.len rfl rfl Try.underlying22) ?_
    refine FlowS.free rfl rfl rfl rfl (Rd.eql rfl rfl rfl) ?_
    refine FlowS.free rfl rfl rfl rfl (Rd.pickT rfl rfl rfl) ?_
    refine FlowS.rdP rfl rfl rfl rfl (Rd.move rfl rfl) (fun g26 => ?_) (fun g26 => ?_)
    ·
      refine FlowS.free rfl rfl rfl rfl (Rd.move rfl rfl) ?_
      refine FlowS.rd rfl rfl rfl rfl (Rd.indexRows (i := 0) (j := 1) rfl rfl rfl s26 rfl hu1) ?_
      refine FlowS.rd rfl rfl rfl rfl (Rd.load (i := 0) rfl rfl c22 rfl (gives_1 (rows_gives encS hu1) rfl)) ?_
      refine FlowS.free rfl rfl rfl rfl (Rd.len rfl rfl Try.underlying22) ?_
      refine FlowS.free rfl rfl rfl rfl (Rd.eql rfl rfl rfl) ?_
      refine FlowS.free rfl rfl rfl rfl (Rd.pickT rfl rfl rfl) ?_
      refine FlowS.rdP rfl rfl rfl rfl (Rd.move rfl rfl) (fun g33 => ?_) (fun g33 => ?_)
      ·
        refine FlowS.free rfl rfl rfl rfl (Rd.move rfl rfl) ?_
        refine FlowS.free rfl rfl rfl rfl (Rd.eql rfl rfl rfl) ?_
        refine FlowS.free rfl rfl rfl rfl (Rd.pickT rfl rfl rfl) ?_
        refine FlowS.free rfl rfl rfl rfl (Rd.move rfl rfl) ?_
        refine FlowS.free rfl rfl rfl rfl (Rd.move rfl rfl) ?_
        refine FlowS.free rfl rfl rfl rfl (Rd.pickT rfl rfl rfl) ?_
        refine FlowS.free rfl rfl rfl rfl (Rd.move rfl rfl) ?_
        refine FlowS.free rfl rfl rfl rfl (Rd.move rfl rfl) ?_
        refine FlowS.free rfl rfl rfl rfl (Rd.move rfl rfl) ?_
        refine FlowS.rd rfl rfl rfl rfl (Rd.indexRos encE (i := 4) (j := 0) rfl rfl rfl s22 rfl hx0) ?_
        refine FlowS.rd rfl rfl rfl rfl (Rd.loadS (i := 4) rfl rfl r37 rfl (ros_gives encE hx0) (encE.len _)) ?_
        refine FlowS.rd rfl rfl rfl rfl (Rd.indexRos encE (i := 4) (j := 1) rfl rfl rfl s22 rfl hx1) ?_
        refine FlowS.rd rfl rfl rfl rfl (Rd.loadS (i := 4) rfl rfl r37 rfl (ros_gives encE hx1) (encE.len _)) ?_
        refine FlowS.callQ rfl rfl rfl rfl (Ent.fn rfl rfl ca22) (indep_fn ex0 ex1) rfl (oks_nil _) ?_
        refine FlowS.free rfl rfl rfl rfl (Rd.pickT rfl rfl rfl) ?_
        refine FlowS.free rfl rfl rfl rfl (Rd.move rfl rfl) ?_
        refine FlowS.free rfl rfl rfl rfl (Rd.move rfl rfl) ?_
        refine FlowS.free rfl rfl rfl rfl (Rd.move rfl rfl) ?_
        refine FlowS.rd rfl rfl rfl rfl (Rd.indexRos encE (i := 4) (j := 0) rfl rfl rfl s22 rfl hx0) ?_
        refine FlowS.rd rfl rfl rfl rfl (Rd.loadS (i := 4) rfl rfl r37 rfl (ros_gives encE hx0) (encE.len _)) ?_
        refine FlowS.rd rfl rfl rfl rfl (Rd.indexRos encE (i := 4) (j := 2) rfl rfl rfl s22 rfl hx2) ?_
        refine FlowS.rd rfl rfl rfl rfl (Rd.loadS (i := 4) rfl rfl r37 rfl (ros_gives encE hx2) (encE.len _)) ?_
        refine FlowS.callQ rfl rfl rfl rfl (Ent.fn rfl rfl ca22) (indep_fn ex0 ex2) rfl (oks_nil _) ?_
        refine FlowS.free rfl rfl rfl rfl (Rd.not rfl rfl) ?_
        refine FlowS.free rfl rfl rfl rfl (Rd.pickT rfl rfl rfl) ?_
        refine FlowS.free rfl rfl rfl rfl (Rd.assign rfl rfl) ?_
        refine FlowS.fin ?_
        refine To.as [rows St.cells 22 1 An qn U, all (U.map St.ch), argsS M, argsS (exL.map Ev.ar), ros Ev.cells (some ⟨b8, 0, none⟩) exL] rfl ?_
        refine To.sub [(0, .bool true), (1, .slice (some ⟨b8, 0, none⟩) exL.length 3), (2, .slice An U.length qn), (3, .int .u64 3), (4, .bool true)] ⟨rfl, rfl, rfl, rfl, rfl, trivial⟩ ?_
        refine To.thenN ?_
        refine To.ret ?_
        refine To.end1 (.inl rfl) Try.results11 rfl ?_
        rfl
      ·
        exact absurd (by omega) g33
    ·
      exact absurd (by omega) g26
  ·
    exact absurd (by omega) g19
end Go.Proofs.Ytneimfacccgaeaa
