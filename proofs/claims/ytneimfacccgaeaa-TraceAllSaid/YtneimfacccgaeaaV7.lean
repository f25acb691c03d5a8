/- trace.Project. Own text (walks printed by sx.py). -/
import Derived.Test.YtneimfacccgaeaaV6
namespace Go.Proofs.Ytneimfacccgaeaa
open Go.RowKit Go.Flow Go.Mem Go.Sep
set_option maxHeartbeats 2000000 in
set_option maxRecDepth 100000 in
theorem project_fn (Al : Option Addr) (cl : Nat) (l : List Ev) (c : Int) (hl : l.length ≤ 1000000) (ha : ∀ e ∈ l, e.args.length ≤ 1000000000000) :
    Does Try.prog 26 [.slice Al l.length cl, .int .i64 c] [ros Ev.cells Al l, argsS (l.map Ev.ar)] (fun v Γ' => ∃ A q O, v = .slice A O.length q ∧ Γ' = [rows Ev.cells 37 9 A q O, argsS (O.map Ev.ar)] ∧ O.map Ev.val = (l.filter fun e => decide (e.c = c)).map Ev.val) := by
  refine Does.enter Try.func26 rfl Try.ntmps26 rfl (fun w0 => ?_)
  refine To.seq ?_
  refine To.reg ?_
  refine To.rd rfl rfl rfl (Rd.assign rfl rfl) ?_
  refine To.nil ?_
  refine To.thenN ?_
  refine To.seq ?_
  refine To.reg ?_
  refine To.rd rfl rfl rfl (Rd.assign rfl rfl) ?_
  refine To.nil ?_
  refine To.thenN ?_
  refine To.seq ?_
  refine To.seq ?_
  refine To.nilRow Ev.cells 37 9 ?_
  refine To.free (c := argsS (([] : List Ev).map Ev.ar)) rfl rfl (fun w p hp => by simp at hp) ?_
  refine To.reg ?_
  refine To.rd rfl rfl rfl (Rd.move rfl rfl) ?_
  refine To.rd rfl rfl rfl (Rd.len rfl rfl Try.underlying22) ?_
  refine To.rd rfl rfl rfl (Rd.move rfl rfl) ?_
  refine To.nil ?_
  refine To.thenN ?_
  refine To.block ?_
  refine To.sub [(1, .int .i64 c), (5, .slice none ([] : List Ev).length 0), (8, .slice Al l.length cl), (9, .int .i64 ((l.length : Nat) : Int)), (10, .int .i64 ((0 : Nat) : Int))] ⟨rfl, rfl, rfl, rfl, rfl, trivial⟩ ?_
  refine To.only [1, 0, 0, 0] rfl ?_
  refine To.loop (fun mz ρ Γ => ∃ (i : Nat) (O : List Ev) (A5 : Option Addr) (q5 : Nat), ρ = [(1, .int .i64 c), (5, .slice A5 O.length q5), (8, .slice Al l.length cl), (9, .int .i64 ((l.length : Nat) : Int)), (10, .int .i64 ((i : Nat) : Int))] ∧ Γ = [rows Ev.cells 37 9 A5 q5 O, argsS (O.map Ev.ar), ros Ev.cells Al l, argsS (l.map Ev.ar)] ∧ mz = l.length - i ∧ (i ≤ l.length) ∧ (O.map Ev.val = ((l.take i).filter fun e => decide (e.c = c)).map Ev.val)) (l.length - 0) ⟨0, ([] : List Ev), none, 0, rfl, rfl, rfl, (Nat.zero_le _), rfl⟩ ?_
  rintro mz _ _ ⟨i, O, A5, q5, rfl, rfl, rfl, hi, hO⟩
  have hOl : O.length ≤ i := by
    have h := congrArg List.length hO
    rw [List.length_map, List.length_map] at h
    rw [h]; exact Nat.le_trans (List.length_filter_le _ _) (List.length_take_le _ _)
  refine To.seq ?_
  refine To.reg ?_
  refine To.rd rfl rfl rfl (Rd.lss rfl rfl rfl) ?_
  refine To.nil ?_
  refine To.thenN ?_
  refine To.seq ?_
  refine To.condP rfl (fun c11 => ?_) (fun c11 => ?_)
  ·
    obtain ⟨y, hy⟩ : ∃ z0, l[i]? = some z0 := ⟨l[i]'(by omega), List.getElem?_eq_getElem _⟩
    refine To.skip ?_
    refine To.thenN ?_
    refine To.seq ?_
    refine To.block ?_
    refine To.seq ?_
    refine To.reg ?_
    refine To.rd rfl rfl rfl (Rd.indexRos encE (i := 2) (j := i) rfl rfl rfl s22 rfl hy) ?_
    refine To.rd rfl rfl rfl (Rd.loadS (i := 2) rfl rfl r37 rfl (ros_gives encE hy) (encE.len _)) ?_
    refine To.alloc rfl rfl rfl rfl z37 (fun b7 => ?_)
    refine To.up rfl rfl (Up.storeS (i := 0) rfl rfl rfl r37 rfl rfl rfl (box_takesAll rfl)) ?_
    refine To.nil ?_
    refine To.thenN ?_
    refine To.seq ?_
    refine To.reg ?_
    refine To.rd rfl rfl rfl (Rd.field rfl rfl fl37_1) ?_
    refine To.rd rfl rfl rfl (Rd.load (i := 0) rfl rfl c3 rfl (box_gives1 rfl)) ?_
    refine To.rd rfl rfl rfl (Rd.move rfl rfl) ?_
    refine To.rd rfl rfl rfl (Rd.eql rfl rfl rfl) ?_
    refine To.nil ?_
    refine To.thenN ?_
    refine To.condP rfl (fun c17 => ?_) (fun c17 => ?_)
    ·
      refine To.reg ?_
      refine To.rd rfl rfl rfl (Rd.move rfl rfl) ?_
      refine To.rd rfl rfl rfl (Rd.loadS (i := 0) rfl rfl r37 rfl box_whole rfl) ?_
      refine To.callQ rfl rfl rfl (Ent.fn rfl rfl ca34) (clone_fn y (ha y (List.mem_of_getElem? hy))) rfl (oks_cons (oks_S 4 rfl (mem_at hy Ev.ar)) (oks_nil _)) ?_
      rintro _ _ ⟨A1, q1, rfl, rfl⟩
      refine ⟨rfl, ?_⟩
      refine To.as [rows encI 2 1 A1 q1 y.args, box b7 [.int .i64 y.t, .int .i64 y.c, .int .u8 y.k, .int .i64 y.p, .int .i64 y.n, .int .i64 y.cp, .int .i64 y.h, .int .i64 y.d, .slice y.A y.args.length y.cap] 37, rows Ev.cells 37 9 A5 q5 O, argsS (O.map Ev.ar), ros Ev.cells Al l, argsS (l.map Ev.ar)] rfl ?_
      refine To.mk rfl rfl rfl (Mk.sliceN (us := [.int .i64 (({ y with A := A1, cap := q1 } : Ev).t), .int .i64 (({ y with A := A1, cap := q1 } : Ev).c), .int .u8 (({ y with A := A1, cap := q1 } : Ev).k), .int .i64 (({ y with A := A1, cap := q1 } : Ev).p), .int .i64 (({ y with A := A1, cap := q1 } : Ev).n), .int .i64 (({ y with A := A1, cap := q1 } : Ev).cp), .int .i64 (({ y with A := A1, cap := q1 } : Ev).h), .int .i64 (({ y with A := A1, cap := q1 } : Ev).d), .slice (({ y with A := A1, cap := q1 } : Ev).A) (({ y with A := A1, cap := q1 } : Ev).args.length) (({ y with A := A1, cap := q1 } : Ev).cap)]) rfl s22 rfl rfl rfl rfl rfl rfl) ?_
      rintro _ _ ⟨b21, rfl, rfl⟩
      refine To.as [row 37 9 (some ⟨b21, 0, none⟩) 1 1 [.int .i64 (({ y with A := A1, cap := q1 } : Ev).t), .int .i64 (({ y with A := A1, cap := q1 } : Ev).c), .int .u8 (({ y with A := A1, cap := q1 } : Ev).k), .int .i64 (({ y with A := A1, cap := q1 } : Ev).p), .int .i64 (({ y with A := A1, cap := q1 } : Ev).n), .int .i64 (({ y with A := A1, cap := q1 } : Ev).cp), .int .i64 (({ y with A := A1, cap := q1 } : Ev).h), .int .i64 (({ y with A := A1, cap := q1 } : Ev).d), .slice (({ y with A := A1, cap := q1 } : Ev).A) (({ y with A := A1, cap := q1 } : Ev).args.length) (({ y with A := A1, cap := q1 } : Ev).cap)], rows encI 2 1 A1 q1 y.args, box b7 [.int .i64 y.t, .int .i64 y.c, .int .u8 y.k, .int .i64 y.p, .int .i64 y.n, .int .i64 y.cp, .int .i64 y.h, .int .i64 y.d, .slice y.A y.args.length y.cap] 37, rows Ev.cells 37 9 A5 q5 O, argsS (O.map Ev.ar), ros Ev.cells Al l, argsS (l.map Ev.ar)] rfl ?_
      refine To.ge rfl rfl rfl (Ge.append1 encE (i := 3) (j := 0) (el := ({ y with A := A1, cap := q1 } : Ev)) rfl s22 rfl rfl rfl rfl rfl (by first | omega | (simp only [List.length_append, List.length_cons, List.length_nil]; omega)) (by first | omega | (simp only [List.length_append, List.length_cons, List.length_nil]; omega))) ?_
      rintro _ _ ⟨A22, q22, rfl, rfl⟩
      refine To.as [row 37 9 (some ⟨b21, 0, none⟩) 1 1 [.int .i64 (({ y with A := A1, cap := q1 } : Ev).t), .int .i64 (({ y with A := A1, cap := q1 } : Ev).c), .int .u8 (({ y with A := A1, cap := q1 } : Ev).k), .int .i64 (({ y with A := A1, cap := q1 } : Ev).p), .int .i64 (({ y with A := A1, cap := q1 } : Ev).n), .int .i64 (({ y with A := A1, cap := q1 } : Ev).cp), .int .i64 (({ y with A := A1, cap := q1 } : Ev).h), .int .i64 (({ y with A := A1, cap := q1 } : Ev).d), .slice (({ y with A := A1, cap := q1 } : Ev).A) (({ y with A := A1, cap := q1 } : Ev).args.length) (({ y with A := A1, cap := q1 } : Ev).cap)], rows encI 2 1 A1 q1 y.args, box b7 [.int .i64 y.t, .int .i64 y.c, .int .u8 y.k, .int .i64 y.p, .int .i64 y.n, .int .i64 y.cp, .int .i64 y.h, .int .i64 y.d, .slice y.A y.args.length y.cap] 37, rows Ev.cells 37 9 A22 q22 (O ++ [({ y with A := A1, cap := q1 } : Ev)]), argsS (O.map Ev.ar), ros Ev.cells Al l, argsS (l.map Ev.ar)] rfl ?_
      refine To.rd rfl rfl rfl (Rd.assign rfl rfl) ?_
      refine To.nil ?_
      refine To.blockN ?_
      refine To.thenN ?_
      refine To.reg ?_
      refine To.rd rfl rfl rfl (Rd.inc rfl rfl rfl (by omega)) ?_
      refine To.rd rfl rfl rfl (Rd.move rfl rfl) ?_
      refine To.nil ?_
      refine To.thenN ?_
      refine To.only [1, 0, 0, 0, 0, 0, 0] rfl ?_
      refine To.layRow ?_
      refine To.derive (argsS (O.map Ev.ar ++ [(A1, y.args)])) rfl (argsS_add 0 4 rfl rfl).1 (argsS_add 0 4 rfl rfl).2 ?_
      rw [show O.map Ev.ar ++ [(A1, y.args)] = (O ++ [({ y with A := A1, cap := q1 } : Ev)]).map Ev.ar by rw [List.map_append]; rfl]
      refine To.sub [(1, .int .i64 c), (5, .slice A22 (O ++ [({ y with A := A1, cap := q1 } : Ev)]).length q22), (8, .slice Al l.length cl), (9, .int .i64 ((l.length : Nat) : Int)), (10, .int .i64 (((i + 1) : Nat) : Int))] ⟨rfl, rfl, rfl, rfl, rfl, trivial⟩ ?_
      refine To.only [4, 0, 4, 4] rfl ?_
      refine To.again (l.length - (i + 1)) (by omega) ⟨i + 1, O ++ [({ y with A := A1, cap := q1 } : Ev)], A22, q22, rfl, rfl, rfl, (by omega), (by rw [filter_step hy, if_pos c17, List.map_append, List.map_append, hO]; rfl)⟩
    ·
      refine To.skip ?_
      refine To.blockN ?_
      refine To.thenN ?_
      refine To.reg ?_
      refine To.rd rfl rfl rfl (Rd.inc rfl rfl rfl (by omega)) ?_
      refine To.rd rfl rfl rfl (Rd.move rfl rfl) ?_
      refine To.nil ?_
      refine To.thenN ?_
      refine To.sub [(1, .int .i64 c), (5, .slice A5 O.length q5), (8, .slice Al l.length cl), (9, .int .i64 ((l.length : Nat) : Int)), (10, .int .i64 (((i + 1) : Nat) : Int))] ⟨rfl, rfl, rfl, rfl, rfl, trivial⟩ ?_
      refine To.only [1, 1, 1, 1] rfl ?_
      refine To.again (l.length - (i + 1)) (by omega) ⟨i + 1, O, A5, q5, rfl, rfl, rfl, (by omega), (by rw [filter_step hy, if_neg c17, List.append_nil]; exact hO)⟩
  ·
    refine To.exit ?_
    refine To.thenX ?_
    refine To.thenX ?_
    refine To.blockX ?_
    refine To.thenN ?_
    refine To.seq ?_
    refine To.reg ?_
    refine To.rd rfl rfl rfl (Rd.move rfl rfl) ?_
    refine To.rd rfl rfl rfl (Rd.assign rfl rfl) ?_
    refine To.nil ?_
    refine To.thenN ?_
    refine To.ret ?_
    refine To.only [0, 0] rfl ?_
    refine To.end1 (.inl rfl) Try.results26 rfl ?_
    obtain rfl : i = l.length := by omega
    rw [List.take_length] at hO
    exact ⟨_, _, O, rfl, rfl, hO⟩
end Go.Proofs.Ytneimfacccgaeaa
