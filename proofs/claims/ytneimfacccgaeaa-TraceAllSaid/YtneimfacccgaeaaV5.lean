/- few and Project. Own text (walks printed by sx.py). -/
import Derived.Test.YtneimfacccgaeaaV4
namespace Go.Proofs.Ytneimfacccgaeaa
open Go.RowKit Go.Flow Go.Mem Go.Sep
/-- An event with at most five arguments. -/
def Ev.cut (e : Ev) : Ev := { e with args := e.args.take 5 }
theorem argsS_add {Γ : List Chunk} {A : Option Addr} {xs : List Int} {l : List (Option Addr × List Int)} (i j : Nat) (hi : Γ[i]? = some (ros encI A xs)) (hj : Γ[j]? = some (argsS l)) : (∀ g ∈ (argsS (l ++ [(A, xs)])).reads, g ∈ reads Γ) ∧ (∀ w, oks Γ w → (argsS (l ++ [(A, xs)])).holds w) := by
  refine ⟨fun g hg => ?_, fun w hw p hp => ?_⟩
  · obtain ⟨p, hp, hg⟩ := List.mem_flatMap.1 hg
    rcases List.mem_append.1 hp with h | h
    · exact reads_at j hj (List.mem_flatMap.2 ⟨p, h, hg⟩)
    · rw [List.mem_singleton.1 h] at hg; exact reads_at i hi hg
  · rcases List.mem_append.1 hp with h | h
    · exact hw _ (List.mem_of_getElem? hj) p h
    · rw [List.mem_singleton.1 h]; exact hw _ (List.mem_of_getElem? hi)
theorem argsS_sub {Γ : List Chunk} {l m : List (Option Addr × List Int)} (j : Nat) (hj : Γ[j]? = some (argsS l)) (h : ∀ p ∈ m, p ∈ l) : (∀ g ∈ (argsS m).reads, g ∈ reads Γ) ∧ (∀ w, oks Γ w → (argsS m).holds w) := by
  refine ⟨fun g hg => ?_, fun w hw p hp => hw _ (List.mem_of_getElem? hj) p (h p hp)⟩
  obtain ⟨p, hp, hg⟩ := List.mem_flatMap.1 hg
  exact reads_at j hj (List.mem_flatMap.2 ⟨p, h p hp, hg⟩)
set_option maxHeartbeats 2000000 in
set_option maxRecDepth 100000 in
theorem few_fn (Al : Option Addr) (cl : Nat) (l : List Ev) (n : Nat) (hn : n ≤ 1000) (hc : l.length ≤ cl) (ha : ∀ e ∈ l, e.args.length ≤ e.cap) :
    Does Try.prog 12 [.slice Al l.length cl, .int .i64 ((n : Nat) : Int)] [ros Ev.cells Al l] (fun v Γ' => ∃ A q, v = .slice A ((l.take n).map Ev.cut).length q ∧ Γ' = [rows Ev.cells 37 9 A q ((l.take n).map Ev.cut)]) := by
  have hT : (l.take n).length ≤ n := List.length_take_le _ _
  have hT2 : (l.take n).length ≤ l.length := by rw [List.length_take]; exact Nat.min_le_right _ _
  refine Does.enter Try.func12 rfl Try.ntmps12 rfl (fun w0 => ?_)
  refine To.seq ?_
  refine To.reg ?_
  refine To.rd rfl rfl rfl (Rd.assign rfl rfl) ?_
  refine To.nil ?_
  refine To.thenN ?_
  refine To.seq ?_
  refine To.reg ?_
  refine To.rd rfl rfl rfl (Rd.assign rfl rfl) ?_
  refine To.nil ?_
  refine To.thenN ?_
  refine To.seq ?_
  refine To.seq ?_
  refine To.nilRow Ev.cells 37 9 ?_
  refine To.take n 1 rfl ?_
  refine To.reg ?_
  refine To.rd rfl rfl rfl (Rd.move rfl rfl) ?_
  refine To.rd rfl rfl rfl (Rd.move rfl rfl) ?_
  refine To.rd rfl rfl rfl (Rd.len rfl rfl Try.underlying22) ?_
  refine To.rd rfl rfl rfl (Rd.move rfl rfl) ?_
  refine To.rd rfl rfl rfl (Rd.minTake (l := l) (n := n) rfl rfl rfl) ?_
  refine To.rd rfl rfl rfl (Rd.sliceHi (hi := ((l.take n).length)) rfl s22 rfl rfl (by omega)) ?_
  refine To.rd rfl rfl rfl (Rd.len rfl rfl Try.underlying22) ?_
  refine To.rd rfl rfl rfl (Rd.move rfl rfl) ?_
  refine To.nil ?_
  refine To.thenN ?_
  refine To.block ?_
  refine To.sub [(5, .slice none ([] : List Ev).length 0), (13, .slice Al ((l.take n).length) cl), (14, .int .i64 (((l.take n).length : Nat) : Int)), (15, .int .i64 ((0 : Nat) : Int))] ⟨rfl, rfl, rfl, rfl, trivial⟩ ?_
  refine To.only [1, 0] rfl ?_
  refine To.loop (fun mz ρ Γ => ∃ (i : Nat) (O : List Ev) (A5 : Option Addr) (q5 : Nat), ρ = [(5, .slice A5 O.length q5), (13, .slice Al ((l.take n).length) cl), (14, .int .i64 (((l.take n).length : Nat) : Int)), (15, .int .i64 ((i : Nat) : Int))] ∧ Γ = [rows Ev.cells 37 9 A5 q5 O, ros Ev.cells Al (l.take n)] ∧ mz = (l.take n).length - i ∧ (i ≤ (l.take n).length) ∧ (O = ((l.take n).take i).map Ev.cut)) ((l.take n).length - 0) ⟨0, ([] : List Ev), none, 0, rfl, rfl, rfl, (Nat.zero_le _), rfl⟩ ?_
  rintro mz _ _ ⟨i, O, A5, q5, rfl, rfl, rfl, hi, hO⟩
  have hOl : O.length ≤ i := by rw [hO, List.length_map]; exact List.length_take_le _ _
  refine To.seq ?_
  refine To.reg ?_
  refine To.rd rfl rfl rfl (Rd.lss rfl rfl rfl) ?_
  refine To.nil ?_
  refine To.thenN ?_
  refine To.seq ?_
  refine To.condP rfl (fun c16 => ?_) (fun c16 => ?_)
  ·
    obtain ⟨y, hy⟩ : ∃ z0, (l.take n)[i]? = some z0 := ⟨(l.take n)[i]'(by omega), List.getElem?_eq_getElem _⟩
    refine To.skip ?_
    refine To.thenN ?_
    refine To.seq ?_
    refine To.block ?_
    refine To.seq ?_
    refine To.reg ?_
    refine To.rd rfl rfl rfl (Rd.indexRos encE (i := 1) (j := i) rfl rfl rfl s22 rfl hy) ?_
    refine To.rd rfl rfl rfl (Rd.loadS (i := 1) rfl rfl r37 rfl (ros_gives encE hy) (encE.len _)) ?_
    refine To.alloc rfl rfl rfl rfl z37 (fun b7 => ?_)
    refine To.up rfl rfl (Up.storeS (i := 0) rfl rfl rfl r37 rfl rfl rfl (box_takesAll rfl)) ?_
    refine To.nil ?_
    refine To.thenN ?_
    refine To.seq ?_
    have hcap := ha y (List.mem_of_mem_take (List.mem_of_getElem? hy))
    have h5 : (y.args.take 5).length ≤ y.args.length := by rw [List.length_take]; exact Nat.min_le_right _ _
    refine To.reg ?_
    refine To.rd rfl rfl rfl (Rd.field rfl rfl fl37_8) ?_
    refine To.rd rfl rfl rfl (Rd.load (i := 0) rfl rfl c35 rfl (box_gives1 rfl)) ?_
    refine To.rd rfl rfl rfl (Rd.field rfl rfl fl37_8) ?_
    refine To.rd rfl rfl rfl (Rd.load (i := 0) rfl rfl c35 rfl (box_gives1 rfl)) ?_
    refine To.rd rfl rfl rfl (Rd.len rfl rfl Try.underlying35) ?_
    refine To.rd rfl rfl rfl (Rd.minTake (l := y.args) (n := 5) rfl rfl rfl) ?_
    refine To.rd rfl rfl rfl (Rd.sliceHi (hi := ((y.args.take 5).length)) rfl s35 rfl rfl (by omega)) ?_
    refine To.rd rfl rfl rfl (Rd.field rfl rfl fl37_8) ?_
    refine To.up rfl rfl (Up.store (i := 0) rfl rfl rfl c35 rfl rfl (box_takes1 rfl)) ?_
    refine To.nil ?_
    refine To.thenN ?_
    refine To.reg ?_
    refine To.rd rfl rfl rfl (Rd.move rfl rfl) ?_
    refine To.rd rfl rfl rfl (Rd.loadS (i := 0) rfl rfl r37 rfl box_whole rfl) ?_
    refine To.mk rfl rfl rfl (Mk.sliceN (us := [.int .i64 y.t, .int .i64 y.c, .int .u8 y.k, .int .i64 y.p, .int .i64 y.n, .int .i64 y.cp, .int .i64 y.h, .int .i64 y.d, .slice y.A ((y.args.take 5).length) y.cap]) rfl s22 rfl rfl rfl rfl rfl rfl) ?_
    rintro _ _ ⟨b29, rfl, rfl⟩
    refine To.as [row 37 9 (some ⟨b29, 0, none⟩) 1 1 [.int .i64 y.t, .int .i64 y.c, .int .u8 y.k, .int .i64 y.p, .int .i64 y.n, .int .i64 y.cp, .int .i64 y.h, .int .i64 y.d, .slice y.A ((y.args.take 5).length) y.cap], box b7 [.int .i64 y.t, .int .i64 y.c, .int .u8 y.k, .int .i64 y.p, .int .i64 y.n, .int .i64 y.cp, .int .i64 y.h, .int .i64 y.d, .slice y.A ((y.args.take 5).length) y.cap] 37, rows Ev.cells 37 9 A5 q5 O, ros Ev.cells Al (l.take n)] rfl ?_
    refine To.ge rfl rfl rfl (Ge.append1 encE (i := 2) (j := 0) (el := y.cut) rfl s22 rfl rfl rfl rfl rfl (by first | omega | (simp only [List.length_append, List.length_cons, List.length_nil]; omega)) (by first | omega | (simp only [List.length_append, List.length_cons, List.length_nil]; omega))) ?_
    rintro _ _ ⟨A30, q30, rfl, rfl⟩
    refine To.as [row 37 9 (some ⟨b29, 0, none⟩) 1 1 [.int .i64 y.t, .int .i64 y.c, .int .u8 y.k, .int .i64 y.p, .int .i64 y.n, .int .i64 y.cp, .int .i64 y.h, .int .i64 y.d, .slice y.A ((y.args.take 5).length) y.cap], box b7 [.int .i64 y.t, .int .i64 y.c, .int .u8 y.k, .int .i64 y.p, .int .i64 y.n, .int .i64 y.cp, .int .i64 y.h, .int .i64 y.d, .slice y.A ((y.args.take 5).length) y.cap] 37, rows Ev.cells 37 9 A30 q30 (O ++ [y.cut]), ros Ev.cells Al (l.take n)] rfl ?_
    refine To.rd rfl rfl rfl (Rd.assign rfl rfl) ?_
    refine To.nil ?_
    refine To.sub [(5, .slice A30 ((O ++ [y.cut]).length) q30), (13, .slice Al ((l.take n).length) cl), (14, .int .i64 (((l.take n).length : Nat) : Int)), (15, .int .i64 ((i : Nat) : Int)), (16, .bool (decide (((i : Nat) : Int) < (((l.take n).length : Nat) : Int)))), (7, .pointer (some ⟨b7, 0, none⟩))] ⟨rfl, rfl, rfl, rfl, rfl, rfl, trivial⟩ ?_
    refine To.blockN ?_
    refine To.thenN ?_
    refine To.reg ?_
    refine To.rd rfl rfl rfl (Rd.inc rfl rfl rfl (by omega)) ?_
    refine To.rd rfl rfl rfl (Rd.move rfl rfl) ?_
    refine To.nil ?_
    refine To.thenN ?_
    refine To.sub [(5, .slice A30 (O ++ [y.cut]).length q30), (13, .slice Al ((l.take n).length) cl), (14, .int .i64 (((l.take n).length : Nat) : Int)), (15, .int .i64 (((i + 1) : Nat) : Int))] ⟨rfl, rfl, rfl, rfl, trivial⟩ ?_
    refine To.only [2, 2] rfl ?_
    refine To.again ((l.take n).length - (i + 1)) (by omega) ⟨i + 1, O ++ [y.cut], A30, q30, rfl, rfl, rfl, (by omega), (by rw [hO, take_of_get hy, List.map_append]; rfl)⟩
  ·
    refine To.exit ?_
    refine To.thenX ?_
    refine To.thenX ?_
    refine To.blockX ?_
    refine To.thenN ?_
    refine To.seq ?_
    refine To.reg ?_
    refine To.rd rfl rfl rfl (Rd.move rfl rfl) ?_
    refine To.rd rfl rfl rfl (Rd.assign rfl rfl) ?_
    refine To.nil ?_
    refine To.thenN ?_
    refine To.ret ?_
    refine To.only [0] rfl ?_
    refine To.end1 (.inl rfl) Try.results12 rfl ?_
    obtain rfl : i = (l.take n).length := by omega
    rw [List.take_length] at hO
    exact ⟨_, _, by rw [hO], by rw [hO]⟩
theorem filter_step {l : List Ev} {i : Nat} {y : Ev} {c : Int} (hy : l[i]? = some y) : (l.take (i + 1)).filter (fun e => decide (e.c = c)) = (l.take i).filter (fun e => decide (e.c = c)) ++ if y.c = c then [y] else [] := by
  rw [take_of_get hy, List.filter_append]
  by_cases h : y.c = c <;> simp [h]
set_option maxHeartbeats 2000000 in
set_option maxRecDepth 100000 in
theorem rproject_fn (Al : Option Addr) (cl : Nat) (l : List Ev) (c : Int) (hl : l.length ≤ 1000000) :
    Does Try.prog 27 [.slice Al l.length cl, .int .i64 c] [ros Ev.cells Al l] (fun v Γ' => ∃ A q, v = .slice A (l.filter fun e => decide (e.c = c)).length q ∧ Γ' = [rows Ev.cells 37 9 A q (l.filter fun e => decide (e.c = c))]) := by
  refine Does.enter Try.func27 rfl Try.ntmps27 rfl (fun w0 => ?_)
  refine To.seq ?_
  refine To.reg ?_
  refine To.rd rfl rfl rfl (Rd.assign rfl rfl) ?_
  refine To.nil ?_
  refine To.thenN ?_
  refine To.seq ?_
  refine To.reg ?_
  refine To.rd rfl rfl rfl (Rd.assign rfl rfl) ?_
  refine To.nil ?_
  refine To.thenN ?_
  refine To.seq ?_
  refine To.seq ?_
  refine To.nilRow Ev.cells 37 9 ?_
  refine To.reg ?_
  refine To.rd rfl rfl rfl (Rd.move rfl rfl) ?_
  refine To.rd rfl rfl rfl (Rd.len rfl rfl Try.underlying22) ?_
  refine To.rd rfl rfl rfl (Rd.move rfl rfl) ?_
  refine To.nil ?_
  refine To.thenN ?_
  refine To.block ?_
  refine To.sub [(1, .int .i64 c), (5, .slice none ([] : List Ev).length 0), (8, .slice Al l.length cl), (9, .int .i64 ((l.length : Nat) : Int)), (10, .int .i64 ((0 : Nat) : Int))] ⟨rfl, rfl, rfl, rfl, rfl, trivial⟩ ?_
  refine To.only [0, 0] rfl ?_
  refine To.loop (fun mz ρ Γ => ∃ (i : Nat) (O : List Ev) (A5 : Option Addr) (q5 : Nat), ρ = [(1, .int .i64 c), (5, .slice A5 O.length q5), (8, .slice Al l.length cl), (9, .int .i64 ((l.length : Nat) : Int)), (10, .int .i64 ((i : Nat) : Int))] ∧ Γ = [rows Ev.cells 37 9 A5 q5 O, ros Ev.cells Al l] ∧ mz = l.length - i ∧ (i ≤ l.length) ∧ (O = (l.take i).filter fun e => decide (e.c = c))) (l.length - 0) ⟨0, ([] : List Ev), none, 0, rfl, rfl, rfl, (Nat.zero_le _), rfl⟩ ?_
  rintro mz _ _ ⟨i, O, A5, q5, rfl, rfl, rfl, hi, hO⟩
  have hOl : O.length ≤ i := by rw [hO]; exact Nat.le_trans (List.length_filter_le _ _) (List.length_take_le _ _)
  refine To.seq ?_
  refine To.reg ?_
  refine To.rd rfl rfl rfl (Rd.lss rfl rfl rfl) ?_
  refine To.nil ?_
  refine To.thenN ?_
  refine To.seq ?_
  refine To.condP rfl (fun c11 => ?_) (fun c11 => ?_)
  ·
    obtain ⟨y, hy⟩ : ∃ z0, l[i]? = some z0 := ⟨l[i]'(by omega), List.getElem?_eq_getElem _⟩
    refine To.skip ?_
    refine To.thenN ?_
    refine To.seq ?_
    refine To.block ?_
    refine To.seq ?_
    refine To.reg ?_
    refine To.rd rfl rfl rfl (Rd.indexRos encE (i := 1) (j := i) rfl rfl rfl s22 rfl hy) ?_
    refine To.rd rfl rfl rfl (Rd.loadS (i := 1) rfl rfl r37 rfl (ros_gives encE hy) (encE.len _)) ?_
    refine To.alloc rfl rfl rfl rfl z37 (fun b7 => ?_)
    refine To.up rfl rfl (Up.storeS (i := 0) rfl rfl rfl r37 rfl rfl rfl (box_takesAll rfl)) ?_
    refine To.nil ?_
    refine To.thenN ?_
    refine To.seq ?_
    refine To.reg ?_
    refine To.rd rfl rfl rfl (Rd.field rfl rfl fl37_1) ?_
    refine To.rd rfl rfl rfl (Rd.load (i := 0) rfl rfl c3 rfl (box_gives1 rfl)) ?_
    refine To.rd rfl rfl rfl (Rd.move rfl rfl) ?_
    refine To.rd rfl rfl rfl (Rd.eql rfl rfl rfl) ?_
    refine To.nil ?_
    refine To.thenN ?_
    refine To.condP rfl (fun c17 => ?_) (fun c17 => ?_)
    ·
      refine To.reg ?_
      refine To.rd rfl rfl rfl (Rd.move rfl rfl) ?_
      refine To.rd rfl rfl rfl (Rd.loadS (i := 0) rfl rfl r37 rfl box_whole rfl) ?_
      refine To.mk rfl rfl rfl (Mk.sliceN (us := [.int .i64 y.t, .int .i64 y.c, .int .u8 y.k, .int .i64 y.p, .int .i64 y.n, .int .i64 y.cp, .int .i64 y.h, .int .i64 y.d, .slice y.A y.args.length y.cap]) rfl s22 rfl rfl rfl rfl rfl rfl) ?_
      rintro _ _ ⟨b20, rfl, rfl⟩
      refine To.as [row 37 9 (some ⟨b20, 0, none⟩) 1 1 [.int .i64 y.t, .int .i64 y.c, .int .u8 y.k, .int .i64 y.p, .int .i64 y.n, .int .i64 y.cp, .int .i64 y.h, .int .i64 y.d, .slice y.A y.args.length y.cap], box b7 [.int .i64 y.t, .int .i64 y.c, .int .u8 y.k, .int .i64 y.p, .int .i64 y.n, .int .i64 y.cp, .int .i64 y.h, .int .i64 y.d, .slice y.A y.args.length y.cap] 37, rows Ev.cells 37 9 A5 q5 O, ros Ev.cells Al l] rfl ?_
      refine To.ge rfl rfl rfl (Ge.append1 encE (i := 2) (j := 0) (el := y) rfl s22 rfl rfl rfl rfl rfl (by first | omega | (simp only [List.length_append, List.length_cons, List.length_nil]; omega)) (by first | omega | (simp only [List.length_append, List.length_cons, List.length_nil]; omega))) ?_
      rintro _ _ ⟨A21, q21, rfl, rfl⟩
      refine To.as [row 37 9 (some ⟨b20, 0, none⟩) 1 1 [.int .i64 y.t, .int .i64 y.c, .int .u8 y.k, .int .i64 y.p, .int .i64 y.n, .int .i64 y.cp, .int .i64 y.h, .int .i64 y.d, .slice y.A y.args.length y.cap], box b7 [.int .i64 y.t, .int .i64 y.c, .int .u8 y.k, .int .i64 y.p, .int .i64 y.n, .int .i64 y.cp, .int .i64 y.h, .int .i64 y.d, .slice y.A y.args.length y.cap] 37, rows Ev.cells 37 9 A21 q21 (O ++ [y]), ros Ev.cells Al l] rfl ?_
      refine To.rd rfl rfl rfl (Rd.assign rfl rfl) ?_
      refine To.nil ?_
      refine To.blockN ?_
      refine To.thenN ?_
      refine To.reg ?_
      refine To.rd rfl rfl rfl (Rd.inc rfl rfl rfl (by omega)) ?_
      refine To.rd rfl rfl rfl (Rd.move rfl rfl) ?_
      refine To.nil ?_
      refine To.thenN ?_
      refine To.sub [(1, .int .i64 c), (5, .slice A21 (O ++ [y]).length q21), (8, .slice Al l.length cl), (9, .int .i64 ((l.length : Nat) : Int)), (10, .int .i64 (((i + 1) : Nat) : Int))] ⟨rfl, rfl, rfl, rfl, rfl, trivial⟩ ?_
      refine To.only [2, 2] rfl ?_
      refine To.again (l.length - (i + 1)) (by omega) ⟨i + 1, O ++ [y], A21, q21, rfl, rfl, rfl, (by omega), (by rw [filter_step hy, if_pos c17, hO])⟩
    ·
      refine To.skip ?_
      refine To.blockN ?_
      refine To.thenN ?_
      refine To.reg ?_
      refine To.rd rfl rfl rfl (Rd.inc rfl rfl rfl (by omega)) ?_
      refine To.rd rfl rfl rfl (Rd.move rfl rfl) ?_
      refine To.nil ?_
      refine To.thenN ?_
      refine To.sub [(1, .int .i64 c), (5, .slice A5 O.length q5), (8, .slice Al l.length cl), (9, .int .i64 ((l.length : Nat) : Int)), (10, .int .i64 (((i + 1) : Nat) : Int))] ⟨rfl, rfl, rfl, rfl, rfl, trivial⟩ ?_
      refine To.only [1, 1] rfl ?_
      refine To.again (l.length - (i + 1)) (by omega) ⟨i + 1, O, A5, q5, rfl, rfl, rfl, (by omega), (by rw [filter_step hy, if_neg c17, hO]; simp)⟩
  ·
    refine To.exit ?_
    refine To.thenX ?_
    refine To.thenX ?_
    refine To.blockX ?_
    refine To.thenN ?_
    refine To.seq ?_
    refine To.reg ?_
    refine To.rd rfl rfl rfl (Rd.move rfl rfl) ?_
    refine To.rd rfl rfl rfl (Rd.assign rfl rfl) ?_
    refine To.nil ?_
    refine To.thenN ?_
    refine To.ret ?_
    refine To.only [0] rfl ?_
    refine To.end1 (.inl rfl) Try.results27 rfl ?_
    obtain rfl : i = l.length := by omega
    rw [List.take_length] at hO
    exact ⟨_, _, by rw [hO], by rw [hO]⟩
end Go.Proofs.Ytneimfacccgaeaa
