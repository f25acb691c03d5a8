/- The reference: next. Own text (walks printed by sx.py). -/
import Derived.Test.YtneimfacccgaeaaV39
namespace Go.Proofs.Ytneimfacccgaeaa
open Go.RowKit Go.Flow Go.Mem Go.Sep
theorem natsS_app {Γ : List Chunk} {l m : List (Option Addr × List Nat)} (i j : Nat) (hi : Γ[i]? = some (natsS l)) (hj : Γ[j]? = some (natsS m)) : (∀ g ∈ (natsS (l ++ m)).reads, g ∈ reads Γ) ∧ (∀ w, oks Γ w → (natsS (l ++ m)).holds w) :=
  ⟨fun g hg => by
    obtain ⟨p, hp, hg⟩ := List.mem_flatMap.1 hg
    rcases List.mem_append.1 hp with h | h
    · exact mem_reads.2 ⟨_, List.mem_of_getElem? hi, List.mem_flatMap.2 ⟨p, h, hg⟩⟩
    · exact mem_reads.2 ⟨_, List.mem_of_getElem? hj, List.mem_flatMap.2 ⟨p, h, hg⟩⟩, fun w hw p hp => by
    rcases List.mem_append.1 hp with h | h
    · exact hw _ (List.mem_of_getElem? hi) p h
    · exact hw _ (List.mem_of_getElem? hj) p h⟩
theorem natsS_one {Γ : List Chunk} {A : Option Addr} {xs : List Nat} (i : Nat) (hi : Γ[i]? = some (ros encM A xs)) : (∀ g ∈ (natsS [(A, xs)]).reads, g ∈ reads Γ) ∧ (∀ w, oks Γ w → (natsS [(A, xs)]).holds w) :=
  ⟨fun g hg => by
    obtain ⟨p, hp, hg⟩ := List.mem_flatMap.1 hg
    rw [List.mem_singleton.1 hp] at hg; exact mem_reads.2 ⟨_, List.mem_of_getElem? hi, hg⟩, fun w hw p hp => by
    rw [List.mem_singleton.1 hp]; exact hw _ (List.mem_of_getElem? hi)⟩
def preJ (l : List Ev) (u : List Nat) (j : Nat) : List (List Nat) := ((List.range j).filter (okU l u)).flatMap fun x => ords l (u ++ [x])
theorem preJ_succ (l : List Ev) (u : List Nat) (j : Nat) : preJ l u (j + 1) = preJ l u j ++ if okU l u j then ords l (u ++ [j]) else [] := by
  unfold preJ
  rw [filter_range_succ, List.flatMap_append]
  congr 1
  cases okU l u j <;> simp
theorem preJ_all {l : List Ev} {u : List Nat} (h : u.length < l.length) : preJ l u l.length = ords l u := (ords_step h).symm
theorem take_app {α : Type} (a b : List α) (n : Nat) : a.take n ++ b.take (n - (a.take n).length) = (a ++ b).take n := by
  rw [List.take_append]
  congr 1
  rw [List.length_take]
  rcases Nat.le_total n a.length with h | h
  · rw [Nat.min_eq_left h, Nat.sub_self, Nat.sub_eq_zero_of_le h]
  · rw [Nat.min_eq_right h]
theorem next_push {l : List Ev} {u : List Nat} {j : Nat} {n : Int} {O O2 : List Sn} (hO : O.map Sn.l = (preJ l u j).take n.toNat) (h2 : O2.map Sn.l = (ords l (u ++ [j])).take (n - (O.length : Nat)).toNat) (hj : okU l u j = true) : (O ++ O2).map Sn.l = (preJ l u (j + 1)).take n.toNat := by
  have hl : O.length = ((preJ l u j).take n.toNat).length := by rw [← hO, List.length_map]
  rw [List.map_append, hO, h2, preJ_succ, if_pos hj, ← take_app, ← hl]
  congr 2
  omega
theorem next_skip {l : List Ev} {u : List Nat} {j : Nat} {n : Int} {O : List Sn} (hO : O.map Sn.l = (preJ l u j).take n.toNat) (hj : okU l u j = false) : O.map Sn.l = (preJ l u (j + 1)).take n.toNat := by
  rw [preJ_succ, hj, hO]; simp
theorem notc_step {u : List Nat} {i j x : Nat} (hx : u[i]? = some x) : (!(u.take (i + 1)).contains j) = (!(u.take i).contains j && decide (((x : Nat) : Int) ≠ ((j : Nat) : Int))) := by
  rw [take_of_get hx]
  by_cases e : x = j
  · subst e; simp
  · have e1 : ¬ j = x := fun h => e h.symm
    have e2 : ((x : Nat) : Int) ≠ ((j : Nat) : Int) := by omega
    simp [e1, e2]
theorem cont_step {u : List Nat} {i j x : Nat} (hx : u[i]? = some x) : (u.take (i + 1)).contains j = ((u.take i).contains j || decide (((x : Nat) : Int) = ((j : Nat) : Int))) := by
  rw [take_of_get hx]
  by_cases e : x = j
  · subst e; simp
  · have e1 : ¬ j = x := fun h => e h.symm
    have e2 : ¬ ((x : Nat) : Int) = ((j : Nat) : Int) := by omega
    simp [e1, e2]
def okIU (l : List Ev) (u : List Nat) (j i : Nat) : Bool := !u.contains j && (List.range i).all fun i => u.contains i || !depAt l i j
theorem okIU_zero (l : List Ev) (u : List Nat) (j : Nat) : okIU l u j 0 = !u.contains j := by simp [okIU]
theorem okIU_succ (l : List Ev) (u : List Nat) (j i : Nat) : okIU l u j (i + 1) = (okIU l u j i && (u.contains i || !depAt l i j)) := by
  unfold okIU
  rw [List.range_succ, List.all_append]
  simp [Bool.and_assoc]
theorem okU_of {l : List Ev} {u : List Nat} {i j : Nat} (h : okIU l u j i = true) (e : i = j) : okU l u j = true := by subst e; exact h
theorem okIU_false {l : List Ev} {u : List Nat} {j i : Nat} (h : okIU l u j i = false) (hi : i ≤ j) : okU l u j = false := by
  cases ho : okU l u j
  · rfl
  · exfalso
    obtain ⟨h1, h2⟩ := okU_iff.1 ho
    have : okIU l u j i = true := by
      unfold okIU
      simp only [Bool.and_eq_true, Bool.not_eq_true', List.contains_eq_mem, decide_eq_false_iff_not, List.all_eq_true, List.mem_range, Bool.or_eq_true, decide_eq_true_eq]
      exact ⟨h1, fun k hk => h2 k (by omega)⟩
    rw [h] at this; cases this
set_option maxHeartbeats 2000000 in
set_option maxRecDepth 100000 in
theorem rnext_step (Al : Option Addr) (cl : Nat) (l : List Ev) (hl : l.length ≤ 1000000) (Au : Option Addr) (qu : Nat) (u : List Nat) (n : Int) (hu : u.length ≤ l.length) (hn : n ≤ 1000000)
    (ih : ∀ (Au' : Option Addr) (qu' : Nat) (u' : List Nat) (n' : Int), u.length < l.length → u'.length = u.length + 1 → n' ≤ 1000000 → Does Try.prog 44 [.slice Al l.length cl, .slice Au' u'.length qu', .int .i64 n'] [ros Ev.cells Al l, ros encM Au' u'] (fun v Γ' => ∃ A q O, v = .slice A O.length q ∧ Γ' = [rows Sn.cells 62 1 A q O, natsS (O.map Sn.ar)] ∧ O.map Sn.l = (ords l u').take n'.toNat)) :
    Does Try.prog 44 [.slice Al l.length cl, .slice Au u.length qu, .int .i64 n] [ros Ev.cells Al l, ros encM Au u] (fun v Γ' => ∃ A q O, v = .slice A O.length q ∧ Γ' = [rows Sn.cells 62 1 A q O, natsS (O.map Sn.ar)] ∧ O.map Sn.l = (ords l u).take n.toNat) := by
  refine Does.enter Try.func44 rfl Try.ntmps44 rfl (fun w0 => ?_)
  refine To.seq ?_
  refine To.reg ?_
  refine To.rd rfl rfl rfl (Rd.assign rfl rfl) ?_
  refine To.nil ?_
  refine To.thenN ?_
  refine To.seq ?_
  refine To.seq ?_
  refine To.reg ?_
  refine To.rd rfl rfl rfl (Rd.move rfl rfl) ?_
  refine To.rd rfl rfl rfl (Rd.lss rfl rfl rfl) ?_
  refine To.nil ?_
  refine To.thenN ?_
  refine To.condP rfl (fun c17 => ?_) (fun c17 => ?_)
  ·
    refine To.seq ?_
    refine To.reg ?_
    refine To.rd rfl rfl rfl (Rd.assign rfl rfl) ?_
    refine To.nil ?_
    refine To.thenN ?_
    refine To.ret ?_
    refine To.thenR ?_
    refine To.nilRow Sn.cells 62 1 (To.free (c := natsS (([] : List Sn).map Sn.ar)) rfl rfl (fun w p hp => by simp at hp) ?_)
    refine To.only [1, 0] rfl ?_
    refine To.end1 (.inl rfl) Try.results44 rfl ?_
    refine ⟨none, 0, [], rfl, rfl, ?_⟩
    rw [show n.toNat = 0 by omega]; rfl
  ·
    refine To.skip ?_
    refine To.thenN ?_
    refine To.seq ?_
    refine To.seq ?_
    refine To.reg ?_
    refine To.rd rfl rfl rfl (Rd.move rfl rfl) ?_
    refine To.rd rfl rfl rfl (Rd.len rfl rfl Try.underlying62) ?_
    refine To.rd rfl rfl rfl (Rd.move rfl rfl) ?_
    refine To.rd rfl rfl rfl (Rd.len rfl rfl Try.underlying22) ?_
    refine To.rd rfl rfl rfl (Rd.eql rfl rfl rfl) ?_
    refine To.nil ?_
    refine To.thenN ?_
    refine To.condP rfl (fun c22 => ?_) (fun c22 => ?_)
    ·
      refine To.seq ?_
      refine To.reg ?_
      refine To.rd rfl rfl rfl (Rd.move rfl rfl) ?_
      refine To.mk rfl rfl rfl (Mk.sliceN (us := [.slice Au u.length qu]) rfl s71 rfl rfl rfl rfl rfl rfl) ?_
      rintro _ _ ⟨b24, rfl, rfl⟩
      refine To.as [row 62 1 (some ⟨b24, 0, none⟩) 1 1 [.slice Au u.length qu], ros Ev.cells Al l, ros encM Au u] rfl ?_
      refine To.rd rfl rfl rfl (Rd.assign rfl rfl) ?_
      refine To.nil ?_
      refine To.thenN ?_
      refine To.ret ?_
      refine To.thenR ?_
      refine To.derive (natsS [(Au, u)]) rfl (natsS_one 2 rfl).1 (natsS_one 2 rfl).2 ?_
      refine To.only [1, 0] rfl ?_
      refine To.end1 (.inl rfl) Try.results44 rfl ?_
      refine ⟨_, _, [⟨Au, qu, u⟩], rfl, rfl, ?_⟩
      rw [ords_full (by omega)]
      obtain ⟨k, hk⟩ : ∃ k, n.toNat = k + 1 := ⟨n.toNat - 1, by omega⟩
      rw [hk]; simp
    ·
      refine To.skip ?_
      refine To.thenN ?_
      refine To.seq ?_
      refine To.nilRow Sn.cells 62 1 (To.free (c := natsS (([] : List Sn).map Sn.ar)) rfl rfl (fun w p hp => by simp at hp) ?_)
      refine To.reg ?_
      refine To.rd rfl rfl rfl (Rd.assign rfl rfl) ?_
      refine To.nil ?_
      refine To.thenN ?_
      refine To.seq ?_
      refine To.seq ?_
      refine To.reg ?_
      refine To.rd rfl rfl rfl (Rd.move rfl rfl) ?_
      refine To.rd rfl rfl rfl (Rd.len rfl rfl Try.underlying22) ?_
      refine To.rd rfl rfl rfl (Rd.move rfl rfl) ?_
      refine To.nil ?_
      refine To.thenN ?_
      refine To.block ?_
      refine To.sub [(0, .slice Al l.length cl), (1, .slice Au u.length qu), (2, .int .i64 n), (7, .slice none ([] : List Sn).length 0), (26, .int .i64 ((l.length : Nat) : Int)), (27, .int .i64 ((0 : Nat) : Int))] ⟨rfl, rfl, rfl, rfl, rfl, rfl, trivial⟩ ?_
      refine To.only [1, 0, 0, 0] rfl ?_
      refine To.loop (fun mz ρ Γ => ∃ (j : Nat) (O : List Sn) (A7 : Option Addr) (q7 : Nat), ρ = [(0, .slice Al l.length cl), (1, .slice Au u.length qu), (2, .int .i64 n), (7, .slice A7 O.length q7), (26, .int .i64 ((l.length : Nat) : Int)), (27, .int .i64 ((j : Nat) : Int))] ∧ Γ = [rows Sn.cells 62 1 A7 q7 O, natsS (O.map Sn.ar), ros Ev.cells Al l, ros encM Au u] ∧ mz = l.length - j ∧ (j ≤ l.length) ∧ (O.map Sn.l = (preJ l u j).take n.toNat)) (l.length - 0) ⟨0, ([] : List Sn), none, 0, rfl, rfl, rfl, (Nat.zero_le _), (by simp [preJ])⟩ ?_
      rintro mz _ _ ⟨j, O, A7, q7, rfl, rfl, rfl, hj, hO⟩
      have hOl : O.length ≤ 1000000 := by
        have h := congrArg List.length hO
        rw [List.length_map, List.length_take] at h
        omega
      refine To.seq ?_
      refine To.reg ?_
      refine To.rd rfl rfl rfl (Rd.lss rfl rfl rfl) ?_
      refine To.nil ?_
      refine To.thenN ?_
      refine To.seq ?_
      refine To.condP rfl (fun c28 => ?_) (fun c28 => ?_)
      ·
        refine To.skip ?_
        refine To.thenN ?_
        refine To.seq ?_
        refine To.block ?_
        refine To.seq ?_
        refine To.reg ?_
        refine To.rd rfl rfl rfl (Rd.move rfl rfl) ?_
        refine To.rd rfl rfl rfl (Rd.assign rfl rfl) ?_
        refine To.nil ?_
        refine To.thenN ?_
        refine To.seq ?_
        refine To.reg ?_
        refine To.rd rfl rfl rfl (Rd.assign rfl rfl) ?_
        refine To.nil ?_
        refine To.thenN ?_
        refine To.seq ?_
        refine To.seq ?_
        refine To.reg ?_
        refine To.rd rfl rfl rfl (Rd.move rfl rfl) ?_
        refine To.rd rfl rfl rfl (Rd.len rfl rfl Try.underlying62) ?_
        refine To.rd rfl rfl rfl (Rd.move rfl rfl) ?_
        refine To.nil ?_
        refine To.thenN ?_
        refine To.block ?_
        refine To.sub [(0, .slice Al l.length cl), (1, .slice Au u.length qu), (2, .int .i64 n), (7, .slice A7 O.length q7), (26, .int .i64 ((l.length : Nat) : Int)), (27, .int .i64 ((j : Nat) : Int)), (8, .int .i64 ((j : Nat) : Int)), (9, .bool true), (30, .slice Au u.length qu), (31, .int .i64 ((u.length : Nat) : Int)), (32, .int .i64 ((0 : Nat) : Int))] ⟨rfl, rfl, rfl, rfl, rfl, rfl, rfl, rfl, rfl, rfl, rfl, trivial⟩ ?_
        refine To.only [0, 0, 0, 0] rfl ?_
        refine To.loop (fun mz ρ Γ => ∃ (i : Nat) (ok : Bool), ρ = [(0, .slice Al l.length cl), (1, .slice Au u.length qu), (2, .int .i64 n), (7, .slice A7 O.length q7), (26, .int .i64 ((l.length : Nat) : Int)), (27, .int .i64 ((j : Nat) : Int)), (8, .int .i64 ((j : Nat) : Int)), (9, .bool ok), (30, .slice Au u.length qu), (31, .int .i64 ((u.length : Nat) : Int)), (32, .int .i64 ((i : Nat) : Int))] ∧ Γ = [rows Sn.cells 62 1 A7 q7 O, natsS (O.map Sn.ar), ros Ev.cells Al l, ros encM Au u] ∧ mz = u.length - i ∧ (i ≤ u.length) ∧ (ok = !(u.take i).contains j)) (u.length - 0) ⟨0, true, rfl, rfl, rfl, (Nat.zero_le _), rfl⟩ ?_
        rintro mz _ _ ⟨i, ok, rfl, rfl, rfl, hi, hok1⟩
        refine To.seq ?_
        refine To.reg ?_
        refine To.rd rfl rfl rfl (Rd.lss rfl rfl rfl) ?_
        refine To.nil ?_
        refine To.thenN ?_
        refine To.seq ?_
        refine To.condP rfl (fun c33 => ?_) (fun c33 => ?_)
        ·
          obtain ⟨x, hx⟩ : ∃ z0, u[i]? = some z0 := ⟨u[i]'(by omega), List.getElem?_eq_getElem _⟩
          refine To.skip ?_
          refine To.thenN ?_
          refine To.seq ?_
          refine To.block ?_
          refine To.seq ?_
          refine To.reg ?_
          refine To.rd rfl rfl rfl (Rd.indexRos encM_ok (i := 3) (j := i) rfl rfl rfl s62 rfl hx) ?_
          refine To.rd rfl rfl rfl (Rd.load (i := 3) rfl rfl c3 rfl (gives_1 (ros_gives encM_ok hx) rfl)) ?_
          refine To.rd rfl rfl rfl (Rd.assign rfl rfl) ?_
          refine To.nil ?_
          refine To.thenN ?_
          refine To.reg ?_
          refine To.rd rfl rfl rfl (Rd.move rfl rfl) ?_
          refine To.rdB rfl rfl rfl (Rd.move rfl rfl) (fun g37 => ?_) (fun g37 => ?_)
          ·
            refine To.rd rfl rfl rfl (Rd.move rfl rfl) ?_
            refine To.rd rfl rfl rfl (Rd.move rfl rfl) ?_
            refine To.rd rfl rfl rfl (Rd.neq rfl rfl rfl) ?_
            refine To.rd rfl rfl rfl (Rd.pickT rfl rfl rfl) ?_
            refine To.rd rfl rfl rfl (Rd.assign rfl rfl) ?_
            refine To.nil ?_
            refine To.blockN ?_
            refine To.thenN ?_
            refine To.reg ?_
            refine To.rd rfl rfl rfl (Rd.inc rfl rfl rfl (by omega)) ?_
            refine To.rd rfl rfl rfl (Rd.move rfl rfl) ?_
            refine To.nil ?_
            refine To.thenN ?_
            refine To.sub [(0, .slice Al l.length cl), (1, .slice Au u.length qu), (2, .int .i64 n), (7, .slice A7 O.length q7), (26, .int .i64 ((l.length : Nat) : Int)), (27, .int .i64 ((j : Nat) : Int)), (8, .int .i64 ((j : Nat) : Int)), (9, .bool (decide (((x : Nat) : Int) ≠ ((j : Nat) : Int)))), (30, .slice Au u.length qu), (31, .int .i64 ((u.length : Nat) : Int)), (32, .int .i64 (((i + 1) : Nat) : Int))] ⟨rfl, rfl, rfl, rfl, rfl, rfl, rfl, rfl, rfl, rfl, rfl, trivial⟩ ?_
            refine To.only [0, 0, 0, 0] rfl ?_
            refine To.again (u.length - (i + 1)) (by omega) ⟨i + 1, (decide (((x : Nat) : Int) ≠ ((j : Nat) : Int))), rfl, rfl, rfl, (by omega), (by rw [notc_step hx, ← hok1, g37]; rfl)⟩
          ·
            refine To.sk rfl rfl rfl ?_
            refine To.sk rfl rfl rfl ?_
            refine To.sk rfl rfl rfl ?_
            refine To.rd rfl rfl rfl (Rd.pickF rfl rfl rfl) ?_
            refine To.rd rfl rfl rfl (Rd.assign rfl rfl) ?_
            refine To.nil ?_
            refine To.blockN ?_
            refine To.thenN ?_
            refine To.reg ?_
            refine To.rd rfl rfl rfl (Rd.inc rfl rfl rfl (by omega)) ?_
            refine To.rd rfl rfl rfl (Rd.move rfl rfl) ?_
            refine To.nil ?_
            refine To.thenN ?_
            refine To.sub [(0, .slice Al l.length cl), (1, .slice Au u.length qu), (2, .int .i64 n), (7, .slice A7 O.length q7), (26, .int .i64 ((l.length : Nat) : Int)), (27, .int .i64 ((j : Nat) : Int)), (8, .int .i64 ((j : Nat) : Int)), (9, .bool false), (30, .slice Au u.length qu), (31, .int .i64 ((u.length : Nat) : Int)), (32, .int .i64 (((i + 1) : Nat) : Int))] ⟨rfl, rfl, rfl, rfl, rfl, rfl, rfl, rfl, rfl, rfl, rfl, trivial⟩ ?_
            refine To.only [0, 0, 0, 0] rfl ?_
            refine To.again (u.length - (i + 1)) (by omega) ⟨i + 1, false, rfl, rfl, rfl, (by omega), (by rw [notc_step hx, ← hok1, g37]; rfl)⟩
        ·
          refine To.exit ?_
          refine To.thenX ?_
          refine To.thenX ?_
          refine To.blockX ?_
          refine To.thenN ?_
          refine To.seq ?_
          refine To.seq ?_
          refine To.reg ?_
          refine To.rd rfl rfl rfl (Rd.assign rfl rfl) ?_
          refine To.nil ?_
          refine To.thenN ?_
          refine To.block ?_
          refine To.sub [(0, .slice Al l.length cl), (1, .slice Au u.length qu), (2, .int .i64 n), (7, .slice A7 O.length q7), (26, .int .i64 ((l.length : Nat) : Int)), (27, .int .i64 ((j : Nat) : Int)), (8, .int .i64 ((j : Nat) : Int)), (9, .bool ok), (12, .int .i64 ((0 : Nat) : Int))] ⟨rfl, rfl, rfl, rfl, rfl, rfl, rfl, rfl, rfl, trivial⟩ ?_
          refine To.only [0, 0, 0, 0] rfl ?_
          refine To.loop (fun mz ρ Γ => ∃ (i : Nat) (ok : Bool), ρ = [(0, .slice Al l.length cl), (1, .slice Au u.length qu), (2, .int .i64 n), (7, .slice A7 O.length q7), (26, .int .i64 ((l.length : Nat) : Int)), (27, .int .i64 ((j : Nat) : Int)), (8, .int .i64 ((j : Nat) : Int)), (9, .bool ok), (12, .int .i64 ((i : Nat) : Int))] ∧ Γ = [rows Sn.cells 62 1 A7 q7 O, natsS (O.map Sn.ar), ros Ev.cells Al l, ros encM Au u] ∧ mz = j - i ∧ (i ≤ j) ∧ (ok = okIU l u j i)) (j - 0) ⟨0, ok, rfl, rfl, rfl, (Nat.zero_le _), (by rw [okIU_zero, hok1, show i = u.length by omega, List.take_length])⟩ ?_
          rintro mz _ _ ⟨i, ok, rfl, rfl, rfl, hij, hok2⟩
          refine To.seq ?_
          refine To.seq ?_
          refine To.reg ?_
          refine To.rd rfl rfl rfl (Rd.move rfl rfl) ?_
          refine To.rd rfl rfl rfl (Rd.move rfl rfl) ?_
          refine To.rd rfl rfl rfl (Rd.lss rfl rfl rfl) ?_
          refine To.rdP rfl rfl rfl (Rd.move rfl rfl) (fun g46 => ?_) (fun g46 => ?_)
          ·
            refine To.rd rfl rfl rfl (Rd.move rfl rfl) ?_
            refine To.rd rfl rfl rfl (Rd.pickT rfl rfl rfl) ?_
            refine To.nil ?_
            refine To.thenN ?_
            refine To.cond rfl (fun c48 => ?_) (fun c48 => ?_)
            ·
              have hijl : i < j := by omega
              obtain ⟨x, hx⟩ : ∃ z0, l[i]? = some z0 := ⟨l[i]'(by omega), List.getElem?_eq_getElem _⟩
              obtain ⟨y, hy⟩ : ∃ z0, l[j]? = some z0 := ⟨l[j]'(by omega), List.getElem?_eq_getElem _⟩
              refine To.skip ?_
              refine To.thenN ?_
              refine To.seq ?_
              refine To.block ?_
              refine To.seq ?_
              refine To.reg ?_
              refine To.rd rfl rfl rfl (Rd.assign rfl rfl) ?_
              refine To.nil ?_
              refine To.thenN ?_
              refine To.seq ?_
              refine To.seq ?_
              refine To.reg ?_
              refine To.rd rfl rfl rfl (Rd.move rfl rfl) ?_
              refine To.rd rfl rfl rfl (Rd.len rfl rfl Try.underlying62) ?_
              refine To.rd rfl rfl rfl (Rd.move rfl rfl) ?_
              refine To.nil ?_
              refine To.thenN ?_
              refine To.block ?_
              refine To.sub [(0, .slice Al l.length cl), (1, .slice Au u.length qu), (2, .int .i64 n), (7, .slice A7 O.length q7), (26, .int .i64 ((l.length : Nat) : Int)), (27, .int .i64 ((j : Nat) : Int)), (8, .int .i64 ((j : Nat) : Int)), (9, .bool ok), (12, .int .i64 ((i : Nat) : Int)), (13, .bool false), (51, .slice Au u.length qu), (52, .int .i64 ((u.length : Nat) : Int)), (53, .int .i64 ((0 : Nat) : Int))] ⟨rfl, rfl, rfl, rfl, rfl, rfl, rfl, rfl, rfl, rfl, rfl, rfl, rfl, trivial⟩ ?_
              refine To.only [0, 0, 0, 0] rfl ?_
              refine To.loop (fun mz ρ Γ => ∃ (m : Nat) (b : Bool), ρ = [(0, .slice Al l.length cl), (1, .slice Au u.length qu), (2, .int .i64 n), (7, .slice A7 O.length q7), (26, .int .i64 ((l.length : Nat) : Int)), (27, .int .i64 ((j : Nat) : Int)), (8, .int .i64 ((j : Nat) : Int)), (9, .bool ok), (12, .int .i64 ((i : Nat) : Int)), (13, .bool b), (51, .slice Au u.length qu), (52, .int .i64 ((u.length : Nat) : Int)), (53, .int .i64 ((m : Nat) : Int))] ∧ Γ = [rows Sn.cells 62 1 A7 q7 O, natsS (O.map Sn.ar), ros Ev.cells Al l, ros encM Au u] ∧ mz = u.length - m ∧ (m ≤ u.length) ∧ (b = (u.take m).contains i)) (u.length - 0) ⟨0, false, rfl, rfl, rfl, (Nat.zero_le _), rfl⟩ ?_
              rintro mz _ _ ⟨m, b, rfl, rfl, rfl, hm, hb⟩
              refine To.seq ?_
              refine To.reg ?_
              refine To.rd rfl rfl rfl (Rd.lss rfl rfl rfl) ?_
              refine To.nil ?_
              refine To.thenN ?_
              refine To.seq ?_
              refine To.condP rfl (fun c54 => ?_) (fun c54 => ?_)
              ·
                obtain ⟨x, hx⟩ : ∃ z0, u[m]? = some z0 := ⟨u[m]'(by omega), List.getElem?_eq_getElem _⟩
                refine To.skip ?_
                refine To.thenN ?_
                refine To.seq ?_
                refine To.block ?_
                refine To.seq ?_
                refine To.reg ?_
                refine To.rd rfl rfl rfl (Rd.indexRos encM_ok (i := 3) (j := m) rfl rfl rfl s62 rfl hx) ?_
                refine To.rd rfl rfl rfl (Rd.load (i := 3) rfl rfl c3 rfl (gives_1 (ros_gives encM_ok hx) rfl)) ?_
                refine To.rd rfl rfl rfl (Rd.assign rfl rfl) ?_
                refine To.nil ?_
                refine To.thenN ?_
                refine To.reg ?_
                refine To.rd rfl rfl rfl (Rd.move rfl rfl) ?_
                refine To.rdB rfl rfl rfl (Rd.move rfl rfl) (fun g58 => ?_) (fun g58 => ?_)
                ·
                  refine To.sk rfl rfl rfl ?_
                  refine To.sk rfl rfl rfl ?_
                  refine To.sk rfl rfl rfl ?_
                  refine To.rd rfl rfl rfl (Rd.pickT rfl rfl rfl) ?_
                  refine To.rd rfl rfl rfl (Rd.assign rfl rfl) ?_
                  refine To.nil ?_
                  refine To.blockN ?_
                  refine To.thenN ?_
                  refine To.reg ?_
                  refine To.rd rfl rfl rfl (Rd.inc rfl rfl rfl (by omega)) ?_
                  refine To.rd rfl rfl rfl (Rd.move rfl rfl) ?_
                  refine To.nil ?_
                  refine To.thenN ?_
                  refine To.sub [(0, .slice Al l.length cl), (1, .slice Au u.length qu), (2, .int .i64 n), (7, .slice A7 O.length q7), (26, .int .i64 ((l.length : Nat) : Int)), (27, .int .i64 ((j : Nat) : Int)), (8, .int .i64 ((j : Nat) : Int)), (9, .bool ok), (12, .int .i64 ((i : Nat) : Int)), (13, .bool true), (51, .slice Au u.length qu), (52, .int .i64 ((u.length : Nat) : Int)), (53, .int .i64 (((m + 1) : Nat) : Int))] ⟨rfl, rfl, rfl, rfl, rfl, rfl, rfl, rfl, rfl, rfl, rfl, rfl, rfl, trivial⟩ ?_
                  refine To.only [0, 0, 0, 0] rfl ?_
                  refine To.again (u.length - (m + 1)) (by omega) ⟨m + 1, true, rfl, rfl, rfl, (by omega), (by rw [cont_step hx, ← hb, g58]; rfl)⟩
                ·
                  refine To.rd rfl rfl rfl (Rd.move rfl rfl) ?_
                  refine To.rd rfl rfl rfl (Rd.move rfl rfl) ?_
                  refine To.rd rfl rfl rfl (Rd.eql rfl rfl rfl) ?_
                  refine To.rd rfl rfl rfl (Rd.pickF rfl rfl rfl) ?_
                  refine To.rd rfl rfl rfl (Rd.assign rfl rfl) ?_
                  refine To.nil ?_
                  refine To.blockN ?_
                  refine To.thenN ?_
                  refine To.reg ?_
                  refine To.rd rfl rfl rfl (Rd.inc rfl rfl rfl (by omega)) ?_
                  refine To.rd rfl rfl rfl (Rd.move rfl rfl) ?_
                  refine To.nil ?_
                  refine To.thenN ?_
                  refine To.sub [(0, .slice Al l.length cl), (1, .slice Au u.length qu), (2, .int .i64 n), (7, .slice A7 O.length q7), (26, .int .i64 ((l.length : Nat) : Int)), (27, .int .i64 ((j : Nat) : Int)), (8, .int .i64 ((j : Nat) : Int)), (9, .bool ok), (12, .int .i64 ((i : Nat) : Int)), (13, .bool (decide (((x : Nat) : Int) = ((i : Nat) : Int)))), (51, .slice Au u.length qu), (52, .int .i64 ((u.length : Nat) : Int)), (53, .int .i64 (((m + 1) : Nat) : Int))] ⟨rfl, rfl, rfl, rfl, rfl, rfl, rfl, rfl, rfl, rfl, rfl, rfl, rfl, trivial⟩ ?_
                  refine To.only [0, 0, 0, 0] rfl ?_
                  refine To.again (u.length - (m + 1)) (by omega) ⟨m + 1, (decide (((x : Nat) : Int) = ((i : Nat) : Int))), rfl, rfl, rfl, (by omega), (by rw [cont_step hx, ← hb, g58]; rfl)⟩
              ·
                refine To.exit ?_
                refine To.thenX ?_
                refine To.thenX ?_
                refine To.blockX ?_
                refine To.thenN ?_
                have hbu : b = u.contains i := by rw [hb, show m = u.length by omega, List.take_length]
                refine To.flow [ros Ev.cells Al l] [⟨0, [], 0⟩, ⟨1, [], 0⟩, ⟨2, [], 0⟩, ⟨3, [], 0⟩, ⟨4, [], 0⟩, ⟨5, [], 0⟩, ⟨6, [], 0⟩, ⟨7, [], 0⟩, ⟨8, [], 0⟩, ⟨9, [], 0⟩, ⟨10, [], 3⟩, ⟨11, [], 0⟩, ⟨12, [], 0⟩, ⟨13, [], 0⟩] mixed (by kernel_rfl) (oks_cons (oks_at 2 rfl) (oks_nil _)) ?_
                refine FlowS.free rfl rfl rfl rfl (Rd.move rfl rfl) ?_
                refine FlowS.rdB rfl rfl rfl rfl (Rd.move rfl rfl) (fun g65 => ?_) (fun g65 => ?_)
                ·
                  refine FlowS.skip (by decide) rfl rfl rfl rfl ?_
                  refine FlowS.skip (by decide) rfl rfl rfl rfl ?_
                  refine FlowS.skip (by decide) rfl rfl rfl rfl ?_
                  refine FlowS.skip (by decide) rfl rfl rfl rfl ?_
                  refine FlowS.skip (by decide) rfl rfl rfl rfl ?_
                  refine FlowS.skip (by decide) rfl rfl rfl rfl ?_
                  refine FlowS.skip (by decide) rfl rfl rfl rfl ?_
                  refine FlowS.skip (by decide) rfl rfl rfl rfl ?_
                  refine FlowS.skip (by decide) rfl rfl rfl rfl ?_
                  refine FlowS.skip (by decide) rfl rfl rfl rfl ?_
                  refine FlowS.free rfl rfl rfl rfl (Rd.pickT rfl rfl rfl) ?_
                  refine FlowS.free rfl rfl rfl rfl (Rd.assign rfl rfl) ?_
                  refine FlowS.fin ?_
                  refine To.as [rows Sn.cells 62 1 A7 q7 O, natsS (O.map Sn.ar), ros Ev.cells Al l, ros encM Au u] rfl ?_
                  refine To.sub [(0, .slice Al l.length cl), (1, .slice Au u.length qu), (2, .int .i64 n), (7, .slice A7 O.length q7), (26, .int .i64 ((l.length : Nat) : Int)), (27, .int .i64 ((j : Nat) : Int)), (8, .int .i64 ((j : Nat) : Int)), (9, .bool true), (12, .int .i64 ((i : Nat) : Int)), (13, .bool b), (51, .slice Au u.length qu), (52, .int .i64 ((u.length : Nat) : Int)), (53, .int .i64 ((m : Nat) : Int)), (54, .bool (decide (((m : Nat) : Int) < ((u.length : Nat) : Int))))] ⟨rfl, rfl, rfl, rfl, rfl, rfl, rfl, rfl, rfl, rfl, rfl, rfl, rfl, rfl, trivial⟩ ?_
                  refine To.blockN ?_
                  refine To.thenN ?_
                  refine To.reg ?_
                  refine To.rd rfl rfl rfl (Rd.move rfl rfl) ?_
                  refine To.rd rfl rfl rfl (Rd.inc rfl rfl rfl (by omega)) ?_
                  refine To.rd rfl rfl rfl (Rd.assign rfl rfl) ?_
                  refine To.nil ?_
                  refine To.thenN ?_
                  refine To.sub [(0, .slice Al l.length cl), (1, .slice Au u.length qu), (2, .int .i64 n), (7, .slice A7 O.length q7), (26, .int .i64 ((l.length : Nat) : Int)), (27, .int .i64 ((j : Nat) : Int)), (8, .int .i64 ((j : Nat) : Int)), (9, .bool true), (12, .int .i64 (((i + 1) : Nat) : Int))] ⟨rfl, rfl, rfl, rfl, rfl, rfl, rfl, rfl, rfl, trivial⟩ ?_
                  refine To.only [0, 0, 0, 0] rfl ?_
                  refine To.again (j - (i + 1)) (by omega) ⟨i + 1, true, rfl, rfl, rfl, (by omega), (by rw [okIU_succ, ← hok2, c48, ← hbu, g65]; rfl)⟩
                ·
                  refine FlowS.free rfl rfl rfl rfl (Rd.move rfl rfl) ?_
                  refine FlowS.free rfl rfl rfl rfl (Rd.move rfl rfl) ?_
                  refine FlowS.free rfl rfl rfl rfl (Rd.indexRos encE (i := 0) (j := i) rfl rfl rfl s22 rfl hx) ?_
                  refine FlowS.free rfl rfl rfl rfl (Rd.loadS (i := 0) rfl rfl r37 rfl (ros_gives encE hx) (encE.len _)) ?_
                  refine FlowS.free rfl rfl rfl rfl (Rd.move rfl rfl) ?_
                  refine FlowS.free rfl rfl rfl rfl (Rd.move rfl rfl) ?_
                  refine FlowS.free rfl rfl rfl rfl (Rd.indexRos encE (i := 0) (j := j) rfl rfl rfl s22 rfl hy) ?_
                  refine FlowS.free rfl rfl rfl rfl (Rd.loadS (i := 0) rfl rfl r37 rfl (ros_gives encE hy) (encE.len _)) ?_
                  refine FlowS.callQ rfl rfl rfl rfl (Ent.fn rfl rfl ca23) (dependent_fn x y) rfl (oks_nil _) ?_
                  refine FlowS.free rfl rfl rfl rfl (Rd.not rfl rfl) ?_
                  refine FlowS.free rfl rfl rfl rfl (Rd.pickF rfl rfl rfl) ?_
                  refine FlowS.free rfl rfl rfl rfl (Rd.assign rfl rfl) ?_
                  refine FlowS.fin ?_
                  refine To.as [rows Sn.cells 62 1 A7 q7 O, natsS (O.map Sn.ar), ros Ev.cells Al l, ros encM Au u] rfl ?_
                  refine To.sub [(0, .slice Al l.length cl), (1, .slice Au u.length qu), (2, .int .i64 n), (7, .slice A7 O.length q7), (26, .int .i64 ((l.length : Nat) : Int)), (27, .int .i64 ((j : Nat) : Int)), (8, .int .i64 ((j : Nat) : Int)), (9, .bool (!(x.dep y))), (12, .int .i64 ((i : Nat) : Int)), (13, .bool b), (51, .slice Au u.length qu), (52, .int .i64 ((u.length : Nat) : Int)), (53, .int .i64 ((m : Nat) : Int)), (54, .bool (decide (((m : Nat) : Int) < ((u.length : Nat) : Int))))] ⟨rfl, rfl, rfl, rfl, rfl, rfl, rfl, rfl, rfl, rfl, rfl, rfl, rfl, rfl, trivial⟩ ?_
                  refine To.blockN ?_
                  refine To.thenN ?_
                  refine To.reg ?_
                  refine To.rd rfl rfl rfl (Rd.move rfl rfl) ?_
                  refine To.rd rfl rfl rfl (Rd.inc rfl rfl rfl (by omega)) ?_
                  refine To.rd rfl rfl rfl (Rd.assign rfl rfl) ?_
                  refine To.nil ?_
                  refine To.thenN ?_
                  refine To.sub [(0, .slice Al l.length cl), (1, .slice Au u.length qu), (2, .int .i64 n), (7, .slice A7 O.length q7), (26, .int .i64 ((l.length : Nat) : Int)), (27, .int .i64 ((j : Nat) : Int)), (8, .int .i64 ((j : Nat) : Int)), (9, .bool (!(x.dep y))), (12, .int .i64 (((i + 1) : Nat) : Int))] ⟨rfl, rfl, rfl, rfl, rfl, rfl, rfl, rfl, rfl, trivial⟩ ?_
                  refine To.only [0, 0, 0, 0] rfl ?_
                  refine To.again (j - (i + 1)) (by omega) ⟨i + 1, (!(x.dep y)), rfl, rfl, rfl, (by omega), (by rw [okIU_succ, ← hok2, c48, ← hbu, g65, depAt_of hx hy]; rfl)⟩
            ·
              refine To.exit ?_
              refine To.thenX ?_
              refine To.thenX ?_
              refine To.blockX ?_
              refine To.thenN ?_
              refine To.seq ?_
              refine To.reg ?_
              refine To.rd rfl rfl rfl (Rd.move rfl rfl) ?_
              refine To.nil ?_
              refine To.thenN ?_
              refine To.cond rfl (fun c77 => ?_) (fun c77 => ?_)
              ·
                rw [c48] at c77; cases c77
              ·
                refine To.skip ?_
                refine To.blockN ?_
                refine To.thenN ?_
                refine To.reg ?_
                refine To.rd rfl rfl rfl (Rd.inc rfl rfl rfl (by omega)) ?_
                refine To.rd rfl rfl rfl (Rd.move rfl rfl) ?_
                refine To.nil ?_
                refine To.thenN ?_
                refine To.sub [(0, .slice Al l.length cl), (1, .slice Au u.length qu), (2, .int .i64 n), (7, .slice A7 O.length q7), (26, .int .i64 ((l.length : Nat) : Int)), (27, .int .i64 (((j + 1) : Nat) : Int))] ⟨rfl, rfl, rfl, rfl, rfl, rfl, trivial⟩ ?_
                refine To.only [0, 0, 0, 0] rfl ?_
                refine To.again (l.length - (j + 1)) (by omega) ⟨j + 1, O, A7, q7, rfl, rfl, rfl, (by omega), (next_skip hO (by have h := hok2; rw [c48] at h; exact okIU_false h.symm hij))⟩
          ·
            refine To.sk rfl rfl rfl ?_
            refine To.rd rfl rfl rfl (Rd.pickF rfl rfl rfl) ?_
            refine To.nil ?_
            refine To.thenN ?_
            refine To.condF rfl ?_
            refine To.exit ?_
            refine To.thenX ?_
            refine To.thenX ?_
            refine To.blockX ?_
            refine To.thenN ?_
            refine To.seq ?_
            refine To.reg ?_
            refine To.rd rfl rfl rfl (Rd.move rfl rfl) ?_
            refine To.nil ?_
            refine To.thenN ?_
            refine To.cond rfl (fun c77 => ?_) (fun c77 => ?_)
            ·
              have hij2 : i = j := by omega
              refine To.reg ?_
              refine To.rd rfl rfl rfl (Rd.move rfl rfl) ?_
              refine To.rd rfl rfl rfl (Rd.move rfl rfl) ?_
              refine To.mk rfl rfl rfl (Mk.slice0R (enc := encM) rfl s62) ?_
              rintro _ _ ⟨A80, rfl, rfl⟩
              refine To.as [rows encM 3 1 A80 0 ([] : List Nat), rows Sn.cells 62 1 A7 q7 O, natsS (O.map Sn.ar), ros Ev.cells Al l, ros encM Au u] rfl ?_
              refine To.rd rfl rfl rfl (Rd.move rfl rfl) ?_
              refine To.ge rfl rfl rfl (Ge.appendL encM_ok (i := 0) (m := u) rfl s62 rfl rfl rfl (src_ro (i := 4) rfl) (by first | omega | (simp only [List.length_append, List.length_cons, List.length_nil]; omega)) (by first | omega | (simp only [List.length_append, List.length_cons, List.length_nil]; omega))) ?_
              rintro _ _ ⟨A82, q82, rfl, rfl⟩
              refine To.as [rows encM 3 1 A82 q82 (([] : List Nat) ++ u), rows Sn.cells 62 1 A7 q7 O, natsS (O.map Sn.ar), ros Ev.cells Al l, ros encM Au u] rfl ?_
              refine To.rd rfl rfl rfl (Rd.move rfl rfl) ?_
              refine To.mk rfl rfl rfl (Mk.sliceN (us := [.int .i64 ((j : Nat) : Int)]) rfl s62 rfl rfl rfl rfl rfl rfl) ?_
              rintro _ _ ⟨b84, rfl, rfl⟩
              refine To.as [row 3 1 (some ⟨b84, 0, none⟩) 1 1 [.int .i64 ((j : Nat) : Int)], rows encM 3 1 A82 q82 (([] : List Nat) ++ u), rows Sn.cells 62 1 A7 q7 O, natsS (O.map Sn.ar), ros Ev.cells Al l, ros encM Au u] rfl ?_
              refine To.ge rfl rfl rfl (Ge.append1 encM_ok (i := 1) (j := 0) (el := j) rfl s62 rfl rfl rfl rfl rfl (by first | omega | (simp only [List.length_append, List.length_cons, List.length_nil]; omega)) (by first | omega | (simp only [List.length_append, List.length_cons, List.length_nil]; omega))) ?_
              rintro _ _ ⟨A85, q85, rfl, rfl⟩
              refine To.as [row 3 1 (some ⟨b84, 0, none⟩) 1 1 [.int .i64 ((j : Nat) : Int)], rows encM 3 1 A85 q85 (([] : List Nat) ++ u ++ [j]), rows Sn.cells 62 1 A7 q7 O, natsS (O.map Sn.ar), ros Ev.cells Al l, ros encM Au u] rfl ?_
              refine To.rd rfl rfl rfl (Rd.move rfl rfl) ?_
              refine To.rd rfl rfl rfl (Rd.move rfl rfl) ?_
              refine To.rd rfl rfl rfl (Rd.len rfl rfl Try.underlying71) ?_
              refine To.rd rfl rfl rfl (Rd.sub64 rfl rfl rfl (by omega)) ?_
              refine To.only [1, 0, 0, 0, 0, 0] rfl ?_
              refine To.layRow ?_
              refine To.as [ros encM A85 (u ++ [j]), row 3 1 (some ⟨b84, 0, none⟩) 1 1 [.int .i64 ((j : Nat) : Int)], rows Sn.cells 62 1 A7 q7 O, natsS (O.map Sn.ar), ros Ev.cells Al l, ros encM Au u] rfl ?_
              refine To.dup 4 rfl rfl ?_
              refine To.call [0, 0] rfl rfl rfl (Ent.fn rfl rfl ca44) rfl (ih A85 q85 (u ++ [j]) (n - ((O.length : Nat) : Int)) (by omega) (by simp) (by omega)) ?_
              rintro _ _ ⟨A2, q2, O2, rfl, rfl, hO2⟩
              refine To.as [rows Sn.cells 62 1 A2 q2 O2, natsS (O2.map Sn.ar), row 3 1 (some ⟨b84, 0, none⟩) 1 1 [.int .i64 ((j : Nat) : Int)], rows Sn.cells 62 1 A7 q7 O, natsS (O.map Sn.ar), ros Ev.cells Al l, ros encM Au u] rfl ?_
              have hO2l : O2.length ≤ 1000000 := by
                have h := congrArg List.length hO2
                rw [List.length_map, List.length_take] at h
                omega
              refine To.ge rfl rfl rfl (Ge.appendL encSn (i := 3) (m := O2) rfl s71 rfl rfl rfl (src_row (i := 0) rfl) (by first | omega | (simp only [List.length_append, List.length_cons, List.length_nil]; omega)) (by first | omega | (simp only [List.length_append, List.length_cons, List.length_nil]; omega))) ?_
              rintro _ _ ⟨A91, q91, rfl, rfl⟩
              refine To.as [rows Sn.cells 62 1 A2 q2 O2, natsS (O2.map Sn.ar), row 3 1 (some ⟨b84, 0, none⟩) 1 1 [.int .i64 ((j : Nat) : Int)], rows Sn.cells 62 1 A91 q91 (O ++ O2), natsS (O.map Sn.ar), ros Ev.cells Al l, ros encM Au u] rfl ?_
              refine To.rd rfl rfl rfl (Rd.assign rfl rfl) ?_
              refine To.nil ?_
              refine To.sub [(0, .slice Al l.length cl), (1, .slice Au u.length qu), (2, .int .i64 n), (7, .slice A91 ((O ++ O2).length) q91), (26, .int .i64 ((l.length : Nat) : Int)), (27, .int .i64 ((j : Nat) : Int)), (8, .int .i64 ((j : Nat) : Int)), (9, .bool ok), (12, .int .i64 ((i : Nat) : Int)), (48, .bool false), (77, .bool ok)] ⟨rfl, rfl, rfl, rfl, rfl, rfl, rfl, rfl, rfl, rfl, rfl, trivial⟩ ?_
              refine To.blockN ?_
              refine To.thenN ?_
              refine To.reg ?_
              refine To.rd rfl rfl rfl (Rd.inc rfl rfl rfl (by omega)) ?_
              refine To.rd rfl rfl rfl (Rd.move rfl rfl) ?_
              refine To.nil ?_
              refine To.thenN ?_
              refine To.derive (natsS (O.map Sn.ar ++ O2.map Sn.ar)) rfl (natsS_app 4 1 rfl rfl).1 (natsS_app 4 1 rfl rfl).2 ?_
              rw [← List.map_append]
              refine To.sub [(0, .slice Al l.length cl), (1, .slice Au u.length qu), (2, .int .i64 n), (7, .slice A91 (O ++ O2).length q91), (26, .int .i64 ((l.length : Nat) : Int)), (27, .int .i64 (((j + 1) : Nat) : Int))] ⟨rfl, rfl, rfl, rfl, rfl, rfl, trivial⟩ ?_
              refine To.only [4, 0, 4, 4] rfl ?_
              refine To.again (l.length - (j + 1)) (by omega) ⟨j + 1, (O ++ O2), A91, q91, rfl, rfl, rfl, (by omega), (next_push hO hO2 (okU_of (hok2.symm.trans c77) hij2))⟩
            ·
              refine To.skip ?_
              refine To.blockN ?_
              refine To.thenN ?_
              refine To.reg ?_
              refine To.rd rfl rfl rfl (Rd.inc rfl rfl rfl (by omega)) ?_
              refine To.rd rfl rfl rfl (Rd.move rfl rfl) ?_
              refine To.nil ?_
              refine To.thenN ?_
              refine To.sub [(0, .slice Al l.length cl), (1, .slice Au u.length qu), (2, .int .i64 n), (7, .slice A7 O.length q7), (26, .int .i64 ((l.length : Nat) : Int)), (27, .int .i64 (((j + 1) : Nat) : Int))] ⟨rfl, rfl, rfl, rfl, rfl, rfl, trivial⟩ ?_
              refine To.only [0, 0, 0, 0] rfl ?_
              refine To.again (l.length - (j + 1)) (by omega) ⟨j + 1, O, A7, q7, rfl, rfl, rfl, (by omega), (next_skip hO (by have h := hok2; rw [c77] at h; exact okIU_false h.symm hij))⟩
      ·
        refine To.exit ?_
        refine To.thenX ?_
        refine To.thenX ?_
        refine To.blockX ?_
        refine To.thenN ?_
        refine To.seq ?_
        refine To.reg ?_
        refine To.rd rfl rfl rfl (Rd.move rfl rfl) ?_
        refine To.rd rfl rfl rfl (Rd.assign rfl rfl) ?_
        refine To.nil ?_
        refine To.thenN ?_
        refine To.ret ?_
        refine To.only [0, 0] rfl ?_
        refine To.end1 (.inl rfl) Try.results44 rfl ?_
        refine ⟨A7, q7, O, rfl, rfl, ?_⟩
        rw [hO, show j = l.length by omega, preJ_all (by omega)]
theorem rnext_fn (Al : Option Addr) (cl : Nat) (l : List Ev) (hl : l.length ≤ 1000000) : ∀ (k : Nat) (Au : Option Addr) (qu : Nat) (u : List Nat) (n : Int), l.length - u.length = k → u.length ≤ l.length → n ≤ 1000000 →
    Does Try.prog 44 [.slice Al l.length cl, .slice Au u.length qu, .int .i64 n] [ros Ev.cells Al l, ros encM Au u] (fun v Γ' => ∃ A q O, v = .slice A O.length q ∧ Γ' = [rows Sn.cells 62 1 A q O, natsS (O.map Sn.ar)] ∧ O.map Sn.l = (ords l u).take n.toNat)
  | 0, Au, qu, u, n, hk, hu, hn => rnext_step Al cl l hl Au qu u n hu hn fun Au' qu' u' n' h0 h1 h2 => by omega
  | k + 1, Au, qu, u, n, hk, hu, hn => rnext_step Al cl l hl Au qu u n hu hn fun Au' qu' u' n' h0 h1 h2 => rnext_fn Al cl l hl k Au' qu' u' n' (by omega) (by omega) h2
end Go.Proofs.Ytneimfacccgaeaa
