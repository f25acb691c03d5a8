/- The walk of Count. Own text (walks printed by sx.py). -/
import Derived.Test.YtneimfacccgaeaaV13
namespace Go.Proofs.Ytneimfacccgaeaa
open Go.RowKit Go.Flow Go.Mem Go.Sep
theorem rep_at {n k : Nat} (h : k < n) : (List.replicate n (0 : Nat))[k]? = some 0 := by simp [h]
theorem set_ne {α : Type} {D : List α} {j k : Nat} {u : α} (h : k ≠ j) : (D.set j u)[k]? = D[k]? := by rw [List.getElem?_set]; simp [Ne.symm h]
theorem set_at {α : Type} {D : List α} {j : Nat} {u v : α} (h : D[j]? = some v) : (D.set j u)[j]? = some u := by
  have := (List.getElem?_eq_some_iff.1 h).1
  simp [this]
theorem take_at {α : Type} {l : List α} {i j : Nat} {x : α} (h : (l.take j)[i]? = some x) : l[i]? = some x := by
  rw [List.getElem?_take] at h
  split at h
  · exact h
  · cases h
set_option maxHeartbeats 2000000 in
set_option maxRecDepth 100000 in
theorem count_fn (Al : Option Addr) (cl : Nat) (l : List Ev) (hl : l.length ≤ 1000000) (hlc : l.length ≤ cl) :
    Does Try.prog 16 [.slice Al l.length cl] [ros Ev.cells Al l] (fun v _ => v = if l.length ≤ 16 then (.tuple #[.int .u64 ((cntV l : Nat) : Int), .bool true] : Value) else .tuple #[.int .u64 0, .bool false]) := by
  have hz16 : l.length ≤ 16 ∨ 16 < l.length := by omega
  have hm : (if l.length ≤ 16 then (.tuple #[.int .u64 ((cntV l : Nat) : Int), .bool true] : Value) else .tuple #[.int .u64 0, .bool false]) = (if l.length ≤ 16 then (.tuple #[.int .u64 ((cntV l : Nat) : Int), .bool true] : Value) else .tuple #[.int .u64 0, .bool false]) := rfl
  refine Does.enter Try.func16 rfl Try.ntmps16 rfl (fun w0 => ?_)
  refine To.seq ?_
  refine To.reg ?_
  refine To.rd rfl rfl rfl (Rd.assign rfl rfl) ?_
  refine To.rd rfl rfl rfl (Rd.assign rfl rfl) ?_
  refine To.nil ?_
  refine To.thenN ?_
  refine To.seq ?_
  refine To.seq ?_
  refine To.reg ?_
  refine To.rd rfl rfl rfl (Rd.move rfl rfl) ?_
  refine To.rd rfl rfl rfl (Rd.len rfl rfl Try.underlying22) ?_
  refine To.rd rfl rfl rfl (Rd.gtr rfl rfl rfl) ?_
  refine To.nil ?_
  refine To.thenN ?_
  refine To.condP rfl (fun c16 => ?_) (fun c16 => ?_)
  ·
    refine To.seq ?_
    refine To.reg ?_
    refine To.rd rfl rfl rfl (Rd.assign rfl rfl) ?_
    refine To.rd rfl rfl rfl (Rd.assign rfl rfl) ?_
    refine To.nil ?_
    refine To.thenN ?_
    refine To.ret ?_
    refine To.thenR ?_
    refine To.end2 (.inl rfl) Try.results16 rfl rfl ?_
    rw [if_neg (by omega)]
  ·
    have h16 : l.length ≤ 16 := by omega
    have hpw : 2 ^ l.length ≤ 65536 := pow16 h16
    have hpos : 0 < 2 ^ l.length := Nat.two_pow_pos _
    refine To.skip ?_
    refine To.thenN ?_
    refine To.seq ?_
    refine To.reg ?_
    refine To.rd rfl rfl rfl (Rd.move rfl rfl) ?_
    refine To.rd rfl rfl rfl (Rd.len rfl rfl Try.underlying22) ?_
    refine To.mk rfl rfl rfl (Mk.makeRows (enc := encM) (z := 0) (n := l.length) rfl rfl s62 rfl rfl (by omega) (by simp only [maxLen]; omega)) ?_
    rintro _ _ ⟨b19, rfl, rfl⟩
    refine To.as [rows encM 3 1 (some ⟨b19, 0, none⟩) l.length (List.replicate l.length 0), ros Ev.cells Al l] rfl ?_
    refine To.rd rfl rfl rfl (Rd.assign rfl rfl) ?_
    refine To.nil ?_
    refine To.thenN ?_
    refine To.seq ?_
    refine To.seq ?_
    refine To.reg ?_
    refine To.rd rfl rfl rfl (Rd.move rfl rfl) ?_
    refine To.rd rfl rfl rfl (Rd.len rfl rfl Try.underlying22) ?_
    refine To.rd rfl rfl rfl (Rd.move rfl rfl) ?_
    refine To.nil ?_
    refine To.thenN ?_
    refine To.block ?_
    refine To.sub [(0, .slice Al l.length cl), (20, .slice Al l.length cl), (21, .int .i64 ((l.length : Nat) : Int)), (22, .int .i64 ((0 : Nat) : Int)), (4, .slice (some ⟨b19, 0, none⟩) (List.replicate l.length 0).length l.length)] ⟨rfl, rfl, rfl, rfl, rfl, trivial⟩ ?_
    refine To.only [0, 0] rfl ?_
    refine To.loop (fun mz ρ Γ => ∃ (j : Nat) (B : List Nat), ρ = [(0, .slice Al l.length cl), (20, .slice Al l.length cl), (21, .int .i64 ((l.length : Nat) : Int)), (22, .int .i64 ((j : Nat) : Int)), (4, .slice (some ⟨b19, 0, none⟩) B.length l.length)] ∧ Γ = [rows encM 3 1 (some ⟨b19, 0, none⟩) l.length B, ros Ev.cells Al l] ∧ mz = l.length - j ∧ (j ≤ l.length) ∧ (B.length = l.length) ∧ (∀ k, k < j → B[k]? = some (befI l k k)) ∧ (∀ k, j ≤ k → k < l.length → B[k]? = some 0)) (l.length - 0) ⟨0, List.replicate l.length 0, rfl, rfl, rfl, (Nat.zero_le _), (by simp), (fun k h => absurd h (by omega)), (fun k _ h => rep_at h)⟩ ?_
    rintro mz _ _ ⟨j, B, rfl, rfl, rfl, hj, hB, hB1, hB0⟩
    refine To.seq ?_
    refine To.reg ?_
    refine To.rd rfl rfl rfl (Rd.lss rfl rfl rfl) ?_
    refine To.nil ?_
    refine To.thenN ?_
    refine To.seq ?_
    refine To.condP rfl (fun c23 => ?_) (fun c23 => ?_)
    ·
      obtain ⟨y, hy⟩ : ∃ z0, l[j]? = some z0 := ⟨l[j]'(by omega), List.getElem?_eq_getElem _⟩
      have hjt : j = (l.take j).length := by rw [List.length_take]; omega
      refine To.skip ?_
      refine To.thenN ?_
      refine To.seq ?_
      refine To.block ?_
      refine To.seq ?_
      refine To.reg ?_
      refine To.rd rfl rfl rfl (Rd.move rfl rfl) ?_
      refine To.rd rfl rfl rfl (Rd.indexRos encE (i := 1) (j := j) rfl rfl rfl s22 rfl hy) ?_
      refine To.rd rfl rfl rfl (Rd.loadS (i := 1) rfl rfl r37 rfl (ros_gives encE hy) (encE.len _)) ?_
      refine To.alloc rfl rfl rfl rfl z37 (fun b6 => ?_)
      refine To.rd rfl rfl rfl (Rd.assign rfl rfl) ?_
      refine To.up rfl rfl (Up.storeS (i := 0) rfl rfl rfl r37 rfl rfl rfl (box_takesAll rfl)) ?_
      refine To.nil ?_
      refine To.thenN ?_
      refine To.seq ?_
      refine To.take j 2 rfl ?_
      refine To.reg ?_
      refine To.rd rfl rfl rfl (Rd.move rfl rfl) ?_
      refine To.rd rfl rfl rfl (Rd.move rfl rfl) ?_
      refine To.rd rfl rfl rfl (Rd.sliceHi (hi := j) rfl s22 rfl rfl (by omega)) ?_
      refine To.rd rfl rfl rfl (Rd.len rfl rfl Try.underlying22) ?_
      refine To.rd rfl rfl rfl (Rd.move rfl rfl) ?_
      refine To.nil ?_
      refine To.thenN ?_
      refine To.block ?_
      refine To.sub [(0, .slice Al l.length cl), (20, .slice Al l.length cl), (21, .int .i64 ((l.length : Nat) : Int)), (22, .int .i64 ((j : Nat) : Int)), (4, .slice (some ⟨b19, 0, none⟩) B.length l.length), (5, .int .i64 ((j : Nat) : Int)), (6, .pointer (some ⟨b6, 0, none⟩)), (29, .slice Al ((l.take j).length) cl), (30, .int .i64 ((j : Nat) : Int)), (31, .int .i64 ((0 : Nat) : Int))] ⟨rfl, rfl, rfl, rfl, rfl, rfl, rfl, congrArg (fun z => some (Value.slice Al z cl)) hjt, rfl, rfl, trivial⟩ ?_
      refine To.only [1, 1, 0, 0] rfl ?_
      refine To.loop (fun mz ρ Γ => ∃ (i : Nat) (D : List Nat), ρ = [(0, .slice Al l.length cl), (20, .slice Al l.length cl), (21, .int .i64 ((l.length : Nat) : Int)), (22, .int .i64 ((j : Nat) : Int)), (4, .slice (some ⟨b19, 0, none⟩) D.length l.length), (5, .int .i64 ((j : Nat) : Int)), (6, .pointer (some ⟨b6, 0, none⟩)), (29, .slice Al ((l.take j).length) cl), (30, .int .i64 ((j : Nat) : Int)), (31, .int .i64 ((i : Nat) : Int))] ∧ Γ = [box b6 y.cells 37, rows encM 3 1 (some ⟨b19, 0, none⟩) l.length D, ros Ev.cells Al (l.take j), ros Ev.cells Al l] ∧ mz = j - i ∧ (i ≤ j) ∧ (D.length = l.length) ∧ (D[j]? = some (befI l j i)) ∧ (∀ k, k < j → D[k]? = some (befI l k k)) ∧ (∀ k, j < k → k < l.length → D[k]? = some 0)) (j - 0) ⟨0, B, rfl, rfl, rfl, (Nat.zero_le _), hB, (hB0 j (Nat.le_refl _) (by omega)), hB1, (fun k h1 h2 => hB0 k (by omega) h2)⟩ ?_
      rintro mz _ _ ⟨i, D, rfl, rfl, rfl, hi, hD, hDj, hD1, hD0⟩
      have hjt2 : j = (l.take j).length := hjt
      refine To.seq ?_
      refine To.reg ?_
      refine To.rd rfl rfl rfl (Rd.lss rfl rfl rfl) ?_
      refine To.nil ?_
      refine To.thenN ?_
      refine To.seq ?_
      refine To.condP rfl (fun c32 => ?_) (fun c32 => ?_)
      ·
        obtain ⟨x, hx⟩ : ∃ z0, (l.take j)[i]? = some z0 := ⟨(l.take j)[i]'(by omega), List.getElem?_eq_getElem _⟩
        have hpi : 2 ^ i ≤ 65536 := pow16 (by omega)
        have hbl : befI l j i < 65536 := bef_lt (by omega)
        refine To.skip ?_
        refine To.thenN ?_
        refine To.seq ?_
        refine To.block ?_
        refine To.seq ?_
        refine To.reg ?_
        refine To.rd rfl rfl rfl (Rd.move rfl rfl) ?_
        refine To.rd rfl rfl rfl (Rd.indexRos encE (i := 2) (j := i) rfl rfl rfl s22 rfl hx) ?_
        refine To.rd rfl rfl rfl (Rd.loadS (i := 2) rfl rfl r37 rfl (ros_gives encE hx) (encE.len _)) ?_
        refine To.alloc rfl rfl rfl rfl z37 (fun b8 => ?_)
        refine To.rd rfl rfl rfl (Rd.assign rfl rfl) ?_
        refine To.up rfl rfl (Up.storeS (i := 0) rfl rfl rfl r37 rfl rfl rfl (box_takesAll rfl)) ?_
        refine To.nil ?_
        refine To.thenN ?_
        refine To.seq ?_
        refine To.reg ?_
        refine To.rd rfl rfl rfl (Rd.loadS (i := 0) rfl rfl r37 rfl box_whole rfl) ?_
        refine To.rd rfl rfl rfl (Rd.loadS (i := 1) rfl rfl r37 rfl box_whole rfl) ?_
        refine To.callV rfl rfl rfl (Ent.fn rfl rfl ca22) (indep_fn x y) rfl (oks_nil _) ?_
        refine To.rd rfl rfl rfl (Rd.not rfl rfl) ?_
        refine To.nil ?_
        refine To.thenN ?_
        refine To.cond rfl (fun c39 => ?_) (fun c39 => ?_)
        ·
          refine To.flow [] [⟨0, [], 0⟩, ⟨1, [], 0⟩, ⟨4, [], 0⟩, ⟨5, [], 0⟩, ⟨2, [], 1⟩, ⟨3, [], 1⟩, ⟨6, [], 0⟩, ⟨7, [], 1⟩, ⟨8, [], 5⟩] mixed (by kernel_rfl) (oks_nil _) ?_
          refine FlowS.free rfl rfl rfl rfl (Rd.move rfl rfl) ?_
          refine FlowS.free rfl rfl rfl rfl (Rd.move rfl rfl) ?_
          refine FlowS.free rfl rfl rfl rfl (Rd.move rfl rfl) ?_
          refine FlowS.free rfl rfl rfl rfl (Rd.shl1 (j := i) rfl rfl rfl (by omega)) ?_
          refine FlowS.rd rfl rfl rfl rfl (Rd.indexRows (i := 2) (j := j) rfl rfl rfl s62 rfl hDj) ?_
          refine FlowS.rd rfl rfl rfl rfl (Rd.load (i := 2) rfl rfl c3 rfl (gives_1 (rows_gives encM_ok hDj) rfl)) ?_
          refine FlowS.free rfl rfl rfl rfl (Rd.or64 (a := (befI l j i)) (b := (2 ^ i)) rfl rfl rfl (by omega) (by omega)) ?_
          refine FlowS.rd rfl rfl rfl rfl (Rd.indexRows (i := 2) (j := j) rfl rfl rfl s62 rfl hDj) ?_
          refine FlowS.up (Γ' := [box b8 [.int .i64 x.t, .int .i64 x.c, .int .u8 x.k, .int .i64 x.p, .int .i64 x.n, .int .i64 x.cp, .int .i64 x.h, .int .i64 x.d, .slice x.A x.args.length x.cap] 37, box b6 y.cells 37, rows encM 3 1 (some ⟨b19, 0, none⟩) l.length (D.set j ((befI l j i) ||| (2 ^ i))), ros Ev.cells Al (l.take j), ros Ev.cells Al l]) rfl rfl rfl (Up.store (i := 2) rfl rfl rfl c3 rfl rfl (rows_takes encM_ok (y := ((befI l j i) ||| (2 ^ i))) (by decide) (by omega))) (oks_nil _) ?_
          refine FlowS.fin ?_
          refine To.as [box b8 [.int .i64 x.t, .int .i64 x.c, .int .u8 x.k, .int .i64 x.p, .int .i64 x.n, .int .i64 x.cp, .int .i64 x.h, .int .i64 x.d, .slice x.A x.args.length x.cap] 37, box b6 y.cells 37, rows encM 3 1 (some ⟨b19, 0, none⟩) l.length (D.set j ((befI l j i) ||| (2 ^ i))), ros Ev.cells Al (l.take j), ros Ev.cells Al l] rfl ?_
          refine To.sub [(0, .slice Al l.length cl), (20, .slice Al l.length cl), (21, .int .i64 ((l.length : Nat) : Int)), (22, .int .i64 ((j : Nat) : Int)), (4, .slice (some ⟨b19, 0, none⟩) D.length l.length), (5, .int .i64 ((j : Nat) : Int)), (6, .pointer (some ⟨b6, 0, none⟩)), (29, .slice Al ((l.take j).length) cl), (30, .int .i64 ((j : Nat) : Int)), (31, .int .i64 ((i : Nat) : Int)), (32, .bool (decide (((i : Nat) : Int) < ((j : Nat) : Int)))), (8, .pointer (some ⟨b8, 0, none⟩)), (7, .int .i64 ((i : Nat) : Int)), (39, .bool (!(x.ind y)))] ⟨rfl, rfl, rfl, rfl, rfl, rfl, rfl, rfl, rfl, rfl, rfl, rfl, rfl, rfl, trivial⟩ ?_
          refine To.blockN ?_
          refine To.thenN ?_
          refine To.reg ?_
          refine To.rd rfl rfl rfl (Rd.inc rfl rfl rfl (by omega)) ?_
          refine To.rd rfl rfl rfl (Rd.move rfl rfl) ?_
          refine To.nil ?_
          refine To.thenN ?_
          have hd : depAt l i j = true := by rw [depAt_of (take_at hx) hy]; have := c39; rw [ind_dep] at this; simpa using this
          
          refine To.sub [(0, .slice Al l.length cl), (20, .slice Al l.length cl), (21, .int .i64 ((l.length : Nat) : Int)), (22, .int .i64 ((j : Nat) : Int)), (4, .slice (some ⟨b19, 0, none⟩) (D.set j ((befI l j i) ||| (2 ^ i))).length l.length), (5, .int .i64 ((j : Nat) : Int)), (6, .pointer (some ⟨b6, 0, none⟩)), (29, .slice Al ((l.take j).length) cl), (30, .int .i64 ((j : Nat) : Int)), (31, .int .i64 (((i + 1) : Nat) : Int))] ⟨rfl, rfl, rfl, rfl, by rw [List.length_set]; rfl, rfl, rfl, rfl, rfl, rfl, trivial⟩ ?_
          refine To.only [1, 1, 1, 1] rfl ?_
          refine To.again (j - (i + 1)) (by omega) ⟨i + 1, (D.set j ((befI l j i) ||| (2 ^ i))), rfl, rfl, rfl, (by omega), (by rw [List.length_set]; exact hD), (by rw [set_at hDj]; simp [befI, hd]), (fun k hk => by rw [set_ne (by omega)]; exact hD1 k hk), (fun k h1 h2 => by rw [set_ne (by omega)]; exact hD0 k h1 h2)⟩
        ·
          refine To.skip ?_
          refine To.blockN ?_
          refine To.thenN ?_
          refine To.reg ?_
          refine To.rd rfl rfl rfl (Rd.inc rfl rfl rfl (by omega)) ?_
          refine To.rd rfl rfl rfl (Rd.move rfl rfl) ?_
          refine To.nil ?_
          refine To.thenN ?_
          have hd : depAt l i j = false := by rw [depAt_of (take_at hx) hy]; have := c39; rw [ind_dep] at this; simpa using this
          
          refine To.sub [(0, .slice Al l.length cl), (20, .slice Al l.length cl), (21, .int .i64 ((l.length : Nat) : Int)), (22, .int .i64 ((j : Nat) : Int)), (4, .slice (some ⟨b19, 0, none⟩) D.length l.length), (5, .int .i64 ((j : Nat) : Int)), (6, .pointer (some ⟨b6, 0, none⟩)), (29, .slice Al ((l.take j).length) cl), (30, .int .i64 ((j : Nat) : Int)), (31, .int .i64 (((i + 1) : Nat) : Int))] ⟨rfl, rfl, rfl, rfl, rfl, rfl, rfl, rfl, rfl, rfl, trivial⟩ ?_
          refine To.only [1, 1, 1, 1] rfl ?_
          refine To.again (j - (i + 1)) (by omega) ⟨i + 1, D, rfl, rfl, rfl, (by omega), hD, (by rw [hDj]; simp [befI, hd]), hD1, hD0⟩
      ·
        refine To.exit ?_
        refine To.thenX ?_
        refine To.thenX ?_
        refine To.blockX ?_
        refine To.blockN ?_
        refine To.thenN ?_
        refine To.reg ?_
        refine To.rd rfl rfl rfl (Rd.inc rfl rfl rfl (by omega)) ?_
        refine To.rd rfl rfl rfl (Rd.move rfl rfl) ?_
        refine To.nil ?_
        refine To.thenN ?_
        refine To.sub [(0, .slice Al l.length cl), (20, .slice Al l.length cl), (21, .int .i64 ((l.length : Nat) : Int)), (22, .int .i64 (((j + 1) : Nat) : Int)), (4, .slice (some ⟨b19, 0, none⟩) D.length l.length)] ⟨rfl, rfl, rfl, rfl, rfl, trivial⟩ ?_
        refine To.only [1, 2] rfl ?_
        refine To.again (l.length - (j + 1)) (by omega) ⟨j + 1, D, rfl, rfl, rfl, (by omega), hD, (fun k hk => by
            by_cases e : k = j
            · subst e; obtain rfl : i = k := by omega
              exact hDj
            · exact hD1 k (by omega)), (fun k h1 h2 => hD0 k (by omega) h2)⟩
    ·
      refine To.exit ?_
      refine To.thenX ?_
      refine To.thenX ?_
      refine To.blockX ?_
      refine To.thenN ?_
      refine To.seq ?_
      refine To.reg ?_
      refine To.rd rfl rfl rfl (Rd.move rfl rfl) ?_
      refine To.rd rfl rfl rfl (Rd.len rfl rfl Try.underlying22) ?_
      refine To.rd rfl rfl rfl (Rd.shl1 (j := l.length) rfl rfl rfl (by omega)) ?_
      refine To.mk rfl rfl rfl (Mk.makeRows (enc := encN) (z := 0) (n := (2 ^ l.length)) rfl rfl s64 rfl rfl (by omega) (by simp only [maxLen]; omega)) ?_
      rintro _ _ ⟨b53, rfl, rfl⟩
      refine To.as [rows encN 30 1 (some ⟨b53, 0, none⟩) (2 ^ l.length) (List.replicate (2 ^ l.length) 0), rows encM 3 1 (some ⟨b19, 0, none⟩) l.length B, ros Ev.cells Al l] rfl ?_
      refine To.rd rfl rfl rfl (Rd.assign rfl rfl) ?_
      refine To.nil ?_
      refine To.thenN ?_
      refine To.seq ?_
      have h00 : (List.replicate (2 ^ l.length) 0)[0]? = some 0 := rep_at hpos
      have hrl : (List.replicate (2 ^ l.length) 0).length = 2 ^ l.length := List.length_replicate
      refine To.reg ?_
      refine To.rd rfl rfl rfl (Rd.move rfl rfl) ?_
      refine To.rd rfl rfl rfl (Rd.indexRows (i := 0) (j := 0) rfl rfl rfl s64 rfl h00) ?_
      refine To.up rfl rfl (Up.store (i := 0) rfl rfl rfl c30 rfl rfl (rows_takes encN_ok (y := 1) (by decide) (by omega))) ?_
      refine To.nil ?_
      refine To.thenN ?_
      refine To.seq ?_
      refine To.seq ?_
      refine To.reg ?_
      refine To.rd rfl rfl rfl (Rd.move rfl rfl) ?_
      refine To.rd rfl rfl rfl (Rd.len rfl rfl Try.underlying64) ?_
      refine To.rd rfl rfl rfl (Rd.move rfl rfl) ?_
      refine To.nil ?_
      refine To.thenN ?_
      refine To.block ?_
      obtain rfl : j = l.length := by omega
      refine To.sub [(4, .slice (some ⟨b19, 0, none⟩) B.length l.length), (9, .slice (some ⟨b53, 0, none⟩) ((dpS l 0).length) (2 ^ l.length)), (56, .slice (some ⟨b53, 0, none⟩) ((dpS l 0).length) (2 ^ l.length)), (57, .int .i64 (((dpS l 0).length : Nat) : Int)), (58, .int .i64 ((0 : Nat) : Int))] ⟨rfl, by rw [show (dpS l 0).length = (List.replicate (2 ^ l.length) 0).length by rw [lenS, List.length_replicate]]; rfl, by rw [show (dpS l 0).length = (List.replicate (2 ^ l.length) 0).length by rw [lenS, List.length_replicate]]; rfl, by rw [show (dpS l 0).length = (List.replicate (2 ^ l.length) 0).length by rw [lenS, List.length_replicate]]; rfl, rfl, trivial⟩ ?_
      refine To.only [1, 0, 0] rfl ?_
      refine To.as [rows encM 3 1 (some ⟨b19, 0, none⟩) l.length B, rows encN 30 1 (some ⟨b53, 0, none⟩) (2 ^ l.length) (dpS l 0), ros Ev.cells Al l] rfl ?_
      refine To.loop (fun mz ρ Γ => ∃ (s : Nat), ρ = [(4, .slice (some ⟨b19, 0, none⟩) B.length l.length), (9, .slice (some ⟨b53, 0, none⟩) ((dpS l s).length) (2 ^ l.length)), (56, .slice (some ⟨b53, 0, none⟩) ((dpS l s).length) (2 ^ l.length)), (57, .int .i64 (((dpS l s).length : Nat) : Int)), (58, .int .i64 ((s : Nat) : Int))] ∧ Γ = [rows encM 3 1 (some ⟨b19, 0, none⟩) l.length B, rows encN 30 1 (some ⟨b53, 0, none⟩) (2 ^ l.length) (dpS l s), ros Ev.cells Al l] ∧ mz = 2 ^ l.length - s ∧ (s ≤ 2 ^ l.length)) (2 ^ l.length - 0) ⟨0, rfl, rfl, rfl, (Nat.zero_le _)⟩ ?_
      rintro mz _ _ ⟨s, rfl, rfl, rfl, hs⟩
      have hlS := lenS l s
      refine To.seq ?_
      refine To.reg ?_
      refine To.rd rfl rfl rfl (Rd.lss rfl rfl rfl) ?_
      refine To.nil ?_
      refine To.thenN ?_
      refine To.seq ?_
      refine To.condP rfl (fun c59 => ?_) (fun c59 => ?_)
      ·
        obtain ⟨c, hc⟩ : ∃ z0, (dpS l s)[s]? = some z0 := ⟨(dpS l s)[s]'(by omega), List.getElem?_eq_getElem _⟩
        have hs2 : s < 2 ^ l.length := by rw [← lenS l s]; omega
        refine To.skip ?_
        refine To.thenN ?_
        refine To.seq ?_
        refine To.block ?_
        refine To.seq ?_
        refine To.reg ?_
        refine To.rd rfl rfl rfl (Rd.move rfl rfl) ?_
        refine To.rd rfl rfl rfl (Rd.indexRows (i := 1) (j := s) rfl rfl rfl s64 rfl hc) ?_
        refine To.rd rfl rfl rfl (Rd.load (i := 1) rfl rfl c30 rfl (gives_1 (rows_gives encN_ok hc) rfl)) ?_
        refine To.rd rfl rfl rfl (Rd.assign rfl rfl) ?_
        refine To.rd rfl rfl rfl (Rd.assign rfl rfl) ?_
        refine To.nil ?_
        refine To.thenN ?_
        refine To.seq ?_
        refine To.reg ?_
        refine To.rd rfl rfl rfl (Rd.move rfl rfl) ?_
        refine To.rd rfl rfl rfl (Rd.len rfl rfl Try.underlying62) ?_
        refine To.rd rfl rfl rfl (Rd.move rfl rfl) ?_
        refine To.nil ?_
        refine To.thenN ?_
        refine To.block ?_
        refine To.sub [(4, .slice (some ⟨b19, 0, none⟩) B.length l.length), (9, .slice (some ⟨b53, 0, none⟩) ((dpJ l s 0).length) (2 ^ l.length)), (56, .slice (some ⟨b53, 0, none⟩) ((dpJ l s 0).length) (2 ^ l.length)), (57, .int .i64 (((dpJ l s 0).length : Nat) : Int)), (58, .int .i64 ((s : Nat) : Int)), (10, .int .i64 ((s : Nat) : Int)), (11, .int .u64 ((c : Nat) : Int)), (63, .slice (some ⟨b19, 0, none⟩) B.length l.length), (64, .int .i64 ((B.length : Nat) : Int)), (65, .int .i64 ((0 : Nat) : Int))] ⟨rfl, rfl, rfl, rfl, rfl, rfl, rfl, rfl, rfl, rfl, trivial⟩ ?_
        refine To.only [0, 0, 0] rfl ?_
        refine To.as [rows encM 3 1 (some ⟨b19, 0, none⟩) l.length B, rows encN 30 1 (some ⟨b53, 0, none⟩) (2 ^ l.length) (dpJ l s 0), ros Ev.cells Al l] rfl ?_
        refine To.loop (fun mz ρ Γ => ∃ (j : Nat), ρ = [(4, .slice (some ⟨b19, 0, none⟩) B.length l.length), (9, .slice (some ⟨b53, 0, none⟩) ((dpJ l s j).length) (2 ^ l.length)), (56, .slice (some ⟨b53, 0, none⟩) ((dpJ l s j).length) (2 ^ l.length)), (57, .int .i64 (((dpJ l s j).length : Nat) : Int)), (58, .int .i64 ((s : Nat) : Int)), (10, .int .i64 ((s : Nat) : Int)), (11, .int .u64 ((c : Nat) : Int)), (63, .slice (some ⟨b19, 0, none⟩) B.length l.length), (64, .int .i64 ((B.length : Nat) : Int)), (65, .int .i64 ((j : Nat) : Int))] ∧ Γ = [rows encM 3 1 (some ⟨b19, 0, none⟩) l.length B, rows encN 30 1 (some ⟨b53, 0, none⟩) (2 ^ l.length) (dpJ l s j), ros Ev.cells Al l] ∧ mz = l.length - j ∧ (j ≤ l.length)) (l.length - 0) ⟨0, rfl, rfl, rfl, (Nat.zero_le _)⟩ ?_
        rintro mz _ _ ⟨j, rfl, rfl, rfl, hj2⟩
        refine To.seq ?_
        refine To.reg ?_
        refine To.rd rfl rfl rfl (Rd.lss rfl rfl rfl) ?_
        refine To.nil ?_
        refine To.thenN ?_
        refine To.seq ?_
        refine To.condP rfl (fun c66 => ?_) (fun c66 => ?_)
        ·
          have hjl : j < l.length := by omega
          have hpj : 2 ^ j ≤ 65536 := pow16 (by omega)
          have hbj := hB1 j (by omega)
          have hbl : befI l j j < 65536 := bef_lt (by omega)
          refine To.skip ?_
          refine To.thenN ?_
          refine To.seq ?_
          refine To.block ?_
          refine To.seq ?_
          refine To.reg ?_
          refine To.rd rfl rfl rfl (Rd.move rfl rfl) ?_
          refine To.rd rfl rfl rfl (Rd.indexRows (i := 0) (j := j) rfl rfl rfl s62 rfl hbj) ?_
          refine To.rd rfl rfl rfl (Rd.load (i := 0) rfl rfl c3 rfl (gives_1 (rows_gives encM_ok hbj) rfl)) ?_
          refine To.rd rfl rfl rfl (Rd.assign rfl rfl) ?_
          refine To.rd rfl rfl rfl (Rd.assign rfl rfl) ?_
          refine To.nil ?_
          refine To.thenN ?_
          refine To.seq ?_
          refine To.reg ?_
          refine To.rd rfl rfl rfl (Rd.move rfl rfl) ?_
          refine To.rd rfl rfl rfl (Rd.gtr rfl rfl rfl) ?_
          refine To.rdP rfl rfl rfl (Rd.move rfl rfl) (fun g72 => ?_) (fun g72 => ?_)
          ·
            refine To.rd rfl rfl rfl (Rd.move rfl rfl) ?_
            refine To.rd rfl rfl rfl (Rd.move rfl rfl) ?_
            refine To.rd rfl rfl rfl (Rd.shl1 (j := j) rfl rfl rfl (by omega)) ?_
            refine To.rd rfl rfl rfl (Rd.and64 (a := s) (b := (2 ^ j)) rfl rfl rfl (by omega) (by omega)) ?_
            refine To.rd rfl rfl rfl (Rd.eql rfl rfl rfl) ?_
            refine To.rd rfl rfl rfl (Rd.pickT rfl rfl rfl) ?_
            refine To.rdP rfl rfl rfl (Rd.move rfl rfl) (fun g79 => ?_) (fun g79 => ?_)
            ·
              refine To.rd rfl rfl rfl (Rd.move rfl rfl) ?_
              refine To.rd rfl rfl rfl (Rd.move rfl rfl) ?_
              refine To.rd rfl rfl rfl (Rd.andNot64 (a := (befI l j j)) (b := s) rfl rfl rfl (by omega) (by omega)) ?_
              refine To.rd rfl rfl rfl (Rd.eql rfl rfl rfl) ?_
              refine To.rd rfl rfl rfl (Rd.pickT rfl rfl rfl) ?_
              refine To.nil ?_
              refine To.sub [(4, .slice (some ⟨b19, 0, none⟩) B.length l.length), (9, .slice (some ⟨b53, 0, none⟩) ((dpJ l s j).length) (2 ^ l.length)), (56, .slice (some ⟨b53, 0, none⟩) ((dpJ l s j).length) (2 ^ l.length)), (57, .int .i64 (((dpJ l s j).length : Nat) : Int)), (58, .int .i64 ((s : Nat) : Int)), (10, .int .i64 ((s : Nat) : Int)), (11, .int .u64 ((c : Nat) : Int)), (63, .slice (some ⟨b19, 0, none⟩) B.length l.length), (64, .int .i64 ((B.length : Nat) : Int)), (65, .int .i64 ((j : Nat) : Int)), (66, .bool (decide (((j : Nat) : Int) < ((B.length : Nat) : Int)))), (12, .int .i64 ((j : Nat) : Int)), (13, .int .i64 (((befI l j j) : Nat) : Int)), (84, .bool (decide ((((befI l j j) &&& (18446744073709551615 - s) : Nat) : Int) = 0)))] ⟨rfl, rfl, rfl, rfl, rfl, rfl, rfl, rfl, rfl, rfl, rfl, rfl, rfl, rfl, trivial⟩ ?_
              refine To.thenN ?_
              refine To.condP rfl (fun c84 => ?_) (fun c84 => ?_)
              ·
                have hb0 := and_pow_zero s j
                have hbit : s.testBit j = false := hb0.1 (by omega)
                have hor := or_pow hbit
                have hlt := ok_lt (l := l) hs2 (by omega) hbit
                have hok : okj l s j = true := (okj_iff (by omega) (by omega)).2 ⟨by omega, by omega⟩
                have hlj := lenJ l s j
                obtain ⟨z, hz⟩ : ∃ z, (dpJ l s j)[s ||| 2 ^ j]? = some z := ⟨(dpJ l s j)[s ||| 2 ^ j]'(by omega), List.getElem?_eq_getElem _⟩
                have hnx : dpJ l s (j + 1) = (dpJ l s j).set (s ||| 2 ^ j) ((z + c) % 18446744073709551616) := by rw [hor]; exact dpJ_yes hc (by omega) hok (by rw [← hor]; exact hz)
                have hlo : s ||| 2 ^ j < (dpJ l s j).length := by omega
                refine To.reg ?_
                refine To.rd rfl rfl rfl (Rd.move rfl rfl) ?_
                refine To.rd rfl rfl rfl (Rd.move rfl rfl) ?_
                refine To.rd rfl rfl rfl (Rd.move rfl rfl) ?_
                refine To.rd rfl rfl rfl (Rd.shl1 (j := j) rfl rfl rfl (by omega)) ?_
                refine To.rd rfl rfl rfl (Rd.or64 (a := s) (b := (2 ^ j)) rfl rfl rfl (by omega) (by omega)) ?_
                refine To.rd rfl rfl rfl (Rd.indexRows (i := 1) (j := (s ||| (2 ^ j))) rfl rfl rfl s64 rfl hz) ?_
                refine To.rd rfl rfl rfl (Rd.load (i := 1) rfl rfl c30 rfl (gives_1 (rows_gives encN_ok hz) rfl)) ?_
                refine To.rd rfl rfl rfl (Rd.move rfl rfl) ?_
                refine To.rd rfl rfl rfl (Rd.addU (a := z) (b := c) rfl rfl rfl) ?_
                refine To.rd rfl rfl rfl (Rd.indexRows (i := 1) (j := (s ||| (2 ^ j))) rfl rfl rfl s64 rfl hz) ?_
                refine To.up rfl rfl (Up.store (i := 1) rfl rfl rfl c30 rfl rfl (rows_takes encN_ok (y := ((z + c) % 18446744073709551616)) (by decide) (by omega))) ?_
                refine To.nil ?_
                refine To.blockN ?_
                refine To.thenN ?_
                refine To.reg ?_
                refine To.rd rfl rfl rfl (Rd.inc rfl rfl rfl (by omega)) ?_
                refine To.rd rfl rfl rfl (Rd.move rfl rfl) ?_
                refine To.nil ?_
                refine To.thenN ?_
                refine To.sub [(4, .slice (some ⟨b19, 0, none⟩) B.length l.length), (9, .slice (some ⟨b53, 0, none⟩) ((dpJ l s (j + 1)).length) (2 ^ l.length)), (56, .slice (some ⟨b53, 0, none⟩) ((dpJ l s (j + 1)).length) (2 ^ l.length)), (57, .int .i64 (((dpJ l s (j + 1)).length : Nat) : Int)), (58, .int .i64 ((s : Nat) : Int)), (10, .int .i64 ((s : Nat) : Int)), (11, .int .u64 ((c : Nat) : Int)), (63, .slice (some ⟨b19, 0, none⟩) B.length l.length), (64, .int .i64 ((B.length : Nat) : Int)), (65, .int .i64 (((j + 1) : Nat) : Int))] ⟨rfl, by rw [show (dpJ l s (j + 1)).length = (dpJ l s j).length by rw [lenJ, lenJ]]; rfl, by rw [show (dpJ l s (j + 1)).length = (dpJ l s j).length by rw [lenJ, lenJ]]; rfl, by rw [show (dpJ l s (j + 1)).length = (dpJ l s j).length by rw [lenJ, lenJ]]; rfl, rfl, rfl, rfl, rfl, rfl, rfl, trivial⟩ ?_
                refine To.only [0, 0, 0] rfl ?_
                refine To.as [rows encM 3 1 (some ⟨b19, 0, none⟩) l.length B, rows encN 30 1 (some ⟨b53, 0, none⟩) (2 ^ l.length) (dpJ l s (j + 1)), ros Ev.cells Al l] (by rw [hnx]) ?_
                refine To.again (l.length - (j + 1)) (by omega) ⟨j + 1, rfl, rfl, rfl, (by omega)⟩
              ·
                refine To.skip ?_
                refine To.blockN ?_
                refine To.thenN ?_
                refine To.reg ?_
                refine To.rd rfl rfl rfl (Rd.inc rfl rfl rfl (by omega)) ?_
                refine To.rd rfl rfl rfl (Rd.move rfl rfl) ?_
                refine To.nil ?_
                refine To.thenN ?_
                have hnx := dpJ_no (j := j) hc (fun hh => c84 (by have := ((okj_iff (by omega) (by omega)).1 hh.2).2; omega))
                refine To.sub [(4, .slice (some ⟨b19, 0, none⟩) B.length l.length), (9, .slice (some ⟨b53, 0, none⟩) ((dpJ l s (j + 1)).length) (2 ^ l.length)), (56, .slice (some ⟨b53, 0, none⟩) ((dpJ l s (j + 1)).length) (2 ^ l.length)), (57, .int .i64 (((dpJ l s (j + 1)).length : Nat) : Int)), (58, .int .i64 ((s : Nat) : Int)), (10, .int .i64 ((s : Nat) : Int)), (11, .int .u64 ((c : Nat) : Int)), (63, .slice (some ⟨b19, 0, none⟩) B.length l.length), (64, .int .i64 ((B.length : Nat) : Int)), (65, .int .i64 (((j + 1) : Nat) : Int))] ⟨rfl, by rw [show (dpJ l s (j + 1)).length = (dpJ l s j).length by rw [lenJ, lenJ]]; rfl, by rw [show (dpJ l s (j + 1)).length = (dpJ l s j).length by rw [lenJ, lenJ]]; rfl, by rw [show (dpJ l s (j + 1)).length = (dpJ l s j).length by rw [lenJ, lenJ]]; rfl, rfl, rfl, rfl, rfl, rfl, rfl, trivial⟩ ?_
                refine To.only [0, 0, 0] rfl ?_
                refine To.as [rows encM 3 1 (some ⟨b19, 0, none⟩) l.length B, rows encN 30 1 (some ⟨b53, 0, none⟩) (2 ^ l.length) (dpJ l s (j + 1)), ros Ev.cells Al l] (by rw [hnx]) ?_
                refine To.again (l.length - (j + 1)) (by omega) ⟨j + 1, rfl, rfl, rfl, (by omega)⟩
            ·
              refine To.sk rfl rfl rfl ?_
              refine To.sk rfl rfl rfl ?_
              refine To.sk rfl rfl rfl ?_
              refine To.sk rfl rfl rfl ?_
              refine To.rd rfl rfl rfl (Rd.pickF rfl rfl rfl) ?_
              refine To.nil ?_
              refine To.sub [(4, .slice (some ⟨b19, 0, none⟩) B.length l.length), (9, .slice (some ⟨b53, 0, none⟩) ((dpJ l s j).length) (2 ^ l.length)), (56, .slice (some ⟨b53, 0, none⟩) ((dpJ l s j).length) (2 ^ l.length)), (57, .int .i64 (((dpJ l s j).length : Nat) : Int)), (58, .int .i64 ((s : Nat) : Int)), (10, .int .i64 ((s : Nat) : Int)), (11, .int .u64 ((c : Nat) : Int)), (63, .slice (some ⟨b19, 0, none⟩) B.length l.length), (64, .int .i64 ((B.length : Nat) : Int)), (65, .int .i64 ((j : Nat) : Int)), (66, .bool (decide (((j : Nat) : Int) < ((B.length : Nat) : Int)))), (12, .int .i64 ((j : Nat) : Int)), (13, .int .i64 (((befI l j j) : Nat) : Int)), (84, .bool false)] ⟨rfl, rfl, rfl, rfl, rfl, rfl, rfl, rfl, rfl, rfl, rfl, rfl, rfl, rfl, trivial⟩ ?_
              refine To.thenN ?_
              refine To.condF rfl ?_
              refine To.skip ?_
              refine To.blockN ?_
              refine To.thenN ?_
              refine To.reg ?_
              refine To.rd rfl rfl rfl (Rd.inc rfl rfl rfl (by omega)) ?_
              refine To.rd rfl rfl rfl (Rd.move rfl rfl) ?_
              refine To.nil ?_
              refine To.thenN ?_
              have hnx := dpJ_no (j := j) hc (fun hh => g79 (by have := ((okj_iff (by omega) (by omega)).1 hh.2).1; omega))
              refine To.sub [(4, .slice (some ⟨b19, 0, none⟩) B.length l.length), (9, .slice (some ⟨b53, 0, none⟩) ((dpJ l s (j + 1)).length) (2 ^ l.length)), (56, .slice (some ⟨b53, 0, none⟩) ((dpJ l s (j + 1)).length) (2 ^ l.length)), (57, .int .i64 (((dpJ l s (j + 1)).length : Nat) : Int)), (58, .int .i64 ((s : Nat) : Int)), (10, .int .i64 ((s : Nat) : Int)), (11, .int .u64 ((c : Nat) : Int)), (63, .slice (some ⟨b19, 0, none⟩) B.length l.length), (64, .int .i64 ((B.length : Nat) : Int)), (65, .int .i64 (((j + 1) : Nat) : Int))] ⟨rfl, by rw [show (dpJ l s (j + 1)).length = (dpJ l s j).length by rw [lenJ, lenJ]]; rfl, by rw [show (dpJ l s (j + 1)).length = (dpJ l s j).length by rw [lenJ, lenJ]]; rfl, by rw [show (dpJ l s (j + 1)).length = (dpJ l s j).length by rw [lenJ, lenJ]]; rfl, rfl, rfl, rfl, rfl, rfl, rfl, trivial⟩ ?_
              refine To.only [0, 0, 0] rfl ?_
              refine To.as [rows encM 3 1 (some ⟨b19, 0, none⟩) l.length B, rows encN 30 1 (some ⟨b53, 0, none⟩) (2 ^ l.length) (dpJ l s (j + 1)), ros Ev.cells Al l] (by rw [hnx]) ?_
              refine To.again (l.length - (j + 1)) (by omega) ⟨j + 1, rfl, rfl, rfl, (by omega)⟩
          ·
            refine To.sk rfl rfl rfl ?_
            refine To.sk rfl rfl rfl ?_
            refine To.sk rfl rfl rfl ?_
            refine To.sk rfl rfl rfl ?_
            refine To.sk rfl rfl rfl ?_
            refine To.rd rfl rfl rfl (Rd.pickF rfl rfl rfl) ?_
            refine To.rd rfl rfl rfl (Rd.move rfl rfl) ?_
            refine To.sk rfl rfl rfl ?_
            refine To.sk rfl rfl rfl ?_
            refine To.sk rfl rfl rfl ?_
            refine To.sk rfl rfl rfl ?_
            refine To.rd rfl rfl rfl (Rd.pickF rfl rfl rfl) ?_
            refine To.nil ?_
            refine To.sub [(4, .slice (some ⟨b19, 0, none⟩) B.length l.length), (9, .slice (some ⟨b53, 0, none⟩) ((dpJ l s j).length) (2 ^ l.length)), (56, .slice (some ⟨b53, 0, none⟩) ((dpJ l s j).length) (2 ^ l.length)), (57, .int .i64 (((dpJ l s j).length : Nat) : Int)), (58, .int .i64 ((s : Nat) : Int)), (10, .int .i64 ((s : Nat) : Int)), (11, .int .u64 ((c : Nat) : Int)), (63, .slice (some ⟨b19, 0, none⟩) B.length l.length), (64, .int .i64 ((B.length : Nat) : Int)), (65, .int .i64 ((j : Nat) : Int)), (66, .bool (decide (((j : Nat) : Int) < ((B.length : Nat) : Int)))), (12, .int .i64 ((j : Nat) : Int)), (13, .int .i64 (((befI l j j) : Nat) : Int)), (84, .bool false)] ⟨rfl, rfl, rfl, rfl, rfl, rfl, rfl, rfl, rfl, rfl, rfl, rfl, rfl, rfl, trivial⟩ ?_
            refine To.thenN ?_
            refine To.condF rfl ?_
            refine To.skip ?_
            refine To.blockN ?_
            refine To.thenN ?_
            refine To.reg ?_
            refine To.rd rfl rfl rfl (Rd.inc rfl rfl rfl (by omega)) ?_
            refine To.rd rfl rfl rfl (Rd.move rfl rfl) ?_
            refine To.nil ?_
            refine To.thenN ?_
            have hnx := dpJ_no (j := j) hc (fun hh => g72 (by omega))
            refine To.sub [(4, .slice (some ⟨b19, 0, none⟩) B.length l.length), (9, .slice (some ⟨b53, 0, none⟩) ((dpJ l s (j + 1)).length) (2 ^ l.length)), (56, .slice (some ⟨b53, 0, none⟩) ((dpJ l s (j + 1)).length) (2 ^ l.length)), (57, .int .i64 (((dpJ l s (j + 1)).length : Nat) : Int)), (58, .int .i64 ((s : Nat) : Int)), (10, .int .i64 ((s : Nat) : Int)), (11, .int .u64 ((c : Nat) : Int)), (63, .slice (some ⟨b19, 0, none⟩) B.length l.length), (64, .int .i64 ((B.length : Nat) : Int)), (65, .int .i64 (((j + 1) : Nat) : Int))] ⟨rfl, by rw [show (dpJ l s (j + 1)).length = (dpJ l s j).length by rw [lenJ, lenJ]]; rfl, by rw [show (dpJ l s (j + 1)).length = (dpJ l s j).length by rw [lenJ, lenJ]]; rfl, by rw [show (dpJ l s (j + 1)).length = (dpJ l s j).length by rw [lenJ, lenJ]]; rfl, rfl, rfl, rfl, rfl, rfl, rfl, trivial⟩ ?_
            refine To.only [0, 0, 0] rfl ?_
            refine To.as [rows encM 3 1 (some ⟨b19, 0, none⟩) l.length B, rows encN 30 1 (some ⟨b53, 0, none⟩) (2 ^ l.length) (dpJ l s (j + 1)), ros Ev.cells Al l] (by rw [hnx]) ?_
            refine To.again (l.length - (j + 1)) (by omega) ⟨j + 1, rfl, rfl, rfl, (by omega)⟩
        ·
          refine To.exit ?_
          refine To.thenX ?_
          refine To.thenX ?_
          refine To.blockX ?_
          refine To.blockN ?_
          refine To.thenN ?_
          refine To.reg ?_
          refine To.rd rfl rfl rfl (Rd.inc rfl rfl rfl (by omega)) ?_
          refine To.rd rfl rfl rfl (Rd.move rfl rfl) ?_
          refine To.nil ?_
          refine To.thenN ?_
          obtain rfl : j = l.length := by omega
          refine To.sub [(4, .slice (some ⟨b19, 0, none⟩) B.length l.length), (9, .slice (some ⟨b53, 0, none⟩) ((dpS l (s + 1)).length) (2 ^ l.length)), (56, .slice (some ⟨b53, 0, none⟩) ((dpS l (s + 1)).length) (2 ^ l.length)), (57, .int .i64 (((dpS l (s + 1)).length : Nat) : Int)), (58, .int .i64 (((s + 1) : Nat) : Int))] ⟨rfl, by rw [show (dpS l (s + 1)).length = (dpJ l s l.length).length by simp only [lenS, lenJ]]; rfl, by rw [show (dpS l (s + 1)).length = (dpJ l s l.length).length by simp only [lenS, lenJ]]; rfl, by rw [show (dpS l (s + 1)).length = (dpJ l s l.length).length by simp only [lenS, lenJ]]; rfl, rfl, trivial⟩ ?_
          refine To.only [0, 0, 0] rfl ?_
          refine To.as [rows encM 3 1 (some ⟨b19, 0, none⟩) l.length B, rows encN 30 1 (some ⟨b53, 0, none⟩) (2 ^ l.length) (dpS l (s + 1)), ros Ev.cells Al l] (by rw [dpS_succ]) ?_
          refine To.again (2 ^ l.length - (s + 1)) (by omega) ⟨s + 1, rfl, rfl, rfl, (by omega)⟩
      ·
        refine To.exit ?_
        refine To.thenX ?_
        refine To.thenX ?_
        refine To.blockX ?_
        refine To.thenN ?_
        refine To.seq ?_
        have hlS := lenS l s
        obtain rfl : s = 2 ^ l.length := by omega
        obtain ⟨z, hz⟩ : ∃ z, (dpS l (2 ^ l.length))[(dpS l (2 ^ l.length)).length - 1]? = some z := ⟨(dpS l (2 ^ l.length))[(dpS l (2 ^ l.length)).length - 1]'(by omega), List.getElem?_eq_getElem _⟩
        refine To.reg ?_
        refine To.rd rfl rfl rfl (Rd.move rfl rfl) ?_
        refine To.rd rfl rfl rfl (Rd.move rfl rfl) ?_
        refine To.rd rfl rfl rfl (Rd.len rfl rfl Try.underlying64) ?_
        refine To.rd rfl rfl rfl (Rd.as (v' := .int .i64 (((dpS l (2 ^ l.length)).length - 1 : Nat) : Int)) (congrArg (Value.int .i64) (by omega)) (Rd.sub64 rfl rfl rfl (by omega))) ?_
        refine To.rd rfl rfl rfl (Rd.indexRows (i := 1) (j := ((dpS l (2 ^ l.length)).length - 1)) rfl rfl rfl s64 rfl hz) ?_
        refine To.rd rfl rfl rfl (Rd.load (i := 1) rfl rfl c30 rfl (gives_1 (rows_gives encN_ok hz) rfl)) ?_
        refine To.rd rfl rfl rfl (Rd.assign rfl rfl) ?_
        refine To.rd rfl rfl rfl (Rd.assign rfl rfl) ?_
        refine To.nil ?_
        refine To.thenN ?_
        refine To.ret ?_
        refine To.end2 (.inl rfl) Try.results16 rfl rfl ?_
        rw [if_pos h16]
        have he : cntV l = z := by unfold cntV; rw [hlS] at hz; rw [hz]; rfl
        rw [he]
end Go.Proofs.Ytneimfacccgaeaa
