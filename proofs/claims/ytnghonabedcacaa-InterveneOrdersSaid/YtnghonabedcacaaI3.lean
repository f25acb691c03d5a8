/- Keys and messages in order, each once; interventions cut and turned. Own text (walks printed by sx.py). -/
import Derived.Test.YtnghonabedcacaaI2
import Derived.Test.YtnghonabedcacaaSepv
namespace Go.Proofs.Ytnghonabedcacaa
open Go.RowKit Go.Flow Go.Mem Go.Sep
theorem flatK : FlatTy Try.prog 37 [.u8, .i64, .i64, .i64] := ⟨⟨_, Try.underlying37, by kernel_rfl⟩, by kernel_rfl, by kernel_rfl⟩
theorem flatM : FlatTy Try.prog 33 [.i64, .i64, .i64] := ⟨⟨_, Try.underlying33, by kernel_rfl⟩, by kernel_rfl, by kernel_rfl⟩
theorem Ky.eq_iff {x y : Ky} : [x.k, x.a, x.b, x.n] = [y.k, y.a, y.b, y.n] ↔ x = y := by cases x; cases y; simp
theorem Ms.eq_iff {x y : Ms} : [x.f, x.t, x.n] = [y.f, y.t, y.n] ↔ x = y := by cases x; cases y; simp
set_option maxHeartbeats 2000000 in
set_option maxRecDepth 100000 in
theorem sortKeys_fn (A : Option Addr) (ca : Nat) (l : List Ky) (hl : l.length ≤ 1000) :
    Does Try.prog 16 [.slice A l.length ca] [ros Ky.cells A l] (fun v Γ' => ∃ B q, v = .slice B (sortU Ky.cmp l).length q ∧ Γ' = [rows Ky.cells 37 4 B q (sortU Ky.cmp l)]) := by
  refine Does.enter Try.func16 rfl Try.ntmps16 rfl (fun w0 => ?_)
  refine To.seq ?_
  refine To.nilRow (Ky.cells) 37 4 ?_
  refine To.reg ?_
  refine To.rd rfl rfl rfl (Rd.assign rfl rfl) ?_
  refine To.nil ?_
  refine To.thenN ?_
  refine To.seq ?_
  refine To.reg ?_
  refine To.rd rfl rfl rfl (Rd.assign rfl rfl) ?_
  refine To.nil ?_
  refine To.thenN ?_
  refine To.seq ?_
  refine To.seq ?_
  refine To.reg ?_
  refine To.rd rfl rfl rfl (Rd.move rfl rfl) ?_
  refine To.rd rfl rfl rfl (Rd.len rfl rfl Try.underlying22) ?_
  refine To.rd rfl rfl rfl (Rd.move rfl rfl) ?_
  refine To.nil ?_
  refine To.thenN ?_
  refine To.block ?_
  refine To.sub [(3, .slice none ([] : List Ky).length 0), (10, .slice A l.length ca), (11, .int .i64 ((l.length : Nat) : Int)), (12, .int .i64 ((0 : Nat) : Int))] ⟨rfl, rfl, rfl, rfl, trivial⟩ ?_
  refine To.only [1, 0] rfl ?_
  refine To.loop (fun mz ρ Γ => ∃ (Ao : Option Addr) (qo : Nat) (O : List Ky) (i : Nat), ρ = [(3, .slice Ao O.length qo), (10, .slice A l.length ca), (11, .int .i64 ((l.length : Nat) : Int)), (12, .int .i64 ((i : Nat) : Int))] ∧ Γ = [ros Ky.cells A l, rows Ky.cells 37 4 Ao qo O] ∧ mz = l.length - i ∧ (i ≤ l.length) ∧ (O = sortU Ky.cmp (l.take i))) (l.length - 0) ⟨none, 0, ([] : List Ky), 0, rfl, rfl, rfl, (Nat.zero_le _), rfl⟩ ?_
  rintro mz _ _ ⟨Ao, qo, O, i, rfl, rfl, rfl, hi, hO⟩
  have hOl : O.length ≤ i := by rw [hO]; exact Nat.le_trans (sortU_len _) (by rw [List.length_take]; omega)
  refine To.seq ?_
  refine To.reg ?_
  refine To.rd rfl rfl rfl (Rd.lss rfl rfl rfl) ?_
  refine To.nil ?_
  refine To.thenN ?_
  refine To.seq ?_
  refine To.condP rfl (fun c13 => ?_) (fun c13 => ?_)
  ·
    obtain ⟨x, hx⟩ : ∃ z0, l[i]? = some z0 := ⟨l[i]'(by omega), List.getElem?_eq_getElem _⟩
    refine To.skip ?_
    refine To.thenN ?_
    refine To.seq ?_
    refine To.block ?_
    refine To.seq ?_
    refine To.reg ?_
    refine To.rd rfl rfl rfl (Rd.indexRos encK (i := 0) (j := i) rfl rfl rfl s22 rfl hx) ?_
    refine To.rd rfl rfl rfl (Rd.loadS (i := 0) rfl rfl r37 rfl (ros_gives encK hx) (encK.len _)) ?_
    refine To.alloc rfl rfl rfl rfl z37 (fun b5 => ?_)
    refine To.up rfl rfl (Up.storeS (i := 0) rfl rfl rfl r37 rfl rfl rfl (box_takesAll rfl)) ?_
    refine To.nil ?_
    refine To.thenN ?_
    refine To.seq ?_
    refine To.nilRow (Ky.cells) 37 4 ?_
    refine To.reg ?_
    refine To.rd rfl rfl rfl (Rd.assign rfl rfl) ?_
    refine To.nil ?_
    refine To.thenN ?_
    refine To.seq ?_
    refine To.reg ?_
    refine To.rd rfl rfl rfl (Rd.assign rfl rfl) ?_
    refine To.nil ?_
    refine To.thenN ?_
    refine To.seq ?_
    refine To.seq ?_
    refine To.reg ?_
    refine To.rd rfl rfl rfl (Rd.move rfl rfl) ?_
    refine To.rd rfl rfl rfl (Rd.len rfl rfl Try.underlying22) ?_
    refine To.rd rfl rfl rfl (Rd.move rfl rfl) ?_
    refine To.nil ?_
    refine To.thenN ?_
    refine To.block ?_
    refine To.sub [(5, .pointer (some ⟨b5, 0, none⟩)), (6, .slice none ([] : List Ky).length 0), (7, .bool false), (10, .slice A l.length ca), (11, .int .i64 ((l.length : Nat) : Int)), (12, .int .i64 ((i : Nat) : Int)), (16, .slice Ao O.length qo), (17, .int .i64 ((O.length : Nat) : Int)), (18, .int .i64 ((0 : Nat) : Int))] ⟨rfl, rfl, rfl, rfl, rfl, rfl, rfl, rfl, rfl, trivial⟩ ?_
    refine To.only [2, 2, 0, 0] rfl ?_
    refine To.loop (fun mz ρ Γ => ∃ (nx : List Ky) (An : Option Addr) (qn : Nat) (d : Bool) (j : Nat), ρ = [(5, .pointer (some ⟨b5, 0, none⟩)), (6, .slice An nx.length qn), (7, .bool d), (10, .slice A l.length ca), (11, .int .i64 ((l.length : Nat) : Int)), (12, .int .i64 ((i : Nat) : Int)), (16, .slice Ao O.length qo), (17, .int .i64 ((O.length : Nat) : Int)), (18, .int .i64 ((j : Nat) : Int))] ∧ Γ = [ros Ky.cells A l, rows Ky.cells 37 4 Ao qo O, rows Ky.cells 37 4 An qn nx, box b5 [.int .u8 x.k, .int .i64 x.a, .int .i64 x.b, .int .i64 x.n] 37] ∧ mz = O.length - j ∧ (j ≤ O.length) ∧ ((d = false → nx.length ≤ j) ∧ nx.length ≤ j + 1) ∧ (insU Ky.cmp x false O = nx ++ insU Ky.cmp x d (O.drop j))) (O.length - 0) ⟨([] : List Ky), none, 0, false, 0, rfl, rfl, rfl, (Nat.zero_le _), ⟨fun _ => Nat.le_refl _, Nat.zero_le _⟩, rfl⟩ ?_
    rintro mz _ _ ⟨nx, An, qn, d, j, rfl, rfl, rfl, hj, hn, hI⟩
    refine To.seq ?_
    refine To.reg ?_
    refine To.rd rfl rfl rfl (Rd.lss rfl rfl rfl) ?_
    refine To.nil ?_
    refine To.thenN ?_
    refine To.seq ?_
    refine To.condP rfl (fun c19 => ?_) (fun c19 => ?_)
    ·
      obtain ⟨y, hy⟩ : ∃ z0, O[j]? = some z0 := ⟨O[j]'(by omega), List.getElem?_eq_getElem _⟩
      refine To.skip ?_
      refine To.thenN ?_
      refine To.seq ?_
      refine To.block ?_
      refine To.seq ?_
      refine To.reg ?_
      refine To.rd rfl rfl rfl (Rd.indexRows (i := 1) (j := j) rfl rfl rfl s22 rfl hy) ?_
      refine To.rd rfl rfl rfl (Rd.loadS (i := 1) rfl rfl r37 rfl (rows_gives encK hy) (encK.len _)) ?_
      refine To.alloc rfl rfl rfl rfl z37 (fun b9 => ?_)
      refine To.up rfl rfl (Up.storeS (i := 0) rfl rfl rfl r37 rfl rfl rfl (box_takesAll rfl)) ?_
      refine To.nil ?_
      refine To.thenN ?_
      refine To.seq ?_
      refine To.seq ?_
      refine To.reg ?_
      refine To.rd rfl rfl rfl (Rd.loadS (i := 0) rfl rfl r37 rfl box_whole rfl) ?_
      refine To.rd rfl rfl rfl (Rd.loadS (i := 4) rfl rfl r37 rfl box_whole rfl) ?_
      refine To.rd rfl rfl rfl (Rd.as (v' := .bool (decide (y = x))) (congrArg Value.bool (decide_eq_decide.2 Ky.eq_iff)) (Rd.eqlF (ks := [.u8, .i64, .i64, .i64]) (xs := [y.k, y.a, y.b, y.n]) (ys := [x.k, x.a, x.b, x.n]) flatK rfl rfl rfl rfl rfl)) ?_
      refine To.nil ?_
      refine To.thenN ?_
      refine To.condP rfl (fun c24 => ?_) (fun c24 => ?_)
      ·
        refine To.reg ?_
        refine To.rd rfl rfl rfl (Rd.assign rfl rfl) ?_
        refine To.nil ?_
        refine To.thenN ?_
        refine To.seq ?_
        refine To.seq ?_
        refine To.reg ?_
        refine To.rd rfl rfl rfl (Rd.move rfl rfl) ?_
        refine To.rd rfl rfl rfl (Rd.not rfl rfl) ?_
        refine To.rd rfl rfl rfl (Rd.move rfl rfl) ?_
        refine To.sk rfl rfl rfl ?_
        refine To.sk rfl rfl rfl ?_
        refine To.sk rfl rfl rfl ?_
        refine To.rd rfl rfl rfl (Rd.pickF rfl rfl rfl) ?_
        refine To.nil ?_
        refine To.thenN ?_
        refine To.condF rfl ?_
        refine To.skip ?_
        refine To.thenN ?_
        refine To.reg ?_
        refine To.rd rfl rfl rfl (Rd.move rfl rfl) ?_
        refine To.rd rfl rfl rfl (Rd.loadS (i := 0) rfl rfl r37 rfl box_whole rfl) ?_
        refine To.mk rfl rfl rfl (Mk.sliceN (us := [.int .u8 y.k, .int .i64 y.a, .int .i64 y.b, .int .i64 y.n]) rfl s22 rfl rfl rfl rfl rfl rfl) ?_
        rintro _ _ ⟨b38, rfl, rfl⟩
        refine To.as [row 37 4 (some ⟨b38, 0, none⟩) 1 1 [.int .u8 y.k, .int .i64 y.a, .int .i64 y.b, .int .i64 y.n], box b9 [.int .u8 y.k, .int .i64 y.a, .int .i64 y.b, .int .i64 y.n] 37, ros Ky.cells A l, rows Ky.cells 37 4 Ao qo O, rows Ky.cells 37 4 An qn nx, box b5 [.int .u8 x.k, .int .i64 x.a, .int .i64 x.b, .int .i64 x.n] 37] rfl ?_
        refine To.ge rfl rfl rfl (Ge.append1 encK (i := 4) (j := 0) (el := y) rfl s22 rfl rfl rfl rfl rfl (by first | omega | (simp only [List.length_append, List.length_cons, List.length_nil]; omega)) (by first | omega | (simp only [List.length_append, List.length_cons, List.length_nil]; omega))) ?_
        rintro _ _ ⟨A39, q39, rfl, rfl⟩
        refine To.as [row 37 4 (some ⟨b38, 0, none⟩) 1 1 [.int .u8 y.k, .int .i64 y.a, .int .i64 y.b, .int .i64 y.n], box b9 [.int .u8 y.k, .int .i64 y.a, .int .i64 y.b, .int .i64 y.n] 37, ros Ky.cells A l, rows Ky.cells 37 4 Ao qo O, rows Ky.cells 37 4 A39 q39 (nx ++ [y]), box b5 [.int .u8 x.k, .int .i64 x.a, .int .i64 x.b, .int .i64 x.n] 37] rfl ?_
        refine To.rd rfl rfl rfl (Rd.assign rfl rfl) ?_
        refine To.nil ?_
        refine To.sub [(5, .pointer (some ⟨b5, 0, none⟩)), (6, .slice A39 ((nx ++ [y]).length) q39), (7, .bool true), (10, .slice A l.length ca), (11, .int .i64 ((l.length : Nat) : Int)), (12, .int .i64 ((i : Nat) : Int)), (16, .slice Ao O.length qo), (17, .int .i64 ((O.length : Nat) : Int)), (18, .int .i64 ((j : Nat) : Int)), (19, .bool (decide (((j : Nat) : Int) < ((O.length : Nat) : Int)))), (9, .pointer (some ⟨b9, 0, none⟩)), (24, .bool (decide (y = x))), (31, .bool false)] ⟨rfl, rfl, rfl, rfl, rfl, rfl, rfl, rfl, rfl, rfl, rfl, rfl, rfl, trivial⟩ ?_
        refine To.blockN ?_
        refine To.thenN ?_
        refine To.reg ?_
        refine To.rd rfl rfl rfl (Rd.inc rfl rfl rfl (by omega)) ?_
        refine To.rd rfl rfl rfl (Rd.move rfl rfl) ?_
        refine To.nil ?_
        refine To.thenN ?_
        refine To.sub [(5, .pointer (some ⟨b5, 0, none⟩)), (6, .slice A39 (nx ++ [y]).length q39), (7, .bool true), (10, .slice A l.length ca), (11, .int .i64 ((l.length : Nat) : Int)), (12, .int .i64 ((i : Nat) : Int)), (16, .slice Ao O.length qo), (17, .int .i64 ((O.length : Nat) : Int)), (18, .int .i64 (((j + 1) : Nat) : Int))] ⟨rfl, rfl, rfl, rfl, rfl, rfl, rfl, rfl, rfl, trivial⟩ ?_
        refine To.only [2, 2, 2, 2] rfl ?_
        refine To.again (O.length - (j + 1)) (by omega) ⟨(nx ++ [y]), A39, q39, true, j + 1, rfl, rfl, rfl, (by omega), ⟨fun e => (by cases e), by simp only [List.length_append, List.length_cons, List.length_nil]; have := hn.1; have := hn.2; omega⟩, (by rw [hI, insU_at hy, if_pos c24]; simp)⟩
      ·
        refine To.skip ?_
        refine To.thenN ?_
        refine To.seq ?_
        refine To.seq ?_
        refine To.reg ?_
        refine To.rd rfl rfl rfl (Rd.move rfl rfl) ?_
        refine To.rd rfl rfl rfl (Rd.not rfl rfl) ?_
        refine To.rdB rfl rfl rfl (Rd.move rfl rfl) (fun g27 => ?_) (fun g27 => ?_)
        ·
          refine To.rd rfl rfl rfl (Rd.loadS (i := 4) rfl rfl r37 rfl box_whole rfl) ?_
          refine To.rd rfl rfl rfl (Rd.loadS (i := 0) rfl rfl r37 rfl box_whole rfl) ?_
          refine To.callV rfl rfl rfl (Ent.fn rfl rfl ca28) (rlessK_fn x y) rfl (oks_nil _) ?_
          refine To.rd rfl rfl rfl (Rd.pickT rfl rfl rfl) ?_
          refine To.nil ?_
          refine To.thenN ?_
          refine To.condP rfl (fun c31 => ?_) (fun c31 => ?_)
          ·
            refine To.seq ?_
            refine To.reg ?_
            refine To.rd rfl rfl rfl (Rd.move rfl rfl) ?_
            refine To.rd rfl rfl rfl (Rd.loadS (i := 4) rfl rfl r37 rfl box_whole rfl) ?_
            refine To.mk rfl rfl rfl (Mk.sliceN (us := [.int .u8 x.k, .int .i64 x.a, .int .i64 x.b, .int .i64 x.n]) rfl s22 rfl rfl rfl rfl rfl rfl) ?_
            rintro _ _ ⟨b34, rfl, rfl⟩
            refine To.as [row 37 4 (some ⟨b34, 0, none⟩) 1 1 [.int .u8 x.k, .int .i64 x.a, .int .i64 x.b, .int .i64 x.n], box b9 [.int .u8 y.k, .int .i64 y.a, .int .i64 y.b, .int .i64 y.n] 37, ros Ky.cells A l, rows Ky.cells 37 4 Ao qo O, rows Ky.cells 37 4 An qn nx, box b5 [.int .u8 x.k, .int .i64 x.a, .int .i64 x.b, .int .i64 x.n] 37] rfl ?_
            refine To.ge rfl rfl rfl (Ge.append1 encK (i := 4) (j := 0) (el := x) rfl s22 rfl rfl rfl rfl rfl (by first | omega | (simp only [List.length_append, List.length_cons, List.length_nil]; omega)) (by first | omega | (simp only [List.length_append, List.length_cons, List.length_nil]; omega))) ?_
            rintro _ _ ⟨A35, q35, rfl, rfl⟩
            refine To.as [row 37 4 (some ⟨b34, 0, none⟩) 1 1 [.int .u8 x.k, .int .i64 x.a, .int .i64 x.b, .int .i64 x.n], box b9 [.int .u8 y.k, .int .i64 y.a, .int .i64 y.b, .int .i64 y.n] 37, ros Ky.cells A l, rows Ky.cells 37 4 Ao qo O, rows Ky.cells 37 4 A35 q35 (nx ++ [x]), box b5 [.int .u8 x.k, .int .i64 x.a, .int .i64 x.b, .int .i64 x.n] 37] rfl ?_
            refine To.rd rfl rfl rfl (Rd.assign rfl rfl) ?_
            refine To.nil ?_
            refine To.sub [(5, .pointer (some ⟨b5, 0, none⟩)), (6, .slice A35 ((nx ++ [x]).length) q35), (7, .bool d), (10, .slice A l.length ca), (11, .int .i64 ((l.length : Nat) : Int)), (12, .int .i64 ((i : Nat) : Int)), (16, .slice Ao O.length qo), (17, .int .i64 ((O.length : Nat) : Int)), (18, .int .i64 ((j : Nat) : Int)), (19, .bool (decide (((j : Nat) : Int) < ((O.length : Nat) : Int)))), (9, .pointer (some ⟨b9, 0, none⟩)), (24, .bool (decide (y = x))), (31, .bool (decide (x.cmp y < 0)))] ⟨rfl, rfl, rfl, rfl, rfl, rfl, rfl, rfl, rfl, rfl, rfl, rfl, rfl, trivial⟩ ?_
            refine To.thenN ?_
            refine To.reg ?_
            refine To.rd rfl rfl rfl (Rd.assign rfl rfl) ?_
            refine To.nil ?_
            refine To.thenN ?_
            refine To.reg ?_
            refine To.rd rfl rfl rfl (Rd.move rfl rfl) ?_
            refine To.rd rfl rfl rfl (Rd.loadS (i := 1) rfl rfl r37 rfl box_whole rfl) ?_
            refine To.mk rfl rfl rfl (Mk.sliceN (us := [.int .u8 y.k, .int .i64 y.a, .int .i64 y.b, .int .i64 y.n]) rfl s22 rfl rfl rfl rfl rfl rfl) ?_
            rintro _ _ ⟨b38_2, rfl, rfl⟩
            refine To.as [row 37 4 (some ⟨b38_2, 0, none⟩) 1 1 [.int .u8 y.k, .int .i64 y.a, .int .i64 y.b, .int .i64 y.n], row 37 4 (some ⟨b34, 0, none⟩) 1 1 [.int .u8 x.k, .int .i64 x.a, .int .i64 x.b, .int .i64 x.n], box b9 [.int .u8 y.k, .int .i64 y.a, .int .i64 y.b, .int .i64 y.n] 37, ros Ky.cells A l, rows Ky.cells 37 4 Ao qo O, rows Ky.cells 37 4 A35 q35 (nx ++ [x]), box b5 [.int .u8 x.k, .int .i64 x.a, .int .i64 x.b, .int .i64 x.n] 37] rfl ?_
            refine To.ge rfl rfl rfl (Ge.append1 encK (i := 5) (j := 0) (el := y) rfl s22 rfl rfl rfl rfl rfl (by first | omega | (simp only [List.length_append, List.length_cons, List.length_nil]; omega)) (by first | omega | (simp only [List.length_append, List.length_cons, List.length_nil]; omega))) ?_
            rintro _ _ ⟨A39_2, q39_2, rfl, rfl⟩
            refine To.as [row 37 4 (some ⟨b38_2, 0, none⟩) 1 1 [.int .u8 y.k, .int .i64 y.a, .int .i64 y.b, .int .i64 y.n], row 37 4 (some ⟨b34, 0, none⟩) 1 1 [.int .u8 x.k, .int .i64 x.a, .int .i64 x.b, .int .i64 x.n], box b9 [.int .u8 y.k, .int .i64 y.a, .int .i64 y.b, .int .i64 y.n] 37, ros Ky.cells A l, rows Ky.cells 37 4 Ao qo O, rows Ky.cells 37 4 A39_2 q39_2 (nx ++ [x] ++ [y]), box b5 [.int .u8 x.k, .int .i64 x.a, .int .i64 x.b, .int .i64 x.n] 37] rfl ?_
            refine To.rd rfl rfl rfl (Rd.assign rfl rfl) ?_
            refine To.nil ?_
            refine To.blockN ?_
            refine To.thenN ?_
            refine To.reg ?_
            refine To.rd rfl rfl rfl (Rd.inc rfl rfl rfl (by omega)) ?_
            refine To.rd rfl rfl rfl (Rd.move rfl rfl) ?_
            refine To.nil ?_
            refine To.thenN ?_
            refine To.sub [(5, .pointer (some ⟨b5, 0, none⟩)), (6, .slice A39_2 (nx ++ [x] ++ [y]).length q39_2), (7, .bool true), (10, .slice A l.length ca), (11, .int .i64 ((l.length : Nat) : Int)), (12, .int .i64 ((i : Nat) : Int)), (16, .slice Ao O.length qo), (17, .int .i64 ((O.length : Nat) : Int)), (18, .int .i64 (((j + 1) : Nat) : Int))] ⟨rfl, rfl, rfl, rfl, rfl, rfl, rfl, rfl, rfl, trivial⟩ ?_
            refine To.only [3, 3, 3, 3] rfl ?_
            refine To.again (O.length - (j + 1)) (by omega) ⟨(nx ++ [x] ++ [y]), A39_2, q39_2, true, j + 1, rfl, rfl, rfl, (by omega), ⟨fun e => (by cases e), by simp only [List.length_append, List.length_cons, List.length_nil]; have := hn.1; have := hn.2; simp at g27; have := hn.1 g27; omega⟩, (by rw [hI, insU_at hy, if_neg c24, if_pos ⟨by simpa using g27, c31⟩]; simp)⟩
          ·
            refine To.skip ?_
            refine To.thenN ?_
            refine To.reg ?_
            refine To.rd rfl rfl rfl (Rd.move rfl rfl) ?_
            refine To.rd rfl rfl rfl (Rd.loadS (i := 0) rfl rfl r37 rfl box_whole rfl) ?_
            refine To.mk rfl rfl rfl (Mk.sliceN (us := [.int .u8 y.k, .int .i64 y.a, .int .i64 y.b, .int .i64 y.n]) rfl s22 rfl rfl rfl rfl rfl rfl) ?_
            rintro _ _ ⟨b38_3, rfl, rfl⟩
            refine To.as [row 37 4 (some ⟨b38_3, 0, none⟩) 1 1 [.int .u8 y.k, .int .i64 y.a, .int .i64 y.b, .int .i64 y.n], box b9 [.int .u8 y.k, .int .i64 y.a, .int .i64 y.b, .int .i64 y.n] 37, ros Ky.cells A l, rows Ky.cells 37 4 Ao qo O, rows Ky.cells 37 4 An qn nx, box b5 [.int .u8 x.k, .int .i64 x.a, .int .i64 x.b, .int .i64 x.n] 37] rfl ?_
            refine To.ge rfl rfl rfl (Ge.append1 encK (i := 4) (j := 0) (el := y) rfl s22 rfl rfl rfl rfl rfl (by first | omega | (simp only [List.length_append, List.length_cons, List.length_nil]; omega)) (by first | omega | (simp only [List.length_append, List.length_cons, List.length_nil]; omega))) ?_
            rintro _ _ ⟨A39_3, q39_3, rfl, rfl⟩
            refine To.as [row 37 4 (some ⟨b38_3, 0, none⟩) 1 1 [.int .u8 y.k, .int .i64 y.a, .int .i64 y.b, .int .i64 y.n], box b9 [.int .u8 y.k, .int .i64 y.a, .int .i64 y.b, .int .i64 y.n] 37, ros Ky.cells A l, rows Ky.cells 37 4 Ao qo O, rows Ky.cells 37 4 A39_3 q39_3 (nx ++ [y]), box b5 [.int .u8 x.k, .int .i64 x.a, .int .i64 x.b, .int .i64 x.n] 37] rfl ?_
            refine To.rd rfl rfl rfl (Rd.assign rfl rfl) ?_
            refine To.nil ?_
            refine To.sub [(5, .pointer (some ⟨b5, 0, none⟩)), (6, .slice A39_3 ((nx ++ [y]).length) q39_3), (7, .bool d), (10, .slice A l.length ca), (11, .int .i64 ((l.length : Nat) : Int)), (12, .int .i64 ((i : Nat) : Int)), (16, .slice Ao O.length qo), (17, .int .i64 ((O.length : Nat) : Int)), (18, .int .i64 ((j : Nat) : Int)), (19, .bool (decide (((j : Nat) : Int) < ((O.length : Nat) : Int)))), (9, .pointer (some ⟨b9, 0, none⟩)), (24, .bool (decide (y = x))), (31, .bool (decide (x.cmp y < 0)))] ⟨rfl, rfl, rfl, rfl, rfl, rfl, rfl, rfl, rfl, rfl, rfl, rfl, rfl, trivial⟩ ?_
            refine To.blockN ?_
            refine To.thenN ?_
            refine To.reg ?_
            refine To.rd rfl rfl rfl (Rd.inc rfl rfl rfl (by omega)) ?_
            refine To.rd rfl rfl rfl (Rd.move rfl rfl) ?_
            refine To.nil ?_
            refine To.thenN ?_
            refine To.sub [(5, .pointer (some ⟨b5, 0, none⟩)), (6, .slice A39_3 (nx ++ [y]).length q39_3), (7, .bool d), (10, .slice A l.length ca), (11, .int .i64 ((l.length : Nat) : Int)), (12, .int .i64 ((i : Nat) : Int)), (16, .slice Ao O.length qo), (17, .int .i64 ((O.length : Nat) : Int)), (18, .int .i64 (((j + 1) : Nat) : Int))] ⟨rfl, rfl, rfl, rfl, rfl, rfl, rfl, rfl, rfl, trivial⟩ ?_
            refine To.only [2, 2, 2, 2] rfl ?_
            refine To.again (O.length - (j + 1)) (by omega) ⟨(nx ++ [y]), A39_3, q39_3, d, j + 1, rfl, rfl, rfl, (by omega), ⟨fun e => (by have := hn.1 e; simp only [List.length_append, List.length_cons, List.length_nil]; omega), by simp only [List.length_append, List.length_cons, List.length_nil]; have := hn.1; have := hn.2; omega⟩, (by rw [hI, insU_at hy, if_neg c24, if_neg (fun e => c31 e.2)]; simp)⟩
        ·
          refine To.sk rfl rfl rfl ?_
          refine To.sk rfl rfl rfl ?_
          refine To.sk rfl rfl rfl ?_
          refine To.rd rfl rfl rfl (Rd.pickF rfl rfl rfl) ?_
          refine To.nil ?_
          refine To.thenN ?_
          refine To.condF rfl ?_
          refine To.skip ?_
          refine To.thenN ?_
          refine To.reg ?_
          refine To.rd rfl rfl rfl (Rd.move rfl rfl) ?_
          refine To.rd rfl rfl rfl (Rd.loadS (i := 0) rfl rfl r37 rfl box_whole rfl) ?_
          refine To.mk rfl rfl rfl (Mk.sliceN (us := [.int .u8 y.k, .int .i64 y.a, .int .i64 y.b, .int .i64 y.n]) rfl s22 rfl rfl rfl rfl rfl rfl) ?_
          rintro _ _ ⟨b38_4, rfl, rfl⟩
          refine To.as [row 37 4 (some ⟨b38_4, 0, none⟩) 1 1 [.int .u8 y.k, .int .i64 y.a, .int .i64 y.b, .int .i64 y.n], box b9 [.int .u8 y.k, .int .i64 y.a, .int .i64 y.b, .int .i64 y.n] 37, ros Ky.cells A l, rows Ky.cells 37 4 Ao qo O, rows Ky.cells 37 4 An qn nx, box b5 [.int .u8 x.k, .int .i64 x.a, .int .i64 x.b, .int .i64 x.n] 37] rfl ?_
          refine To.ge rfl rfl rfl (Ge.append1 encK (i := 4) (j := 0) (el := y) rfl s22 rfl rfl rfl rfl rfl (by first | omega | (simp only [List.length_append, List.length_cons, List.length_nil]; omega)) (by first | omega | (simp only [List.length_append, List.length_cons, List.length_nil]; omega))) ?_
          rintro _ _ ⟨A39_4, q39_4, rfl, rfl⟩
          refine To.as [row 37 4 (some ⟨b38_4, 0, none⟩) 1 1 [.int .u8 y.k, .int .i64 y.a, .int .i64 y.b, .int .i64 y.n], box b9 [.int .u8 y.k, .int .i64 y.a, .int .i64 y.b, .int .i64 y.n] 37, ros Ky.cells A l, rows Ky.cells 37 4 Ao qo O, rows Ky.cells 37 4 A39_4 q39_4 (nx ++ [y]), box b5 [.int .u8 x.k, .int .i64 x.a, .int .i64 x.b, .int .i64 x.n] 37] rfl ?_
          refine To.rd rfl rfl rfl (Rd.assign rfl rfl) ?_
          refine To.nil ?_
          refine To.sub [(5, .pointer (some ⟨b5, 0, none⟩)), (6, .slice A39_4 ((nx ++ [y]).length) q39_4), (7, .bool d), (10, .slice A l.length ca), (11, .int .i64 ((l.length : Nat) : Int)), (12, .int .i64 ((i : Nat) : Int)), (16, .slice Ao O.length qo), (17, .int .i64 ((O.length : Nat) : Int)), (18, .int .i64 ((j : Nat) : Int)), (19, .bool (decide (((j : Nat) : Int) < ((O.length : Nat) : Int)))), (9, .pointer (some ⟨b9, 0, none⟩)), (24, .bool (decide (y = x))), (31, .bool false)] ⟨rfl, rfl, rfl, rfl, rfl, rfl, rfl, rfl, rfl, rfl, rfl, rfl, rfl, trivial⟩ ?_
          refine To.blockN ?_
          refine To.thenN ?_
          refine To.reg ?_
          refine To.rd rfl rfl rfl (Rd.inc rfl rfl rfl (by omega)) ?_
          refine To.rd rfl rfl rfl (Rd.move rfl rfl) ?_
          refine To.nil ?_
          refine To.thenN ?_
          refine To.sub [(5, .pointer (some ⟨b5, 0, none⟩)), (6, .slice A39_4 (nx ++ [y]).length q39_4), (7, .bool d), (10, .slice A l.length ca), (11, .int .i64 ((l.length : Nat) : Int)), (12, .int .i64 ((i : Nat) : Int)), (16, .slice Ao O.length qo), (17, .int .i64 ((O.length : Nat) : Int)), (18, .int .i64 (((j + 1) : Nat) : Int))] ⟨rfl, rfl, rfl, rfl, rfl, rfl, rfl, rfl, rfl, trivial⟩ ?_
          refine To.only [2, 2, 2, 2] rfl ?_
          refine To.again (O.length - (j + 1)) (by omega) ⟨(nx ++ [y]), A39_4, q39_4, d, j + 1, rfl, rfl, rfl, (by omega), ⟨fun e => (by have := hn.1 e; simp only [List.length_append, List.length_cons, List.length_nil]; omega), by simp only [List.length_append, List.length_cons, List.length_nil]; have := hn.1; have := hn.2; omega⟩, (by rw [hI, insU_at hy, if_neg c24, if_neg (fun e => by simp [e.1] at g27)]; simp)⟩
    ·
      refine To.exit ?_
      refine To.thenX ?_
      refine To.thenX ?_
      refine To.blockX ?_
      refine To.thenN ?_
      refine To.seq ?_
      refine To.seq ?_
      have hfin : insU Ky.cmp x false O = nx ++ (if d = true then [] else [x]) := by rw [hI, List.drop_eq_nil_of_le (by omega)]; rfl
      refine To.reg ?_
      refine To.rd rfl rfl rfl (Rd.move rfl rfl) ?_
      refine To.rd rfl rfl rfl (Rd.not rfl rfl) ?_
      refine To.nil ?_
      refine To.thenN ?_
      refine To.cond rfl (fun c42 => ?_) (fun c42 => ?_)
      ·
        refine To.reg ?_
        refine To.rd rfl rfl rfl (Rd.move rfl rfl) ?_
        refine To.rd rfl rfl rfl (Rd.loadS (i := 3) rfl rfl r37 rfl box_whole rfl) ?_
        refine To.mk rfl rfl rfl (Mk.sliceN (us := [.int .u8 x.k, .int .i64 x.a, .int .i64 x.b, .int .i64 x.n]) rfl s22 rfl rfl rfl rfl rfl rfl) ?_
        rintro _ _ ⟨b45, rfl, rfl⟩
        refine To.as [row 37 4 (some ⟨b45, 0, none⟩) 1 1 [.int .u8 x.k, .int .i64 x.a, .int .i64 x.b, .int .i64 x.n], ros Ky.cells A l, rows Ky.cells 37 4 Ao qo O, rows Ky.cells 37 4 An qn nx, box b5 [.int .u8 x.k, .int .i64 x.a, .int .i64 x.b, .int .i64 x.n] 37] rfl ?_
        refine To.ge rfl rfl rfl (Ge.append1 encK (i := 3) (j := 0) (el := x) rfl s22 rfl rfl rfl rfl rfl (by first | omega | (simp only [List.length_append, List.length_cons, List.length_nil]; omega)) (by first | omega | (simp only [List.length_append, List.length_cons, List.length_nil]; omega))) ?_
        rintro _ _ ⟨A46, q46, rfl, rfl⟩
        refine To.as [row 37 4 (some ⟨b45, 0, none⟩) 1 1 [.int .u8 x.k, .int .i64 x.a, .int .i64 x.b, .int .i64 x.n], ros Ky.cells A l, rows Ky.cells 37 4 Ao qo O, rows Ky.cells 37 4 A46 q46 (nx ++ [x]), box b5 [.int .u8 x.k, .int .i64 x.a, .int .i64 x.b, .int .i64 x.n] 37] rfl ?_
        refine To.rd rfl rfl rfl (Rd.assign rfl rfl) ?_
        refine To.nil ?_
        refine To.thenN ?_
        refine To.reg ?_
        refine To.rd rfl rfl rfl (Rd.move rfl rfl) ?_
        refine To.rd rfl rfl rfl (Rd.assign rfl rfl) ?_
        refine To.nil ?_
        refine To.blockN ?_
        refine To.thenN ?_
        refine To.reg ?_
        refine To.rd rfl rfl rfl (Rd.inc rfl rfl rfl (by omega)) ?_
        refine To.rd rfl rfl rfl (Rd.move rfl rfl) ?_
        refine To.nil ?_
        refine To.thenN ?_
        refine To.sub [(3, .slice A46 (nx ++ [x]).length q46), (10, .slice A l.length ca), (11, .int .i64 ((l.length : Nat) : Int)), (12, .int .i64 (((i + 1) : Nat) : Int))] ⟨rfl, rfl, rfl, rfl, trivial⟩ ?_
        refine To.only [1, 2] rfl ?_
        refine To.again (l.length - (i + 1)) (by omega) ⟨A46, q46, (nx ++ [x]), i + 1, rfl, rfl, rfl, (by omega), (by rw [take_of_get hx, sortU_snoc, ← hO, hfin]; rcases d with _ | _ <;> first | (exact absurd c42 (by decide)) | simp)⟩
      ·
        refine To.skip ?_
        refine To.thenN ?_
        refine To.reg ?_
        refine To.rd rfl rfl rfl (Rd.move rfl rfl) ?_
        refine To.rd rfl rfl rfl (Rd.assign rfl rfl) ?_
        refine To.nil ?_
        refine To.blockN ?_
        refine To.thenN ?_
        refine To.reg ?_
        refine To.rd rfl rfl rfl (Rd.inc rfl rfl rfl (by omega)) ?_
        refine To.rd rfl rfl rfl (Rd.move rfl rfl) ?_
        refine To.nil ?_
        refine To.thenN ?_
        refine To.sub [(3, .slice An nx.length qn), (10, .slice A l.length ca), (11, .int .i64 ((l.length : Nat) : Int)), (12, .int .i64 (((i + 1) : Nat) : Int))] ⟨rfl, rfl, rfl, rfl, trivial⟩ ?_
        refine To.only [0, 1] rfl ?_
        refine To.again (l.length - (i + 1)) (by omega) ⟨An, qn, nx, i + 1, rfl, rfl, rfl, (by omega), (by rw [take_of_get hx, sortU_snoc, ← hO, hfin]; rcases d with _ | _ <;> first | (exact absurd c42 (by decide)) | simp)⟩
  ·
    refine To.exit ?_
    refine To.thenX ?_
    refine To.thenX ?_
    refine To.blockX ?_
    refine To.thenN ?_
    refine To.seq ?_
    refine To.reg ?_
    refine To.rd rfl rfl rfl (Rd.move rfl rfl) ?_
    refine To.rd rfl rfl rfl (Rd.assign rfl rfl) ?_
    refine To.nil ?_
    refine To.thenN ?_
    refine To.ret ?_
    refine To.only [1] rfl ?_
    refine To.end1 (.inl rfl) Try.results16 rfl ?_
    rw [show l.take i = l from List.take_of_length_le (by omega)] at hO
    exact ⟨_, _, by rw [hO], by rw [hO]⟩
set_option maxHeartbeats 2000000 in
set_option maxRecDepth 100000 in
theorem sortMessages_fn (A : Option Addr) (ca : Nat) (l : List Ms) (hl : l.length ≤ 1000) :
    Does Try.prog 17 [.slice A l.length ca] [ros Ms.cells A l] (fun v Γ' => ∃ B q, v = .slice B (sortU Ms.cmp l).length q ∧ Γ' = [rows Ms.cells 33 3 B q (sortU Ms.cmp l)]) := by
  refine Does.enter Try.func17 rfl Try.ntmps17 rfl (fun w0 => ?_)
  refine To.seq ?_
  refine To.nilRow (Ms.cells) 33 3 ?_
  refine To.reg ?_
  refine To.rd rfl rfl rfl (Rd.assign rfl rfl) ?_
  refine To.nil ?_
  refine To.thenN ?_
  refine To.seq ?_
  refine To.reg ?_
  refine To.rd rfl rfl rfl (Rd.assign rfl rfl) ?_
  refine To.nil ?_
  refine To.thenN ?_
  refine To.seq ?_
  refine To.seq ?_
  refine To.reg ?_
  refine To.rd rfl rfl rfl (Rd.move rfl rfl) ?_
  refine To.rd rfl rfl rfl (Rd.len rfl rfl Try.underlying23) ?_
  refine To.rd rfl rfl rfl (Rd.move rfl rfl) ?_
  refine To.nil ?_
  refine To.thenN ?_
  refine To.block ?_
  refine To.sub [(3, .slice none ([] : List Ms).length 0), (10, .slice A l.length ca), (11, .int .i64 ((l.length : Nat) : Int)), (12, .int .i64 ((0 : Nat) : Int))] ⟨rfl, rfl, rfl, rfl, trivial⟩ ?_
  refine To.only [1, 0] rfl ?_
  refine To.loop (fun mz ρ Γ => ∃ (Ao : Option Addr) (qo : Nat) (O : List Ms) (i : Nat), ρ = [(3, .slice Ao O.length qo), (10, .slice A l.length ca), (11, .int .i64 ((l.length : Nat) : Int)), (12, .int .i64 ((i : Nat) : Int))] ∧ Γ = [ros Ms.cells A l, rows Ms.cells 33 3 Ao qo O] ∧ mz = l.length - i ∧ (i ≤ l.length) ∧ (O = sortU Ms.cmp (l.take i))) (l.length - 0) ⟨none, 0, ([] : List Ms), 0, rfl, rfl, rfl, (Nat.zero_le _), rfl⟩ ?_
  rintro mz _ _ ⟨Ao, qo, O, i, rfl, rfl, rfl, hi, hO⟩
  have hOl : O.length ≤ i := by rw [hO]; exact Nat.le_trans (sortU_len _) (by rw [List.length_take]; omega)
  refine To.seq ?_
  refine To.reg ?_
  refine To.rd rfl rfl rfl (Rd.lss rfl rfl rfl) ?_
  refine To.nil ?_
  refine To.thenN ?_
  refine To.seq ?_
  refine To.condP rfl (fun c13 => ?_) (fun c13 => ?_)
  ·
    obtain ⟨x, hx⟩ : ∃ z0, l[i]? = some z0 := ⟨l[i]'(by omega), List.getElem?_eq_getElem _⟩
    refine To.skip ?_
    refine To.thenN ?_
    refine To.seq ?_
    refine To.block ?_
    refine To.seq ?_
    refine To.reg ?_
    refine To.rd rfl rfl rfl (Rd.indexRos encM (i := 0) (j := i) rfl rfl rfl s23 rfl hx) ?_
    refine To.rd rfl rfl rfl (Rd.loadS (i := 0) rfl rfl r33 rfl (ros_gives encM hx) (encM.len _)) ?_
    refine To.alloc rfl rfl rfl rfl z33 (fun b5 => ?_)
    refine To.up rfl rfl (Up.storeS (i := 0) rfl rfl rfl r33 rfl rfl rfl (box_takesAll rfl)) ?_
    refine To.nil ?_
    refine To.thenN ?_
    refine To.seq ?_
    refine To.nilRow (Ms.cells) 33 3 ?_
    refine To.reg ?_
    refine To.rd rfl rfl rfl (Rd.assign rfl rfl) ?_
    refine To.nil ?_
    refine To.thenN ?_
    refine To.seq ?_
    refine To.reg ?_
    refine To.rd rfl rfl rfl (Rd.assign rfl rfl) ?_
    refine To.nil ?_
    refine To.thenN ?_
    refine To.seq ?_
    refine To.seq ?_
    refine To.reg ?_
    refine To.rd rfl rfl rfl (Rd.move rfl rfl) ?_
    refine To.rd rfl rfl rfl (Rd.len rfl rfl Try.underlying23) ?_
    refine To.rd rfl rfl rfl (Rd.move rfl rfl) ?_
    refine To.nil ?_
    refine To.thenN ?_
    refine To.block ?_
    refine To.sub [(5, .pointer (some ⟨b5, 0, none⟩)), (6, .slice none ([] : List Ms).length 0), (7, .bool false), (10, .slice A l.length ca), (11, .int .i64 ((l.length : Nat) : Int)), (12, .int .i64 ((i : Nat) : Int)), (16, .slice Ao O.length qo), (17, .int .i64 ((O.length : Nat) : Int)), (18, .int .i64 ((0 : Nat) : Int))] ⟨rfl, rfl, rfl, rfl, rfl, rfl, rfl, rfl, rfl, trivial⟩ ?_
    refine To.only [2, 2, 0, 0] rfl ?_
    refine To.loop (fun mz ρ Γ => ∃ (nx : List Ms) (An : Option Addr) (qn : Nat) (d : Bool) (j : Nat), ρ = [(5, .pointer (some ⟨b5, 0, none⟩)), (6, .slice An nx.length qn), (7, .bool d), (10, .slice A l.length ca), (11, .int .i64 ((l.length : Nat) : Int)), (12, .int .i64 ((i : Nat) : Int)), (16, .slice Ao O.length qo), (17, .int .i64 ((O.length : Nat) : Int)), (18, .int .i64 ((j : Nat) : Int))] ∧ Γ = [ros Ms.cells A l, rows Ms.cells 33 3 Ao qo O, rows Ms.cells 33 3 An qn nx, box b5 [.int .i64 x.f, .int .i64 x.t, .int .i64 x.n] 33] ∧ mz = O.length - j ∧ (j ≤ O.length) ∧ ((d = false → nx.length ≤ j) ∧ nx.length ≤ j + 1) ∧ (insU Ms.cmp x false O = nx ++ insU Ms.cmp x d (O.drop j))) (O.length - 0) ⟨([] : List Ms), none, 0, false, 0, rfl, rfl, rfl, (Nat.zero_le _), ⟨fun _ => Nat.le_refl _, Nat.zero_le _⟩, rfl⟩ ?_
    rintro mz _ _ ⟨nx, An, qn, d, j, rfl, rfl, rfl, hj, hn, hI⟩
    refine To.seq ?_
    refine To.reg ?_
    refine To.rd rfl rfl rfl (Rd.lss rfl rfl rfl) ?_
    refine To.nil ?_
    refine To.thenN ?_
    refine To.seq ?_
    refine To.condP rfl (fun c19 => ?_) (fun c19 => ?_)
    ·
      obtain ⟨y, hy⟩ : ∃ z0, O[j]? = some z0 := ⟨O[j]'(by omega), List.getElem?_eq_getElem _⟩
      refine To.skip ?_
      refine To.thenN ?_
      refine To.seq ?_
      refine To.block ?_
      refine To.seq ?_
      refine To.reg ?_
      refine To.rd rfl rfl rfl (Rd.indexRows (i := 1) (j := j) rfl rfl rfl s23 rfl hy) ?_
      refine To.rd rfl rfl rfl (Rd.loadS (i := 1) rfl rfl r33 rfl (rows_gives encM hy) (encM.len _)) ?_
      refine To.alloc rfl rfl rfl rfl z33 (fun b9 => ?_)
      refine To.up rfl rfl (Up.storeS (i := 0) rfl rfl rfl r33 rfl rfl rfl (box_takesAll rfl)) ?_
      refine To.nil ?_
      refine To.thenN ?_
      refine To.seq ?_
      refine To.seq ?_
      refine To.reg ?_
      refine To.rd rfl rfl rfl (Rd.loadS (i := 0) rfl rfl r33 rfl box_whole rfl) ?_
      refine To.rd rfl rfl rfl (Rd.loadS (i := 4) rfl rfl r33 rfl box_whole rfl) ?_
      refine To.rd rfl rfl rfl (Rd.as (v' := .bool (decide (y = x))) (congrArg Value.bool (decide_eq_decide.2 Ms.eq_iff)) (Rd.eqlF (ks := [.i64, .i64, .i64]) (xs := [y.f, y.t, y.n]) (ys := [x.f, x.t, x.n]) flatM rfl rfl rfl rfl rfl)) ?_
      refine To.nil ?_
      refine To.thenN ?_
      refine To.condP rfl (fun c24 => ?_) (fun c24 => ?_)
      ·
        refine To.reg ?_
        refine To.rd rfl rfl rfl (Rd.assign rfl rfl) ?_
        refine To.nil ?_
        refine To.thenN ?_
        refine To.seq ?_
        refine To.seq ?_
        refine To.reg ?_
        refine To.rd rfl rfl rfl (Rd.move rfl rfl) ?_
        refine To.rd rfl rfl rfl (Rd.not rfl rfl) ?_
        refine To.rd rfl rfl rfl (Rd.move rfl rfl) ?_
        refine To.sk rfl rfl rfl ?_
        refine To.sk rfl rfl rfl ?_
        refine To.sk rfl rfl rfl ?_
        refine To.rd rfl rfl rfl (Rd.pickF rfl rfl rfl) ?_
        refine To.nil ?_
        refine To.thenN ?_
        refine To.condF rfl ?_
        refine To.skip ?_
        refine To.thenN ?_
        refine To.reg ?_
        refine To.rd rfl rfl rfl (Rd.move rfl rfl) ?_
        refine To.rd rfl rfl rfl (Rd.loadS (i := 0) rfl rfl r33 rfl box_whole rfl) ?_
        refine To.mk rfl rfl rfl (Mk.sliceN (us := [.int .i64 y.f, .int .i64 y.t, .int .i64 y.n]) rfl s23 rfl rfl rfl rfl rfl rfl) ?_
        rintro _ _ ⟨b38, rfl, rfl⟩
        refine To.as [row 33 3 (some ⟨b38, 0, none⟩) 1 1 [.int .i64 y.f, .int .i64 y.t, .int .i64 y.n], box b9 [.int .i64 y.f, .int .i64 y.t, .int .i64 y.n] 33, ros Ms.cells A l, rows Ms.cells 33 3 Ao qo O, rows Ms.cells 33 3 An qn nx, box b5 [.int .i64 x.f, .int .i64 x.t, .int .i64 x.n] 33] rfl ?_
        refine To.ge rfl rfl rfl (Ge.append1 encM (i := 4) (j := 0) (el := y) rfl s23 rfl rfl rfl rfl rfl (by first | omega | (simp only [List.length_append, List.length_cons, List.length_nil]; omega)) (by first | omega | (simp only [List.length_append, List.length_cons, List.length_nil]; omega))) ?_
        rintro _ _ ⟨A39, q39, rfl, rfl⟩
        refine To.as [row 33 3 (some ⟨b38, 0, none⟩) 1 1 [.int .i64 y.f, .int .i64 y.t, .int .i64 y.n], box b9 [.int .i64 y.f, .int .i64 y.t, .int .i64 y.n] 33, ros Ms.cells A l, rows Ms.cells 33 3 Ao qo O, rows Ms.cells 33 3 A39 q39 (nx ++ [y]), box b5 [.int .i64 x.f, .int .i64 x.t, .int .i64 x.n] 33] rfl ?_
        refine To.rd rfl rfl rfl (Rd.assign rfl rfl) ?_
        refine To.nil ?_
        refine To.sub [(5, .pointer (some ⟨b5, 0, none⟩)), (6, .slice A39 ((nx ++ [y]).length) q39), (7, .bool true), (10, .slice A l.length ca), (11, .int .i64 ((l.length : Nat) : Int)), (12, .int .i64 ((i : Nat) : Int)), (16, .slice Ao O.length qo), (17, .int .i64 ((O.length : Nat) : Int)), (18, .int .i64 ((j : Nat) : Int)), (19, .bool (decide (((j : Nat) : Int) < ((O.length : Nat) : Int)))), (9, .pointer (some ⟨b9, 0, none⟩)), (24, .bool (decide (y = x))), (31, .bool false)] ⟨rfl, rfl, rfl, rfl, rfl, rfl, rfl, rfl, rfl, rfl, rfl, rfl, rfl, trivial⟩ ?_
        refine To.blockN ?_
        refine To.thenN ?_
        refine To.reg ?_
        refine To.rd rfl rfl rfl (Rd.inc rfl rfl rfl (by omega)) ?_
        refine To.rd rfl rfl rfl (Rd.move rfl rfl) ?_
        refine To.nil ?_
        refine To.thenN ?_
        refine To.sub [(5, .pointer (some ⟨b5, 0, none⟩)), (6, .slice A39 (nx ++ [y]).length q39), (7, .bool true), (10, .slice A l.length ca), (11, .int .i64 ((l.length : Nat) : Int)), (12, .int .i64 ((i : Nat) : Int)), (16, .slice Ao O.length qo), (17, .int .i64 ((O.length : Nat) : Int)), (18, .int .i64 (((j + 1) : Nat) : Int))] ⟨rfl, rfl, rfl, rfl, rfl, rfl, rfl, rfl, rfl, trivial⟩ ?_
        refine To.only [2, 2, 2, 2] rfl ?_
        refine To.again (O.length - (j + 1)) (by omega) ⟨(nx ++ [y]), A39, q39, true, j + 1, rfl, rfl, rfl, (by omega), ⟨fun e => (by cases e), by simp only [List.length_append, List.length_cons, List.length_nil]; have := hn.1; have := hn.2; omega⟩, (by rw [hI, insU_at hy, if_pos c24]; simp)⟩
      ·
        refine To.skip ?_
        refine To.thenN ?_
        refine To.seq ?_
        refine To.seq ?_
        refine To.reg ?_
        refine To.rd rfl rfl rfl (Rd.move rfl rfl) ?_
        refine To.rd rfl rfl rfl (Rd.not rfl rfl) ?_
        refine To.rdB rfl rfl rfl (Rd.move rfl rfl) (fun g27 => ?_) (fun g27 => ?_)
        ·
          refine To.rd rfl rfl rfl (Rd.loadS (i := 4) rfl rfl r33 rfl box_whole rfl) ?_
          refine To.rd rfl rfl rfl (Rd.loadS (i := 0) rfl rfl r33 rfl box_whole rfl) ?_
          refine To.callV rfl rfl rfl (Ent.fn rfl rfl ca11) (rlessM_fn x y) rfl (oks_nil _) ?_
          refine To.rd rfl rfl rfl (Rd.pickT rfl rfl rfl) ?_
          refine To.nil ?_
          refine To.thenN ?_
          refine To.condP rfl (fun c31 => ?_) (fun c31 => ?_)
          ·
            refine To.seq ?_
            refine To.reg ?_
            refine To.rd rfl rfl rfl (Rd.move rfl rfl) ?_
            refine To.rd rfl rfl rfl (Rd.loadS (i := 4) rfl rfl r33 rfl box_whole rfl) ?_
            refine To.mk rfl rfl rfl (Mk.sliceN (us := [.int .i64 x.f, .int .i64 x.t, .int .i64 x.n]) rfl s23 rfl rfl rfl rfl rfl rfl) ?_
            rintro _ _ ⟨b34, rfl, rfl⟩
            refine To.as [row 33 3 (some ⟨b34, 0, none⟩) 1 1 [.int .i64 x.f, .int .i64 x.t, .int .i64 x.n], box b9 [.int .i64 y.f, .int .i64 y.t, .int .i64 y.n] 33, ros Ms.cells A l, rows Ms.cells 33 3 Ao qo O, rows Ms.cells 33 3 An qn nx, box b5 [.int .i64 x.f, .int .i64 x.t, .int .i64 x.n] 33] rfl ?_
            refine To.ge rfl rfl rfl (Ge.append1 encM (i := 4) (j := 0) (el := x) rfl s23 rfl rfl rfl rfl rfl (by first | omega | (simp only [List.length_append, List.length_cons, List.length_nil]; omega)) (by first | omega | (simp only [List.length_append, List.length_cons, List.length_nil]; omega))) ?_
            rintro _ _ ⟨A35, q35, rfl, rfl⟩
            refine To.as [row 33 3 (some ⟨b34, 0, none⟩) 1 1 [.int .i64 x.f, .int .i64 x.t, .int .i64 x.n], box b9 [.int .i64 y.f, .int .i64 y.t, .int .i64 y.n] 33, ros Ms.cells A l, rows Ms.cells 33 3 Ao qo O, rows Ms.cells 33 3 A35 q35 (nx ++ [x]), box b5 [.int .i64 x.f, .int .i64 x.t, .int .i64 x.n] 33] rfl ?_
            refine To.rd rfl rfl rfl (Rd.assign rfl rfl) ?_
            refine To.nil ?_
            refine To.sub [(5, .pointer (some ⟨b5, 0, none⟩)), (6, .slice A35 ((nx ++ [x]).length) q35), (7, .bool d), (10, .slice A l.length ca), (11, .int .i64 ((l.length : Nat) : Int)), (12, .int .i64 ((i : Nat) : Int)), (16, .slice Ao O.length qo), (17, .int .i64 ((O.length : Nat) : Int)), (18, .int .i64 ((j : Nat) : Int)), (19, .bool (decide (((j : Nat) : Int) < ((O.length : Nat) : Int)))), (9, .pointer (some ⟨b9, 0, none⟩)), (24, .bool (decide (y = x))), (31, .bool (decide (x.cmp y < 0)))] ⟨rfl, rfl, rfl, rfl, rfl, rfl, rfl, rfl, rfl, rfl, rfl, rfl, rfl, trivial⟩ ?_
            refine To.thenN ?_
            refine To.reg ?_
            refine To.rd rfl rfl rfl (Rd.assign rfl rfl) ?_
            refine To.nil ?_
            refine To.thenN ?_
            refine To.reg ?_
            refine To.rd rfl rfl rfl (Rd.move rfl rfl) ?_
            refine To.rd rfl rfl rfl (Rd.loadS (i := 1) rfl rfl r33 rfl box_whole rfl) ?_
            refine To.mk rfl rfl rfl (Mk.sliceN (us := [.int .i64 y.f, .int .i64 y.t, .int .i64 y.n]) rfl s23 rfl rfl rfl rfl rfl rfl) ?_
            rintro _ _ ⟨b38_2, rfl, rfl⟩
            refine To.as [row 33 3 (some ⟨b38_2, 0, none⟩) 1 1 [.int .i64 y.f, .int .i64 y.t, .int .i64 y.n], row 33 3 (some ⟨b34, 0, none⟩) 1 1 [.int .i64 x.f, .int .i64 x.t, .int .i64 x.n], box b9 [.int .i64 y.f, .int .i64 y.t, .int .i64 y.n] 33, ros Ms.cells A l, rows Ms.cells 33 3 Ao qo O, rows Ms.cells 33 3 A35 q35 (nx ++ [x]), box b5 [.int .i64 x.f, .int .i64 x.t, .int .i64 x.n] 33] rfl ?_
            refine To.ge rfl rfl rfl (Ge.append1 encM (i := 5) (j := 0) (el := y) rfl s23 rfl rfl rfl rfl rfl (by first | omega | (simp only [List.length_append, List.length_cons, List.length_nil]; omega)) (by first | omega | (simp only [List.length_append, List.length_cons, List.length_nil]; omega))) ?_
            rintro _ _ ⟨A39_2, q39_2, rfl, rfl⟩
            refine To.as [row 33 3 (some ⟨b38_2, 0, none⟩) 1 1 [.int .i64 y.f, .int .i64 y.t, .int .i64 y.n], row 33 3 (some ⟨b34, 0, none⟩) 1 1 [.int .i64 x.f, .int .i64 x.t, .int .i64 x.n], box b9 [.int .i64 y.f, .int .i64 y.t, .int .i64 y.n] 33, ros Ms.cells A l, rows Ms.cells 33 3 Ao qo O, rows Ms.cells 33 3 A39_2 q39_2 (nx ++ [x] ++ [y]), box b5 [.int .i64 x.f, .int .i64 x.t, .int .i64 x.n] 33] rfl ?_
            refine To.rd rfl rfl rfl (Rd.assign rfl rfl) ?_
            refine To.nil ?_
            refine To.blockN ?_
            refine To.thenN ?_
            refine To.reg ?_
            refine To.rd rfl rfl rfl (Rd.inc rfl rfl rfl (by omega)) ?_
            refine To.rd rfl rfl rfl (Rd.move rfl rfl) ?_
            refine To.nil ?_
            refine To.thenN ?_
            refine To.sub [(5, .pointer (some ⟨b5, 0, none⟩)), (6, .slice A39_2 (nx ++ [x] ++ [y]).length q39_2), (7, .bool true), (10, .slice A l.length ca), (11, .int .i64 ((l.length : Nat) : Int)), (12, .int .i64 ((i : Nat) : Int)), (16, .slice Ao O.length qo), (17, .int .i64 ((O.length : Nat) : Int)), (18, .int .i64 (((j + 1) : Nat) : Int))] ⟨rfl, rfl, rfl, rfl, rfl, rfl, rfl, rfl, rfl, trivial⟩ ?_
            refine To.only [3, 3, 3, 3] rfl ?_
            refine To.again (O.length - (j + 1)) (by omega) ⟨(nx ++ [x] ++ [y]), A39_2, q39_2, true, j + 1, rfl, rfl, rfl, (by omega), ⟨fun e => (by cases e), by simp only [List.length_append, List.length_cons, List.length_nil]; have := hn.1; have := hn.2; simp at g27; have := hn.1 g27; omega⟩, (by rw [hI, insU_at hy, if_neg c24, if_pos ⟨by simpa using g27, c31⟩]; simp)⟩
          ·
            refine To.skip ?_
            refine To.thenN ?_
            refine To.reg ?_
            refine To.rd rfl rfl rfl (Rd.move rfl rfl) ?_
            refine To.rd rfl rfl rfl (Rd.loadS (i := 0) rfl rfl r33 rfl box_whole rfl) ?_
            refine To.mk rfl rfl rfl (Mk.sliceN (us := [.int .i64 y.f, .int .i64 y.t, .int .i64 y.n]) rfl s23 rfl rfl rfl rfl rfl rfl) ?_
            rintro _ _ ⟨b38_3, rfl, rfl⟩
            refine To.as [row 33 3 (some ⟨b38_3, 0, none⟩) 1 1 [.int .i64 y.f, .int .i64 y.t, .int .i64 y.n], box b9 [.int .i64 y.f, .int .i64 y.t, .int .i64 y.n] 33, ros Ms.cells A l, rows Ms.cells 33 3 Ao qo O, rows Ms.cells 33 3 An qn nx, box b5 [.int .i64 x.f, .int .i64 x.t, .int .i64 x.n] 33] rfl ?_
            refine To.ge rfl rfl rfl (Ge.append1 encM (i := 4) (j := 0) (el := y) rfl s23 rfl rfl rfl rfl rfl (by first | omega | (simp only [List.length_append, List.length_cons, List.length_nil]; omega)) (by first | omega | (simp only [List.length_append, List.length_cons, List.length_nil]; omega))) ?_
            rintro _ _ ⟨A39_3, q39_3, rfl, rfl⟩
            refine To.as [row 33 3 (some ⟨b38_3, 0, none⟩) 1 1 [.int .i64 y.f, .int .i64 y.t, .int .i64 y.n], box b9 [.int .i64 y.f, .int .i64 y.t, .int .i64 y.n] 33, ros Ms.cells A l, rows Ms.cells 33 3 Ao qo O, rows Ms.cells 33 3 A39_3 q39_3 (nx ++ [y]), box b5 [.int .i64 x.f, .int .i64 x.t, .int .i64 x.n] 33] rfl ?_
            refine To.rd rfl rfl rfl (Rd.assign rfl rfl) ?_
            refine To.nil ?_
            refine To.sub [(5, .pointer (some ⟨b5, 0, none⟩)), (6, .slice A39_3 ((nx ++ [y]).length) q39_3), (7, .bool d), (10, .slice A l.length ca), (11, .int .i64 ((l.length : Nat) : Int)), (12, .int .i64 ((i : Nat) : Int)), (16, .slice Ao O.length qo), (17, .int .i64 ((O.length : Nat) : Int)), (18, .int .i64 ((j : Nat) : Int)), (19, .bool (decide (((j : Nat) : Int) < ((O.length : Nat) : Int)))), (9, .pointer (some ⟨b9, 0, none⟩)), (24, .bool (decide (y = x))), (31, .bool (decide (x.cmp y < 0)))] ⟨rfl, rfl, rfl, rfl, rfl, rfl, rfl, rfl, rfl, rfl, rfl, rfl, rfl, trivial⟩ ?_
            refine To.blockN ?_
            refine To.thenN ?_
            refine To.reg ?_
            refine To.rd rfl rfl rfl (Rd.inc rfl rfl rfl (by omega)) ?_
            refine To.rd rfl rfl rfl (Rd.move rfl rfl) ?_
            refine To.nil ?_
            refine To.thenN ?_
            refine To.sub [(5, .pointer (some ⟨b5, 0, none⟩)), (6, .slice A39_3 (nx ++ [y]).length q39_3), (7, .bool d), (10, .slice A l.length ca), (11, .int .i64 ((l.length : Nat) : Int)), (12, .int .i64 ((i : Nat) : Int)), (16, .slice Ao O.length qo), (17, .int .i64 ((O.length : Nat) : Int)), (18, .int .i64 (((j + 1) : Nat) : Int))] ⟨rfl, rfl, rfl, rfl, rfl, rfl, rfl, rfl, rfl, trivial⟩ ?_
            refine To.only [2, 2, 2, 2] rfl ?_
            refine To.again (O.length - (j + 1)) (by omega) ⟨(nx ++ [y]), A39_3, q39_3, d, j + 1, rfl, rfl, rfl, (by omega), ⟨fun e => (by have := hn.1 e; simp only [List.length_append, List.length_cons, List.length_nil]; omega), by simp only [List.length_append, List.length_cons, List.length_nil]; have := hn.1; have := hn.2; omega⟩, (by rw [hI, insU_at hy, if_neg c24, if_neg (fun e => c31 e.2)]; simp)⟩
        ·
          refine To.sk rfl rfl rfl ?_
          refine To.sk rfl rfl rfl ?_
          refine To.sk rfl rfl rfl ?_
          refine To.rd rfl rfl rfl (Rd.pickF rfl rfl rfl) ?_
          refine To.nil ?_
          refine To.thenN ?_
          refine To.condF rfl ?_
          refine To.skip ?_
          refine To.thenN ?_
          refine To.reg ?_
          refine To.rd rfl rfl rfl (Rd.move rfl rfl) ?_
          refine To.rd rfl rfl rfl (Rd.loadS (i := 0) rfl rfl r33 rfl box_whole rfl) ?_
          refine To.mk rfl rfl rfl (Mk.sliceN (us := [.int .i64 y.f, .int .i64 y.t, .int .i64 y.n]) rfl s23 rfl rfl rfl rfl rfl rfl) ?_
          rintro _ _ ⟨b38_4, rfl, rfl⟩
          refine To.as [row 33 3 (some ⟨b38_4, 0, none⟩) 1 1 [.int .i64 y.f, .int .i64 y.t, .int .i64 y.n], box b9 [.int .i64 y.f, .int .i64 y.t, .int .i64 y.n] 33, ros Ms.cells A l, rows Ms.cells 33 3 Ao qo O, rows Ms.cells 33 3 An qn nx, box b5 [.int .i64 x.f, .int .i64 x.t, .int .i64 x.n] 33] rfl ?_
          refine To.ge rfl rfl rfl (Ge.append1 encM (i := 4) (j := 0) (el := y) rfl s23 rfl rfl rfl rfl rfl (by first | omega | (simp only [List.length_append, List.length_cons, List.length_nil]; omega)) (by first | omega | (simp only [List.length_append, List.length_cons, List.length_nil]; omega))) ?_
          rintro _ _ ⟨A39_4, q39_4, rfl, rfl⟩
          refine To.as [row 33 3 (some ⟨b38_4, 0, none⟩) 1 1 [.int .i64 y.f, .int .i64 y.t, .int .i64 y.n], box b9 [.int .i64 y.f, .int .i64 y.t, .int .i64 y.n] 33, ros Ms.cells A l, rows Ms.cells 33 3 Ao qo O, rows Ms.cells 33 3 A39_4 q39_4 (nx ++ [y]), box b5 [.int .i64 x.f, .int .i64 x.t, .int .i64 x.n] 33] rfl ?_
          refine To.rd rfl rfl rfl (Rd.assign rfl rfl) ?_
          refine To.nil ?_
          refine To.sub [(5, .pointer (some ⟨b5, 0, none⟩)), (6, .slice A39_4 ((nx ++ [y]).length) q39_4), (7, .bool d), (10, .slice A l.length ca), (11, .int .i64 ((l.length : Nat) : Int)), (12, .int .i64 ((i : Nat) : Int)), (16, .slice Ao O.length qo), (17, .int .i64 ((O.length : Nat) : Int)), (18, .int .i64 ((j : Nat) : Int)), (19, .bool (decide (((j : Nat) : Int) < ((O.length : Nat) : Int)))), (9, .pointer (some ⟨b9, 0, none⟩)), (24, .bool (decide (y = x))), (31, .bool false)] ⟨rfl, rfl, rfl, rfl, rfl, rfl, rfl, rfl, rfl, rfl, rfl, rfl, rfl, trivial⟩ ?_
          refine To.blockN ?_
          refine To.thenN ?_
          refine To.reg ?_
          refine To.rd rfl rfl rfl (Rd.inc rfl rfl rfl (by omega)) ?_
          refine To.rd rfl rfl rfl (Rd.move rfl rfl) ?_
          refine To.nil ?_
          refine To.thenN ?_
          refine To.sub [(5, .pointer (some ⟨b5, 0, none⟩)), (6, .slice A39_4 (nx ++ [y]).length q39_4), (7, .bool d), (10, .slice A l.length ca), (11, .int .i64 ((l.length : Nat) : Int)), (12, .int .i64 ((i : Nat) : Int)), (16, .slice Ao O.length qo), (17, .int .i64 ((O.length : Nat) : Int)), (18, .int .i64 (((j + 1) : Nat) : Int))] ⟨rfl, rfl, rfl, rfl, rfl, rfl, rfl, rfl, rfl, trivial⟩ ?_
          refine To.only [2, 2, 2, 2] rfl ?_
          refine To.again (O.length - (j + 1)) (by omega) ⟨(nx ++ [y]), A39_4, q39_4, d, j + 1, rfl, rfl, rfl, (by omega), ⟨fun e => (by have := hn.1 e; simp only [List.length_append, List.length_cons, List.length_nil]; omega), by simp only [List.length_append, List.length_cons, List.length_nil]; have := hn.1; have := hn.2; omega⟩, (by rw [hI, insU_at hy, if_neg c24, if_neg (fun e => by simp [e.1] at g27)]; simp)⟩
    ·
      refine To.exit ?_
      refine To.thenX ?_
      refine To.thenX ?_
      refine To.blockX ?_
      refine To.thenN ?_
      refine To.seq ?_
      refine To.seq ?_
      have hfin : insU Ms.cmp x false O = nx ++ (if d = true then [] else [x]) := by rw [hI, List.drop_eq_nil_of_le (by omega)]; rfl
      refine To.reg ?_
      refine To.rd rfl rfl rfl (Rd.move rfl rfl) ?_
      refine To.rd rfl rfl rfl (Rd.not rfl rfl) ?_
      refine To.nil ?_
      refine To.thenN ?_
      refine To.cond rfl (fun c42 => ?_) (fun c42 => ?_)
      ·
        refine To.reg ?_
        refine To.rd rfl rfl rfl (Rd.move rfl rfl) ?_
        refine To.rd rfl rfl rfl (Rd.loadS (i := 3) rfl rfl r33 rfl box_whole rfl) ?_
        refine To.mk rfl rfl rfl (Mk.sliceN (us := [.int .i64 x.f, .int .i64 x.t, .int .i64 x.n]) rfl s23 rfl rfl rfl rfl rfl rfl) ?_
        rintro _ _ ⟨b45, rfl, rfl⟩
        refine To.as [row 33 3 (some ⟨b45, 0, none⟩) 1 1 [.int .i64 x.f, .int .i64 x.t, .int .i64 x.n], ros Ms.cells A l, rows Ms.cells 33 3 Ao qo O, rows Ms.cells 33 3 An qn nx, box b5 [.int .i64 x.f, .int .i64 x.t, .int .i64 x.n] 33] rfl ?_
        refine To.ge rfl rfl rfl (Ge.append1 encM (i := 3) (j := 0) (el := x) rfl s23 rfl rfl rfl rfl rfl (by first | omega | (simp only [List.length_append, List.length_cons, List.length_nil]; omega)) (by first | omega | (simp only [List.length_append, List.length_cons, List.length_nil]; omega))) ?_
        rintro _ _ ⟨A46, q46, rfl, rfl⟩
        refine To.as [row 33 3 (some ⟨b45, 0, none⟩) 1 1 [.int .i64 x.f, .int .i64 x.t, .int .i64 x.n], ros Ms.cells A l, rows Ms.cells 33 3 Ao qo O, rows Ms.cells 33 3 A46 q46 (nx ++ [x]), box b5 [.int .i64 x.f, .int .i64 x.t, .int .i64 x.n] 33] rfl ?_
        refine To.rd rfl rfl rfl (Rd.assign rfl rfl) ?_
        refine To.nil ?_
        refine To.thenN ?_
        refine To.reg ?_
        refine To.rd rfl rfl rfl (Rd.move rfl rfl) ?_
        refine To.rd rfl rfl rfl (Rd.assign rfl rfl) ?_
        refine To.nil ?_
        refine To.blockN ?_
        refine To.thenN ?_
        refine To.reg ?_
        refine To.rd rfl rfl rfl (Rd.inc rfl rfl rfl (by omega)) ?_
        refine To.rd rfl rfl rfl (Rd.move rfl rfl) ?_
        refine To.nil ?_
        refine To.thenN ?_
        refine To.sub [(3, .slice A46 (nx ++ [x]).length q46), (10, .slice A l.length ca), (11, .int .i64 ((l.length : Nat) : Int)), (12, .int .i64 (((i + 1) : Nat) : Int))] ⟨rfl, rfl, rfl, rfl, trivial⟩ ?_
        refine To.only [1, 2] rfl ?_
        refine To.again (l.length - (i + 1)) (by omega) ⟨A46, q46, (nx ++ [x]), i + 1, rfl, rfl, rfl, (by omega), (by rw [take_of_get hx, sortU_snoc, ← hO, hfin]; rcases d with _ | _ <;> first | (exact absurd c42 (by decide)) | simp)⟩
      ·
        refine To.skip ?_
        refine To.thenN ?_
        refine To.reg ?_
        refine To.rd rfl rfl rfl (Rd.move rfl rfl) ?_
        refine To.rd rfl rfl rfl (Rd.assign rfl rfl) ?_
        refine To.nil ?_
        refine To.blockN ?_
        refine To.thenN ?_
        refine To.reg ?_
        refine To.rd rfl rfl rfl (Rd.inc rfl rfl rfl (by omega)) ?_
        refine To.rd rfl rfl rfl (Rd.move rfl rfl) ?_
        refine To.nil ?_
        refine To.thenN ?_
        refine To.sub [(3, .slice An nx.length qn), (10, .slice A l.length ca), (11, .int .i64 ((l.length : Nat) : Int)), (12, .int .i64 (((i + 1) : Nat) : Int))] ⟨rfl, rfl, rfl, rfl, trivial⟩ ?_
        refine To.only [0, 1] rfl ?_
        refine To.again (l.length - (i + 1)) (by omega) ⟨An, qn, nx, i + 1, rfl, rfl, rfl, (by omega), (by rw [take_of_get hx, sortU_snoc, ← hO, hfin]; rcases d with _ | _ <;> first | (exact absurd c42 (by decide)) | simp)⟩
  ·
    refine To.exit ?_
    refine To.thenX ?_
    refine To.thenX ?_
    refine To.blockX ?_
    refine To.thenN ?_
    refine To.seq ?_
    refine To.reg ?_
    refine To.rd rfl rfl rfl (Rd.move rfl rfl) ?_
    refine To.rd rfl rfl rfl (Rd.assign rfl rfl) ?_
    refine To.nil ?_
    refine To.thenN ?_
    refine To.ret ?_
    refine To.only [1] rfl ?_
    refine To.end1 (.inl rfl) Try.results17 rfl ?_
    rw [show l.take i = l from List.take_of_length_le (by omega)] at hO
    exact ⟨_, _, by rw [hO], by rw [hO]⟩
end Go.Proofs.Ytnghonabedcacaa
