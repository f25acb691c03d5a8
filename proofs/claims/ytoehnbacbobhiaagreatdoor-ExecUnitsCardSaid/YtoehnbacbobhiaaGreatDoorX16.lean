/- The reference's tables: Delete, Put, Of. Own text (walks printed by sx.py). -/
import Derived.Test.YtoehnbacbobhiaaGreatDoorL1
import Derived.Test.YtoehnbacbobhiaaGreatDoorX15
set_option linter.unusedVariables false
set_option linter.unusedSimpArgs false
namespace Go.Proofs.YtoehnbacbobhiaaGreatDoor
open Go.RowKit Go.Flow Go.Mem Go.Sep
def pin (k v : Int) : Bool → List (Int × Int) → List (Int × Int)
  | d, [] => if d = true then [] else [(k, v)]
  | d, y :: r => if d = false ∧ k < y.1 then (k, v) :: y :: pin k v true r else y :: pin k v d r
theorem pin_at {k v : Int} {d : Bool} {O : List (Int × Int)} {j : Nat} {y : Int × Int} (hy : O[j]? = some y) : pin k v d (O.drop j) = if d = false ∧ k < y.1 then (k, v) :: y :: pin k v true (O.drop (j + 1)) else y :: pin k v d (O.drop (j + 1)) := by rw [drop_of_get hy]; rfl
def rputT (t : List (Int × Int)) (k v : Int) : List (Int × Int) := pin k v false (delT t k)
def rofT (l : List (Int × Int)) : List (Int × Int) := l.foldl (fun t e => rputT t e.1 e.2) []
theorem pin_true (k v : Int) : ∀ O : List (Int × Int), pin k v true O = O
  | [] => rfl
  | y :: r => by rw [pin, if_neg (fun e => by cases e.1), pin_true k v r]
theorem pin_len (k v : Int) : ∀ O : List (Int × Int), (pin k v false O).length = O.length + 1
  | [] => rfl
  | y :: r => by
    rw [pin]; split
    · simp [pin_true]
    · simp [pin_len k v r]
theorem delT_len (t : List (Int × Int)) (k : Int) : (delT t k).length ≤ t.length := List.length_filter_le _ _
theorem rput_len (t : List (Int × Int)) (k v : Int) : (rputT t k v).length ≤ t.length + 1 := by rw [rputT, pin_len]; have := delT_len t k; omega
theorem rof_len (l : List (Int × Int)) : (rofT l).length ≤ l.length := by
  suffices ∀ (l t : List (Int × Int)), (l.foldl (fun t e => rputT t e.1 e.2) t).length ≤ l.length + t.length from this l []
  intro l
  induction l with
  | nil => intro t; simp
  | cons x l ih => intro t; have h1 := ih (rputT t x.1 x.2); have h2 := rput_len t x.1 x.2; rw [List.foldl_cons, List.length_cons]; omega
theorem rof_snoc {l : List (Int × Int)} {i : Nat} {x : Int × Int} (hx : l[i]? = some x) : rofT (l.take (i + 1)) = rputT (rofT (l.take i)) x.1 x.2 := by rw [take_of_get hx]; simp [rofT]
theorem delT_snoc {l : List (Int × Int)} {i : Nat} {x : Int × Int} {k : Int} (hx : l[i]? = some x) : delT (l.take (i + 1)) k = delT (l.take i) k ++ (if x.1 ≠ k then [x] else []) := by
  rw [take_of_get hx, delT, List.filter_append]
  unfold delT
  by_cases h : x.1 = k <;> simp [h]
set_option maxHeartbeats 2000000 in
set_option maxRecDepth 100000 in
theorem rdel_fn (A : Option Addr) (ca : Nat) (l : List (Int × Int)) (k : Int) (hl : l.length ≤ 1000) :
    Does Tryz.prog 45 [.slice A l.length ca, .int .i64 k] [ros encEn A l] (fun r Γ' => ∃ B q, r = .slice B (delT l k).length q ∧ Γ' = [rows encEn 108 2 B q (delT l k)]) := by
  refine Does.enter Tryz.func45 rfl Tryz.ntmps45 rfl (fun w0 => ?_)
  refine To.seq (To.reg (To.a (To.nil (To.thenN (To.seq ?_)))))
  refine To.nilRow (encEn) 108 2 ?_
  refine To.reg (To.a (To.nil (To.thenN (To.seq (To.seq (To.reg ?_))))))
  refine To.m ?_
  refine To.r (Rd.len rfl rfl Tryz.underlying44) ?_
  refine To.m (To.nil (To.thenN (To.block ?_)))
  refine To.sub [(1, .int .i64 k), (5, .slice none ([] : List (Int × Int)).length 0), (8, .slice A l.length ca), (9, .int .i64 ((l.length : Nat) : Int)), (10, .int .i64 ((0 : Nat) : Int))] ⟨rfl, rfl, rfl, rfl, rfl, trivial⟩ ?_
  refine To.only [1, 0] rfl ?_
  refine To.loop (fun mz ρ Γ => ∃ (Ao : Option Addr) (qo : Nat) (O : List (Int × Int)) (i : Nat), ρ = [(1, .int .i64 k), (5, .slice Ao O.length qo), (8, .slice A l.length ca), (9, .int .i64 ((l.length : Nat) : Int)), (10, .int .i64 ((i : Nat) : Int))] ∧ Γ = [ros encEn A l, rows encEn 108 2 Ao qo O] ∧ mz = l.length - i ∧ (i ≤ l.length) ∧ (O = delT (l.take i) k)) (l.length - 0) ⟨none, 0, ([] : List (Int × Int)), 0, rfl, rfl, rfl, (Nat.zero_le _), rfl⟩ ?_
  rintro mz _ _ ⟨Ao, qo, O, i, rfl, rfl, rfl, hi, hO⟩
  have hOl : O.length ≤ l.length := by rw [hO]; exact Nat.le_trans (delT_len _ _) (by rw [List.length_take]; omega)
  refine To.seq (To.reg ?_)
  refine To.r (Rd.lss rfl rfl rfl) ?_
  refine To.nil (To.thenN (To.seq ?_))
  refine To.condP rfl (fun c11 => ?_) (fun c11 => ?_)
  ·
   obtain ⟨x, hx⟩ : ∃ z0, l[i]? = some z0 := ⟨l[i]'(by omega), List.getElem?_eq_getElem _⟩
   refine To.skip (To.thenN (To.seq (To.block (To.seq (To.reg ?_)))))
   refine To.r (Rd.indexRos encEn_ok (i := 0) (j := i) rfl rfl rfl s44 rfl hx) ?_
   refine To.r (Rd.loadS (i := 0) rfl rfl r108 rfl (ros_gives encEn_ok hx) (encEn_ok.len _)) ?_
   refine To.alloc rfl rfl rfl rfl z108 (fun b7 => ?_)
   refine To.u (Up.storeS (i := 0) rfl rfl rfl r108 rfl rfl rfl (box_takesAll rfl)) ?_
   refine To.nil (To.thenN (To.seq (To.reg ?_)))
   refine To.r (Rd.indexArr (j := 0) rfl (ArrTy.of (size := 1) Tryz.underlying108 (by kernel_rfl)) rfl rfl (by decide)) ?_
   refine To.lo 0 c2 ?_
   refine To.m ?_
   refine To.r (Rd.neq rfl rfl rfl) ?_
   refine To.nil (To.thenN ?_)
   refine To.condP rfl (fun c17 => ?_) (fun c17 => ?_)
   ·
    refine To.reg (To.m ?_)
    refine To.r (Rd.loadS (i := 0) rfl rfl r108 rfl box_whole rfl) ?_
    refine To.mk rfl rfl rfl (Mk.sliceN (us := [.int .i64 x.1, .int .i64 x.2]) rfl s44 rfl rfl rfl rfl rfl rfl) ?_
    rintro _ _ ⟨b20, rfl, rfl⟩
    refine To.ge rfl rfl rfl (Ge.append1 encEn_ok (i := 3) (j := 0) (el := x) rfl s44 rfl rfl rfl rfl rfl (by first | omega | (simp only [List.length_append, List.length_cons, List.length_nil]; omega)) (by first | omega | (simp only [List.length_append, List.length_cons, List.length_nil]; omega))) ?_
    rintro _ _ ⟨A21, q21, rfl, rfl⟩
    refine To.a (To.nil (To.blockN (To.thenN (To.reg ?_))))
    refine To.r (Rd.inc rfl rfl rfl (by omega)) ?_
    refine To.m (To.nil (To.thenN ?_))
    refine To.sub [(1, .int .i64 k), (5, .slice A21 (O ++ [x]).length q21), (8, .slice A l.length ca), (9, .int .i64 ((l.length : Nat) : Int)), (10, .int .i64 (((i + 1) : Nat) : Int))] ⟨rfl, rfl, rfl, rfl, rfl, trivial⟩ ?_
    refine To.only [2, 2] rfl ?_
    refine To.again (l.length - (i + 1)) (by omega) ⟨A21, q21, (O ++ [x]), i + 1, rfl, rfl, rfl, (by omega), (by rw [delT_snoc hx, ← hO, if_pos c17])⟩
   refine To.skip (To.blockN (To.thenN (To.reg ?_)))
   refine To.r (Rd.inc rfl rfl rfl (by omega)) ?_
   refine To.m (To.nil (To.thenN ?_))
   refine To.sub [(1, .int .i64 k), (5, .slice Ao O.length qo), (8, .slice A l.length ca), (9, .int .i64 ((l.length : Nat) : Int)), (10, .int .i64 (((i + 1) : Nat) : Int))] ⟨rfl, rfl, rfl, rfl, rfl, trivial⟩ ?_
   refine To.only [1, 1] rfl ?_
   refine To.again (l.length - (i + 1)) (by omega) ⟨Ao, qo, O, i + 1, rfl, rfl, rfl, (by omega), (by rw [delT_snoc hx, ← hO, if_neg c17]; simp)⟩
  refine To.exit (To.thenX (To.thenX (To.blockX (To.thenN (To.seq (To.reg (To.m ?_)))))))
  refine To.a (To.nil (To.thenN (To.ret ?_)))
  refine To.only [1] rfl ?_
  refine To.end1 (.inl rfl) Tryz.results45 rfl ?_
  rw [show l.take i = l from List.take_of_length_le (by omega)] at hO
  exact ⟨_, _, by rw [hO], by rw [hO]⟩
set_option maxHeartbeats 2000000 in
set_option maxRecDepth 100000 in
theorem rput_fn (A : Option Addr) (ca : Nat) (l : List (Int × Int)) (k v : Int) (hl : l.length ≤ 1000) :
    Does Tryz.prog 31 [.slice A l.length ca, .int .i64 k, .int .i64 v] [ros encEn A l] (fun r Γ' => ∃ B q, r = .slice B (rputT l k v).length q ∧ Γ' = [rows encEn 108 2 B q (rputT l k v)]) := by
  refine Does.enter Tryz.func31 rfl Tryz.ntmps31 rfl (fun w0 => ?_)
  refine To.seq (To.reg (To.a (To.nil (To.thenN (To.seq ?_)))))
  refine To.nilRow (encEn) 108 2 ?_
  refine To.reg (To.a (To.nil (To.thenN (To.seq (To.reg ?_)))))
  refine To.a (To.nil (To.thenN (To.seq (To.seq (To.reg ?_)))))
  refine To.m ?_
  refine To.m ?_
  refine To.callQ rfl rfl rfl (Ent.fn rfl rfl ca45) (rdel_fn A ca l k hl) rfl (oks_cons (oks_at 1 rfl) (oks_nil _)) ?_
  rintro _ _ ⟨Bd, qd, rfl, rfl⟩
  refine ⟨rfl, ?_⟩
  refine To.r (Rd.len rfl rfl Tryz.underlying44) ?_
  refine To.m (To.nil (To.thenN (To.block ?_)))
  refine To.as [rows encEn 108 2 Bd qd (delT l k), rows encEn 108 2 none 0 ([] : List (Int × Int)), ros encEn A l] rfl ?_
  obtain ⟨D, hD⟩ : ∃ z0, z0 = (delT l k) := ⟨_, rfl⟩
  rw [← hD]
  have hDl : D.length ≤ l.length := by rw [hD]; exact delT_len _ _
  refine To.sub [(1, .int .i64 k), (2, .int .i64 v), (7, .slice none ([] : List (Int × Int)).length 0), (8, .bool false), (13, .slice Bd D.length qd), (14, .int .i64 ((D.length : Nat) : Int)), (15, .int .i64 ((0 : Nat) : Int))] ⟨rfl, rfl, rfl, rfl, rfl, rfl, rfl, trivial⟩ ?_
  refine To.only [0, 0] rfl ?_
  refine To.loop (fun mz ρ Γ => ∃ (nx : List (Int × Int)) (An : Option Addr) (qn : Nat) (d : Bool) (j : Nat), ρ = [(1, .int .i64 k), (2, .int .i64 v), (7, .slice An nx.length qn), (8, .bool d), (13, .slice Bd D.length qd), (14, .int .i64 ((D.length : Nat) : Int)), (15, .int .i64 ((j : Nat) : Int))] ∧ Γ = [rows encEn 108 2 Bd qd D, rows encEn 108 2 An qn nx] ∧ mz = D.length - j ∧ (j ≤ D.length) ∧ ((d = false → nx.length ≤ j) ∧ nx.length ≤ j + 1) ∧ (pin k v false D = nx ++ pin k v d (D.drop j))) (D.length - 0) ⟨([] : List (Int × Int)), none, 0, false, 0, rfl, rfl, rfl, (Nat.zero_le _), ⟨fun _ => Nat.le_refl _, Nat.zero_le _⟩, rfl⟩ ?_
  rintro mz _ _ ⟨nx, An, qn, d, j, rfl, rfl, rfl, hj, hn, hI⟩
  refine To.seq (To.reg ?_)
  refine To.r (Rd.lss rfl rfl rfl) ?_
  refine To.nil (To.thenN (To.seq ?_))
  refine To.condP rfl (fun c16 => ?_) (fun c16 => ?_)
  ·
   obtain ⟨x, hx⟩ : ∃ z0, D[j]? = some z0 := ⟨D[j]'(by omega), List.getElem?_eq_getElem _⟩
   refine To.skip (To.thenN (To.seq (To.block (To.seq (To.reg ?_)))))
   refine To.r (Rd.indexRows (i := 0) (j := j) rfl rfl rfl s44 rfl hx) ?_
   refine To.r (Rd.loadS (i := 0) rfl rfl r108 rfl (rows_gives encEn_ok hx) (encEn_ok.len _)) ?_
   refine To.alloc rfl rfl rfl rfl z108 (fun b10 => ?_)
   refine To.u (Up.storeS (i := 0) rfl rfl rfl r108 rfl rfl rfl (box_takesAll rfl)) ?_
   refine To.nil (To.thenN (To.seq (To.seq (To.reg (To.m ?_)))))
   refine To.r (Rd.not rfl rfl) ?_
   refine To.rdB rfl rfl rfl (Rd.move rfl rfl) (fun g21 => ?_) (fun g21 => ?_)
   ·
    refine To.r (Rd.indexArr (j := 0) rfl (ArrTy.of (size := 1) Tryz.underlying108 (by kernel_rfl)) rfl rfl (by decide)) ?_
    refine To.lo 0 c2 ?_
    refine To.m ?_
    refine To.r (Rd.gtr rfl rfl rfl) ?_
    refine To.r (Rd.pickT rfl rfl rfl) ?_
    refine To.nil (To.thenN ?_)
    refine To.condP rfl (fun c26 => ?_) (fun c26 => ?_)
    ·
     refine To.seq (To.reg (To.m ?_))
     refine To.m ?_
     refine To.m ?_
     refine To.r (Rd.build (vs := [(0, .int .i64 k), (1, .int .i64 v)]) (cells := [.int .i64 k, .int .i64 v]) rfl rfl rfl (by kernel_rfl)) ?_
     refine To.mk rfl rfl rfl (Mk.sliceN (us := [.int .i64 k, .int .i64 v]) rfl s44 rfl rfl rfl rfl rfl rfl) ?_
     rintro _ _ ⟨b31, rfl, rfl⟩
     refine To.ge rfl rfl rfl (Ge.append1 encEn_ok (i := 3) (j := 0) (el := (k, v)) rfl s44 rfl rfl rfl rfl rfl (by first | omega | (simp only [List.length_append, List.length_cons, List.length_nil]; omega)) (by first | omega | (simp only [List.length_append, List.length_cons, List.length_nil]; omega))) ?_
     rintro _ _ ⟨A32, q32, rfl, rfl⟩
     refine To.a (To.nil (To.thenN (To.reg ?_)))
     refine To.a (To.nil (To.thenN (To.reg ?_)))
     refine To.m ?_
     refine To.r (Rd.loadS (i := 1) rfl rfl r108 rfl box_whole rfl) ?_
     refine To.mk rfl rfl rfl (Mk.sliceN (us := [.int .i64 x.1, .int .i64 x.2]) rfl s44 rfl rfl rfl rfl rfl rfl) ?_
     rintro _ _ ⟨b35, rfl, rfl⟩
     refine To.ge rfl rfl rfl (Ge.append1 encEn_ok (i := 4) (j := 0) (el := x) rfl s44 rfl rfl rfl rfl rfl (by first | omega | (simp only [List.length_append, List.length_cons, List.length_nil]; omega)) (by first | omega | (simp only [List.length_append, List.length_cons, List.length_nil]; omega))) ?_
     rintro _ _ ⟨A36, q36, rfl, rfl⟩
     refine To.a (To.nil (To.blockN (To.thenN (To.reg ?_))))
     refine To.r (Rd.inc rfl rfl rfl (by omega)) ?_
     refine To.m (To.nil (To.thenN ?_))
     refine To.sub [(1, .int .i64 k), (2, .int .i64 v), (7, .slice A36 (nx ++ [(k, v)] ++ [x]).length q36), (8, .bool true), (13, .slice Bd D.length qd), (14, .int .i64 ((D.length : Nat) : Int)), (15, .int .i64 (((j + 1) : Nat) : Int))] ⟨rfl, rfl, rfl, rfl, rfl, rfl, rfl, trivial⟩ ?_
     refine To.only [3, 3] rfl ?_
     refine To.again (D.length - (j + 1)) (by omega) ⟨(nx ++ [(k, v)] ++ [x]), A36, q36, true, j + 1, rfl, rfl, rfl, (by omega), ⟨fun e => (by cases e), by simp only [List.length_append, List.length_cons, List.length_nil]; simp at g21; have := hn.1 g21; omega⟩, (by rw [hI, pin_at hx, if_pos ⟨by simpa using g21, c26⟩]; simp)⟩
    refine To.skip (To.thenN (To.reg (To.m ?_)))
    refine To.r (Rd.loadS (i := 0) rfl rfl r108 rfl box_whole rfl) ?_
    refine To.mk rfl rfl rfl (Mk.sliceN (us := [.int .i64 x.1, .int .i64 x.2]) rfl s44 rfl rfl rfl rfl rfl rfl) ?_
    rintro _ _ ⟨b35_2, rfl, rfl⟩
    refine To.ge rfl rfl rfl (Ge.append1 encEn_ok (i := 3) (j := 0) (el := x) rfl s44 rfl rfl rfl rfl rfl (by first | omega | (simp only [List.length_append, List.length_cons, List.length_nil]; omega)) (by first | omega | (simp only [List.length_append, List.length_cons, List.length_nil]; omega))) ?_
    rintro _ _ ⟨A36_2, q36_2, rfl, rfl⟩
    refine To.a (To.nil (To.blockN (To.thenN (To.reg ?_))))
    refine To.r (Rd.inc rfl rfl rfl (by omega)) ?_
    refine To.m (To.nil (To.thenN ?_))
    refine To.sub [(1, .int .i64 k), (2, .int .i64 v), (7, .slice A36_2 (nx ++ [x]).length q36_2), (8, .bool d), (13, .slice Bd D.length qd), (14, .int .i64 ((D.length : Nat) : Int)), (15, .int .i64 (((j + 1) : Nat) : Int))] ⟨rfl, rfl, rfl, rfl, rfl, rfl, rfl, trivial⟩ ?_
    refine To.only [2, 2] rfl ?_
    refine To.again (D.length - (j + 1)) (by omega) ⟨(nx ++ [x]), A36_2, q36_2, d, j + 1, rfl, rfl, rfl, (by omega), ⟨fun e => (by have := hn.1 e; simp only [List.length_append, List.length_cons, List.length_nil]; omega), by simp only [List.length_append, List.length_cons, List.length_nil]; omega⟩, (by rw [hI, pin_at hx, if_neg (fun e => c26 e.2)]; simp)⟩
   refine To.k ?_
   refine To.k ?_
   refine To.k ?_
   refine To.k ?_
   refine To.r (Rd.pickF rfl rfl rfl) ?_
   refine To.nil (To.thenN ?_)
   refine To.condF rfl ?_
   refine To.skip (To.thenN (To.reg (To.m ?_)))
   refine To.r (Rd.loadS (i := 0) rfl rfl r108 rfl box_whole rfl) ?_
   refine To.mk rfl rfl rfl (Mk.sliceN (us := [.int .i64 x.1, .int .i64 x.2]) rfl s44 rfl rfl rfl rfl rfl rfl) ?_
   rintro _ _ ⟨b35_3, rfl, rfl⟩
   refine To.ge rfl rfl rfl (Ge.append1 encEn_ok (i := 3) (j := 0) (el := x) rfl s44 rfl rfl rfl rfl rfl (by first | omega | (simp only [List.length_append, List.length_cons, List.length_nil]; omega)) (by first | omega | (simp only [List.length_append, List.length_cons, List.length_nil]; omega))) ?_
   rintro _ _ ⟨A36_3, q36_3, rfl, rfl⟩
   refine To.a (To.nil (To.blockN (To.thenN (To.reg ?_))))
   refine To.r (Rd.inc rfl rfl rfl (by omega)) ?_
   refine To.m (To.nil (To.thenN ?_))
   refine To.sub [(1, .int .i64 k), (2, .int .i64 v), (7, .slice A36_3 (nx ++ [x]).length q36_3), (8, .bool d), (13, .slice Bd D.length qd), (14, .int .i64 ((D.length : Nat) : Int)), (15, .int .i64 (((j + 1) : Nat) : Int))] ⟨rfl, rfl, rfl, rfl, rfl, rfl, rfl, trivial⟩ ?_
   refine To.only [2, 2] rfl ?_
   refine To.again (D.length - (j + 1)) (by omega) ⟨(nx ++ [x]), A36_3, q36_3, d, j + 1, rfl, rfl, rfl, (by omega), ⟨fun e => (by have := hn.1 e; simp only [List.length_append, List.length_cons, List.length_nil]; omega), by simp only [List.length_append, List.length_cons, List.length_nil]; omega⟩, (by rw [hI, pin_at hx, if_neg (fun e => by simp [e.1] at g21)]; simp)⟩
  refine To.exit (To.thenX (To.thenX (To.blockX (To.thenN (To.seq (To.seq (To.reg (To.m ?_))))))))
  refine To.r (Rd.not rfl rfl) ?_
  refine To.nil (To.thenN ?_)
  refine To.cond rfl (fun c39 => ?_) (fun c39 => ?_)
  ·
   refine To.reg (To.m ?_)
   refine To.m ?_
   refine To.m ?_
   refine To.r (Rd.build (vs := [(0, .int .i64 k), (1, .int .i64 v)]) (cells := [.int .i64 k, .int .i64 v]) rfl rfl rfl (by kernel_rfl)) ?_
   refine To.mk rfl rfl rfl (Mk.sliceN (us := [.int .i64 k, .int .i64 v]) rfl s44 rfl rfl rfl rfl rfl rfl) ?_
   rintro _ _ ⟨b44, rfl, rfl⟩
   refine To.ge rfl rfl rfl (Ge.append1 encEn_ok (i := 2) (j := 0) (el := (k, v)) rfl s44 rfl rfl rfl rfl rfl (by first | omega | (simp only [List.length_append, List.length_cons, List.length_nil]; omega)) (by first | omega | (simp only [List.length_append, List.length_cons, List.length_nil]; omega))) ?_
   rintro _ _ ⟨A45, q45, rfl, rfl⟩
   refine To.a (To.nil (To.thenN (To.seq (To.reg ?_))))
   refine To.m ?_
   refine To.a (To.nil (To.thenN (To.ret ?_)))
   have hfin : rputT l k v = nx ++ [(k, v)] := by rw [rputT, ← hD, hI, List.drop_eq_nil_of_le (by omega)]; rcases d with _ | _ <;> first | (exact absurd c39 (by decide)) | simp [pin]
   refine To.only [2] rfl ?_
   refine To.end1 (.inl rfl) Tryz.results31 rfl ?_
   exact ⟨_, _, by rw [hfin], by rw [hfin]⟩
  refine To.skip (To.thenN (To.seq (To.reg (To.m ?_))))
  refine To.a (To.nil (To.thenN (To.ret ?_)))
  have hfin : rputT l k v = nx := by rw [rputT, ← hD, hI, List.drop_eq_nil_of_le (by omega)]; rcases d with _ | _ <;> first | (exact absurd c39 (by decide)) | simp [pin]
  refine To.only [1] rfl ?_
  refine To.end1 (.inl rfl) Tryz.results31 rfl ?_
  exact ⟨_, _, by rw [hfin], by rw [hfin]⟩
set_option maxHeartbeats 2000000 in
set_option maxRecDepth 100000 in
theorem rof_fn (A : Option Addr) (ca : Nat) (l : List (Int × Int)) (hl : l.length ≤ 1000) :
    Does Tryz.prog 14 [.slice A l.length ca] [ros encEn A l] (fun r Γ' => ∃ B q, r = .slice B (rofT l).length q ∧ Γ' = [rows encEn 108 2 B q (rofT l)]) := by
  refine Does.enter Tryz.func14 rfl Tryz.ntmps14 rfl (fun w0 => ?_)
  refine To.seq (To.reg (To.a (To.nil (To.thenN (To.seq ?_)))))
  refine To.nilRow (encEn) 108 2 ?_
  refine To.reg (To.a (To.nil (To.thenN (To.seq (To.seq (To.reg ?_))))))
  refine To.m ?_
  refine To.r (Rd.len rfl rfl Tryz.underlying25) ?_
  refine To.m (To.nil (To.thenN (To.block ?_)))
  refine To.sub [(3, .slice none ([] : List (Int × Int)).length 0), (6, .slice A l.length ca), (7, .int .i64 ((l.length : Nat) : Int)), (8, .int .i64 ((0 : Nat) : Int))] ⟨rfl, rfl, rfl, rfl, trivial⟩ ?_
  refine To.only [1, 0] rfl ?_
  refine To.loop (fun mz ρ Γ => ∃ (Ao : Option Addr) (qo : Nat) (O : List (Int × Int)) (i : Nat), ρ = [(3, .slice Ao O.length qo), (6, .slice A l.length ca), (7, .int .i64 ((l.length : Nat) : Int)), (8, .int .i64 ((i : Nat) : Int))] ∧ Γ = [ros encEn A l, rows encEn 108 2 Ao qo O] ∧ mz = l.length - i ∧ (i ≤ l.length) ∧ (O = rofT (l.take i))) (l.length - 0) ⟨none, 0, ([] : List (Int × Int)), 0, rfl, rfl, rfl, (Nat.zero_le _), rfl⟩ ?_
  rintro mz _ _ ⟨Ao, qo, O, i, rfl, rfl, rfl, hi, hO⟩
  have hOl : O.length ≤ l.length := by rw [hO]; exact Nat.le_trans (rof_len _) (by rw [List.length_take]; omega)
  refine To.seq (To.reg ?_)
  refine To.r (Rd.lss rfl rfl rfl) ?_
  refine To.nil (To.thenN (To.seq ?_))
  refine To.condP rfl (fun c9 => ?_) (fun c9 => ?_)
  ·
   obtain ⟨x, hx⟩ : ∃ z0, l[i]? = some z0 := ⟨l[i]'(by omega), List.getElem?_eq_getElem _⟩
   refine To.skip (To.thenN (To.seq (To.block (To.seq (To.reg ?_)))))
   refine To.r (Rd.indexRos encEn_ok (i := 0) (j := i) rfl rfl rfl s25 rfl hx) ?_
   refine To.r (Rd.loadS (i := 0) rfl rfl r108 rfl (ros_gives encEn_ok hx) (encEn_ok.len _)) ?_
   refine To.alloc rfl rfl rfl rfl z108 (fun b5 => ?_)
   refine To.u (Up.storeS (i := 0) rfl rfl rfl r108 rfl rfl rfl (box_takesAll rfl)) ?_
   refine To.nil (To.thenN (To.reg (To.m ?_)))
   refine To.r (Rd.indexArr (j := 0) rfl (ArrTy.of (size := 1) Tryz.underlying108 (by kernel_rfl)) rfl rfl (by decide)) ?_
   refine To.lo 0 c2 ?_
   refine To.r (Rd.indexArr (j := 1) rfl (ArrTy.of (size := 1) Tryz.underlying108 (by kernel_rfl)) rfl rfl (by decide)) ?_
   refine To.lo 0 c2 ?_
   refine To.callQ rfl rfl rfl (Ent.fn rfl rfl ca31) (rput_fn Ao qo O x.1 x.2 (by omega)) rfl (oks_cons (oks_row 2 rfl) (oks_nil _)) ?_
   rintro _ _ ⟨B, q, rfl, rfl⟩
   refine ⟨rfl, ?_⟩
   refine To.a (To.nil (To.blockN (To.thenN (To.reg ?_))))
   refine To.r (Rd.inc rfl rfl rfl (by omega)) ?_
   refine To.m (To.nil (To.thenN ?_))
   refine To.sub [(3, .slice B (rputT O x.1 x.2).length q), (6, .slice A l.length ca), (7, .int .i64 ((l.length : Nat) : Int)), (8, .int .i64 (((i + 1) : Nat) : Int))] ⟨rfl, rfl, rfl, rfl, trivial⟩ ?_
   refine To.only [2, 0] rfl ?_
   refine To.again (l.length - (i + 1)) (by omega) ⟨B, q, (rputT O x.1 x.2), i + 1, rfl, rfl, rfl, (by omega), (by rw [rof_snoc hx, ← hO])⟩
  refine To.exit (To.thenX (To.thenX (To.blockX (To.thenN (To.seq (To.reg (To.m ?_)))))))
  refine To.a (To.nil (To.thenN (To.ret ?_)))
  refine To.only [1] rfl ?_
  refine To.end1 (.inl rfl) Tryz.results14 rfl ?_
  rw [show l.take i = l from List.take_of_length_le (by omega)] at hO
  exact ⟨_, _, by rw [hO], by rw [hO]⟩
end Go.Proofs.YtoehnbacbobhiaaGreatDoor
