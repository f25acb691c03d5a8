/- Contracts of the reference's place and Before, and of item. Own text. -/
import Derived.Test.YtnamppkicefbjaaW11
namespace Go.Proofs.Ytnamppkicefbjaa
open Go.RowKit Go.Flow Go.Mem

def rs (s : Int) : Int := if s = 4 then 4 else if s = 5 then 5 else 6

theorem rplace_any (t s c p n k h : Int) (A : Option Addr) (l cp : Nat) (w : World) :
    Calls Try.prog 38 #[.agg #[.int .i64 t, .int .i64 s, .int .i64 c, .int .i64 p, .int .i64 n, .int .i64 k, .int .i64 h, .slice A l cp]] w fun e w' => e = .returned (.agg #[.int .i64 (rs s), .int .i64 (pl0 s p n h), .int .i64 (pl1 s n), .int .i64 (pl2 s k)]) ∧ Ext w w' := by
  by_cases h4 : s = 4
  · subst h4
    go_enter Try.func38, Try.ntmps38
    go_wp2
    refine bodyPost_ret (v := .agg #[.int .i64 4, .int .i64 h, .int .i64 n, .int .i64 0]) (by simp [results, Try.results38, go_sem]) rfl ⟨rfl, ?_⟩
    exact ((Below.refl _ _).alloc (Nat.le_refl _) _).alloc (by simp) _
  by_cases h5 : s = 5
  · subst h5
    go_enter Try.func38, Try.ntmps38
    go_wp2
    refine bodyPost_ret (v := .agg #[.int .i64 5, .int .i64 p, .int .i64 n, .int .i64 k]) (by simp [results, Try.results38, go_sem]) rfl ⟨rfl, ?_⟩
    exact ((Below.refl _ _).alloc (Nat.le_refl _) _).alloc (by simp) _
  · have e0 : pl0 s p n h = n := by simp [pl0, h4, h5]
    have e1 : pl1 s n = 0 := by simp [pl1, h4, h5]
    have e2 : pl2 s k = 0 := by simp [pl2, h4, h5]
    have e3 : rs s = 6 := by simp [rs, h4, h5]
    rw [e0, e1, e2, e3]
    clear e0 e1 e2 e3
    have b4 : (s == 4) = false := by simp [h4]
    have b5 : (s == 5) = false := by simp [h5]
    clear h4 h5
    go_enter Try.func38, Try.ntmps38
    go_wp2
    refine bodyPost_ret (v := .agg #[.int .i64 6, .int .i64 n, .int .i64 0, .int .i64 0]) (by simp [results, Try.results38, go_sem]) rfl ⟨rfl, ?_⟩
    exact ((Below.refl _ _).alloc (Nat.le_refl _) _).alloc (by simp) _

/-- Does a reference's item come before another? -/
def rlt5 (t a b c d t' a' b' c' d' : Int) : Bool :=
  if t ≠ t' then decide (t < t') else if a ≠ a' then decide (a < a') else if b ≠ b' then decide (b < b') else if c ≠ c' then decide (c < c') else decide (d < d')

def lexLt : List Int → List Int → Bool
  | a :: r, b :: r' => if a ≠ b then decide (a < b) else lexLt r r'
  | _, _ => false
theorem lexLt_same (a : Int) (r r' : List Int) : lexLt (a :: r) (a :: r') = lexLt r r' := by simp [lexLt]
theorem lexLt_diff {a b : Int} {r r' : List Int} (h : ¬ a = b) : lexLt (a :: r) (b :: r') = decide (a < b) := by simp [lexLt, h]
theorem rlt5_same (t a b c d a' b' c' d' : Int) : rlt5 t a b c d t a' b' c' d' = lexLt [a, b, c, d] [a', b', c', d'] := by
  have : (!decide (d = d') && decide (d < d')) = decide (d < d') := by
    by_cases h : d = d'
    · subst h; simp
    · simp [h]
  simp [rlt5, lexLt, this]

set_option maxHeartbeats 1000000 in
set_option maxRecDepth 100000 in
theorem before_any (t s c p n k h : Int) (A : Option Addr) (l cp : Nat) (t' s' c' p' n' k' h' : Int) (A' : Option Addr) (l' cp' : Nat)  (w : World) :
    Calls Try.prog 15 #[.agg #[.int .i64 t, .int .i64 s, .int .i64 c, .int .i64 p, .int .i64 n, .int .i64 k, .int .i64 h, .slice A l cp], .agg #[.int .i64 t', .int .i64 s', .int .i64 c', .int .i64 p', .int .i64 n', .int .i64 k', .int .i64 h', .slice A' l' cp']] w
      fun e w' => e = .returned (.bool (rlt5 t (rs s) (pl0 s p n h) (pl1 s n) (pl2 s k) t' (rs s') (pl0 s' p' n' h') (pl1 s' n') (pl2 s' k'))) ∧ Ext w w' := by
  have hpl := rplace_any t s c p n k h A l cp
  have hpl' := rplace_any t' s' c' p' n' k' h' A' l' cp'
  generalize rs s = x0 at *
  generalize pl0 s p n h = x1 at *
  generalize pl1 s n = x2 at *
  generalize pl2 s k = x3 at *
  generalize rs s' = y0 at *
  generalize pl0 s' p' n' h' = y1 at *
  generalize pl1 s' n' = y2 at *
  generalize pl2 s' k' = y3 at *
  have HP := Lib.hid hpl
  have HP' := Lib.hid hpl'
  clear hpl hpl'
  by_cases ht : t = t'
  · subst ht
    obtain ⟨res, hres⟩ : ∃ res, res = rlt5 t x0 x1 x2 x3 t y0 y1 y2 y3 := ⟨_, rfl⟩
    rw [← hres]
    have HR := Lib.hid hres
    clear hres
    go_enter Try.func15, Try.ntmps15
    go_wp2
    refine wp_named (fun w1 hw1 => ?_)
    have hr0 : w1.rangeAt w.heap.size 0 [.int .i64 t, .int .i64 s, .int .i64 c, .int .i64 p, .int .i64 n, .int .i64 k, .int .i64 h, .slice A l cp] := by
      rw [hw1]
      exact Ext.range (Ext.new _ _) (range_of_whole (heap_alloc_new _ _))
    have hr1 : w1.rangeAt (w.heap.size + 1) 0 [.int .i64 t, .int .i64 s', .int .i64 c', .int .i64 p', .int .i64 n', .int .i64 k', .int .i64 h', .slice A' l' cp'] := by
      rw [hw1]
      have := range_of_whole (heap_alloc_new (w.alloc (Obj.cells #[.int .i64 t, .int .i64 s, .int .i64 c, .int .i64 p, .int .i64 n, .int .i64 k, .int .i64 h, .slice A l cp] 30)) (Obj.cells [.int .i64 t, .int .i64 s', .int .i64 c', .int .i64 p', .int .i64 n', .int .i64 k', .int .i64 h', .slice A' l' cp'].toArray 30))
      simpa using this
    have hx : Ext w w1 := by rw [hw1]; exact (Ext.new _ _).tr (Ext.new _ _)
    clear hw1
    have HR0 := Lib.hid hr0
    have HR1 := Lib.hid hr1
    clear hr0 hr1
    refine wp_region_flow (fun _ => True) [⟨0, [], 1⟩, ⟨1, [], 3⟩, ⟨2, [], 1⟩, ⟨3, [], 3⟩, ⟨4, [], 2⟩, ⟨5, [], 2⟩, ⟨6, [4, 5], 5⟩, ⟨7, [], 5⟩] (by kernel_rfl) (by kernel_rfl) (fun _ _ _ _ => trivial) trivial ?_
    simp only [pick, List.map_cons, List.map_nil, List.getD_cons_zero, List.getD_cons_succ]
    -- op 0 load
    refine Flow.readRange rfl rfl rfl rfl (fun W hb hS hd => hb.range HR0.out) Try.underlying30 rfl (by kernel_rfl) ?_
    simp only [Act.put, List.setIfInBounds_toArray, List.set_cons_zero, List.set_cons_succ]
    -- op 1 call
    refine Flow.call rfl rfl 38 ?_ ?_ ?_ ?_ ?_; rotate_left
    · intro W; go_simp; first | done | rfl
    rotate_left
    · intro W hb hS hd; obtain ⟨r1, r2⟩ := Ext.rules hb; refine (HP.out _).mono ?_; rintro e W' ⟨rfl, hb'⟩; refine ⟨?_, hb'⟩; rfl
    simp only [Act.put, List.setIfInBounds_toArray, List.set_cons_zero, List.set_cons_succ]
    -- op 2 load
    refine Flow.readRange rfl rfl rfl rfl (fun W hb hS hd => hb.range HR1.out) Try.underlying30 rfl (by kernel_rfl) ?_
    simp only [Act.put, List.setIfInBounds_toArray, List.set_cons_zero, List.set_cons_succ]
    -- op 3 call
    refine Flow.call rfl rfl 38 ?_ ?_ ?_ ?_ ?_; rotate_left
    · intro W; go_simp; first | done | rfl
    rotate_left
    · intro W hb hS hd; obtain ⟨r1, r2⟩ := Ext.rules hb; refine (HP'.out _).mono ?_; rintro e W' ⟨rfl, hb'⟩; refine ⟨?_, hb'⟩; rfl
    simp only [Act.put, List.setIfInBounds_toArray, List.set_cons_zero, List.set_cons_succ]
    -- op 4 alloc
    refine Flow.make rfl rfl (fun w4 hb hS hd K hK => ?_)
    go_simp
    refine hK _ _ (Ext.new _ _) ?_
    clear hK K hd hS
    have hb4 := hb; clear hb
    simp only [Act.put, List.setIfInBounds_toArray, List.set_cons_zero, List.set_cons_succ]
    -- op 5 alloc
    refine Flow.make rfl rfl (fun w5 hb hS hd K hK => ?_)
    go_simp
    refine hK _ _ (Ext.new _ _) ?_
    clear hK K hd hS
    have hb5 := hb; clear hb
    simp only [Act.put, List.setIfInBounds_toArray, List.set_cons_zero, List.set_cons_succ]
    -- op 6 store
    refine Flow.turn rfl rfl (fun w6 hb hS hd ht K hK => ?_)
    have hbt6 := hb; obtain ⟨r1, r2⟩ := Ext.rules hb; have hx4 := hd _ (.tail _ (.head _)); obtain ⟨r1_4, r2_4⟩ := Ext.rules hx4; have hl4_6 : w4.heap.size < w6.heap.size := Nat.lt_of_lt_of_le (by simp) hx4.size; have hx5 := hd _ (.head _); obtain ⟨r1_5, r2_5⟩ := Ext.rules hx5; have ht4_5 := ht _ (.tail _ (.head _)) _ (.head _) (by simp); have ne4_5 : w4.heap.size ≠ w5.heap.size := (by rcases ht4_5 with hh | hh <;> (have hh1 := hh.size; simp at hh1; omega)); have hl5_6 : w5.heap.size < w6.heap.size := Nat.lt_of_lt_of_le (by simp) hx5.size; skip
    go_simp
    refine hK _ _ trivial ?_
    clear hK K
    simp only [Act.put]
    -- op 7 store
    refine Flow.turn rfl rfl (fun w7 hb hS hd ht K hK => ?_)
    have hbt7 := hb; obtain ⟨r1, r2⟩ := Ext.rules hb; skip
    go_simp
    refine hK _ _ trivial ?_
    clear hK K
    simp only [Act.put]
    refine Flow.nil (fun w3 hb hS hd ht => ?_)
    clear hd ht
    have hz4 : w.heap.size ≤ w4.heap.size := Nat.le_trans hx.size hb4.size
    have hz5 : w.heap.size ≤ w5.heap.size := Nat.le_trans hx.size hb5.size
    have hx6 : Ext w w6 := hx.tr hbt6
    have hx7 := below_ext ((((hx6.setCell (p := ⟨w4.heap.size, 0, none⟩) hz4 (.int .i64 x0)).setCell (p := ⟨w4.heap.size, 1, none⟩) hz4 (.int .i64 x1)).setCell (p := ⟨w4.heap.size, 2, none⟩) hz4 (.int .i64 x2)).setCell (p := ⟨w4.heap.size, 3, none⟩) hz4 (.int .i64 x3)) hbt7 (Nat.le_refl _)
    have hx3 : Ext w w3 := below_ext ((((hx7.setCell (p := ⟨w5.heap.size, 0, none⟩) hz5 (.int .i64 y0)).setCell (p := ⟨w5.heap.size, 1, none⟩) hz5 (.int .i64 y1)).setCell (p := ⟨w5.heap.size, 2, none⟩) hz5 (.int .i64 y2)).setCell (p := ⟨w5.heap.size, 3, none⟩) hz5 (.int .i64 y3)) hb (Nat.le_refl _)
    obtain ⟨q1, q2⟩ := Ext.rules hb
    have hl4 : w4.heap.size < w7.heap.size := Nat.lt_of_lt_of_le hl4_6 (by have := hbt7.size; simpa using this)
    have hl5 : w5.heap.size < w7.heap.size := Nat.lt_of_lt_of_le hl5_6 (by have := hbt7.size; simpa using this)
    have p0 : w3.cell? ⟨w4.heap.size, 0, none⟩ = some (.int .i64 x0) := by go_simp
    have p1 : w3.cell? ⟨w4.heap.size, 1, none⟩ = some (.int .i64 x1) := by go_simp
    have p2 : w3.cell? ⟨w4.heap.size, 2, none⟩ = some (.int .i64 x2) := by go_simp
    have p3 : w3.cell? ⟨w4.heap.size, 3, none⟩ = some (.int .i64 x3) := by go_simp
    have p4 : w3.cell? ⟨w5.heap.size, 0, none⟩ = some (.int .i64 y0) := by go_simp
    have p5 : w3.cell? ⟨w5.heap.size, 1, none⟩ = some (.int .i64 y1) := by go_simp
    have p6 : w3.cell? ⟨w5.heap.size, 2, none⟩ = some (.int .i64 y2) := by go_simp
    have p7 : w3.cell? ⟨w5.heap.size, 3, none⟩ = some (.int .i64 y3) := by go_simp
    have hX : ∀ j v, [x0, x1, x2, x3][j]? = some v → w3.cell? ⟨w4.heap.size, j, none⟩ = some (.int .i64 v) := fun j v hj => by
      match j, hj with
      | 0, hj => injection hj with hj; rw [← hj]; exact p0
      | 1, hj => injection hj with hj; rw [← hj]; exact p1
      | 2, hj => injection hj with hj; rw [← hj]; exact p2
      | 3, hj => injection hj with hj; rw [← hj]; exact p3
      | n + 4, hj => simp at hj
    have hY : ∀ j v, [y0, y1, y2, y3][j]? = some v → w3.cell? ⟨w5.heap.size, j, none⟩ = some (.int .i64 v) := fun j v hj => by
      match j, hj with
      | 0, hj => injection hj with hj; rw [← hj]; exact p4
      | 1, hj => injection hj with hj; rw [← hj]; exact p5
      | 2, hj => injection hj with hj; rw [← hj]; exact p6
      | 3, hj => injection hj with hj; rw [← hj]; exact p7
      | n + 4, hj => simp at hj
    have hres : res = lexLt [x0, x1, x2, x3] [y0, y1, y2, y3] := by rw [HR.out]; exact rlt5_same _ _ _ _ _ _ _ _ _
    have HX := Lib.hid hX
    have HY := Lib.hid hY
    have HX3 := Lib.hid hx3
    have HRES := Lib.hid hres
    clear hx3 hx7 hx6 hb hbt7 hbt6 q1 q2 hb4 hb5 r1 r2 r1_4 r2_4 r1_5 r2_5 hx hl4_6 hl5_6 p0 p1 p2 p3 p4 p5 p6 p7 HR0 HR1 HR hX hY hres HP HP'
    generalize hXX : [x0, x1, x2, x3] = X at *
    generalize hYY : [y0, y1, y2, y3] = Y at *
    have hXl : X.length = 4 := by rw [← hXX]; rfl
    have hYl : Y.length = 4 := by rw [← hYY]; rfl
    clear hXX hYY
    generalize w4.heap.size = g1 at *
    generalize w5.heap.size = g2 at *
    go_wp2
    go_loopg [7] 4 (fun kx s7 wr => ∃ kk : Nat, kk ≤ 4 ∧ 4 - kk ≤ kx ∧ s7 = .int .i64 kk ∧ Hid (res = lexLt (X.drop kk) (Y.drop kk)) ∧ Hid (Ext w3 wr))
    case atStart => exact ⟨0, by omega, by omega, rfl, HRES.out, Ext.rfl_ _⟩
    case round =>
      obtain ⟨kk, hkk, hkx, rfl, HM, HW⟩ := hrel
      by_cases hlt : kk < 4
      · obtain ⟨x, hx⟩ : ∃ x, x = X[kk]'(by omega) := ⟨_, rfl⟩
        obtain ⟨y, hy⟩ : ∃ y, y = Y[kk]'(by omega) := ⟨_, rfl⟩
        have c1 := HW.out.at_ (HX.out kk x (by rw [hx]; exact List.getElem?_eq_getElem _))
        have c2 := HW.out.at_ (HY.out kk y (by rw [hy]; exact List.getElem?_eq_getElem _))
        have l1 := World.block_lt_of_cell? _ _ c1
        have l2 := World.block_lt_of_cell? _ _ c2
        simp only at l1 l2
        have hm := HM.out
        rw [List.drop_eq_getElem_cons (by omega : kk < X.length), List.drop_eq_getElem_cons (by omega : kk < Y.length), ← hx, ← hy] at hm
        have HM2 := Lib.hid hm
        clear hm HM hx hy
        by_cases hxy : x = y
        · subst hxy
          go_wp2_with fail
          refine wp_region_flow (fun _ => True) [⟨0, [], 0⟩, ⟨1, [], 0⟩, ⟨3, [], 0⟩, ⟨4, [], 0⟩, ⟨2, [], 1⟩, ⟨5, [], 1⟩, ⟨6, [], 0⟩] (by kernel_rfl) (by kernel_rfl) (fun _ _ _ _ => trivial) trivial ?_
          simp only [pick, List.map_cons, List.map_nil, List.getD_cons_zero, List.getD_cons_succ]
          -- op 0 move
          refine Flow.free rfl rfl ?_ ?_ ?_; rotate_left
          · intro W hS; go_simp; (try go_ints); (try simp only [↓IntWalk.iteOmega]); first | done | rfl | (refine ⟨?_, ?_⟩ <;> first | rfl | trivial)
          simp only [Act.put, List.setIfInBounds_toArray, List.set_cons_zero, List.set_cons_succ]
          -- op 1 indexAddr
          refine Flow.free rfl rfl ?_ ?_ ?_; rotate_left
          · intro W hS; go_simp; (try go_ints); (try simp only [↓IntWalk.iteOmega]); first | done | rfl | (refine ⟨?_, ?_⟩ <;> first | rfl | trivial)
          simp only [Act.put, List.setIfInBounds_toArray, List.set_cons_zero, List.set_cons_succ]
          -- op 3 move
          refine Flow.free rfl rfl ?_ ?_ ?_; rotate_left
          · intro W hS; go_simp; (try go_ints); (try simp only [↓IntWalk.iteOmega]); first | done | rfl | (refine ⟨?_, ?_⟩ <;> first | rfl | trivial)
          simp only [Act.put, List.setIfInBounds_toArray, List.set_cons_zero, List.set_cons_succ]
          -- op 4 indexAddr
          refine Flow.free rfl rfl ?_ ?_ ?_; rotate_left
          · intro W hS; go_simp; (try go_ints); (try simp only [↓IntWalk.iteOmega]); first | done | rfl | (refine ⟨?_, ?_⟩ <;> first | rfl | trivial)
          simp only [Act.put, List.setIfInBounds_toArray, List.set_cons_zero, List.set_cons_succ]
          -- op 2 load
          refine Flow.read rfl rfl ?_ ?_ ?_; rotate_left
          · intro W hb hS hd; obtain ⟨r1, r2⟩ := Ext.rules hb; go_simp; (try go_ints); (try simp only [↓IntWalk.iteOmega]); first | done | rfl | (refine ⟨?_, ?_⟩ <;> first | rfl | trivial)
          simp only [Act.put, List.setIfInBounds_toArray, List.set_cons_zero, List.set_cons_succ]
          -- op 5 load
          refine Flow.read rfl rfl ?_ ?_ ?_; rotate_left
          · intro W hb hS hd; obtain ⟨r1, r2⟩ := Ext.rules hb; go_simp; (try go_ints); (try simp only [↓IntWalk.iteOmega]); first | done | rfl | (refine ⟨?_, ?_⟩ <;> first | rfl | trivial)
          simp only [Act.put, List.setIfInBounds_toArray, List.set_cons_zero, List.set_cons_succ]
          -- op 6 binOp
          refine Flow.free rfl rfl ?_ ?_ ?_; rotate_left
          · intro W hS; go_simp; (try go_ints); (try simp only [↓IntWalk.iteOmega]); first | done | rfl | (refine ⟨?_, ?_⟩ <;> first | rfl | trivial)
          simp only [Act.put, List.setIfInBounds_toArray, List.set_cons_zero, List.set_cons_succ]
          refine Flow.nil (fun w9 hb hS hd ht => ?_)
          clear hd ht
          go_wp2
          go_roundg (4 - (kk + 1))
          case measure => omega
          case rel => exact ⟨kk + 1, by omega, Nat.le_refl _, by go_num, (by rw [HM2.out, lexLt_same] : res = lexLt (X.drop (kk + 1)) (Y.drop (kk + 1))), HW.out.tr hb⟩
        · have hne : (x == y) = false := by simp [hxy]
          go_wp2_with fail
          refine wp_region_flow (fun _ => True) [⟨0, [], 0⟩, ⟨1, [], 0⟩, ⟨3, [], 0⟩, ⟨4, [], 0⟩, ⟨2, [], 1⟩, ⟨5, [], 1⟩, ⟨6, [], 0⟩] (by kernel_rfl) (by kernel_rfl) (fun _ _ _ _ => trivial) trivial ?_
          simp only [pick, List.map_cons, List.map_nil, List.getD_cons_zero, List.getD_cons_succ]
          -- op 0 move
          refine Flow.free rfl rfl ?_ ?_ ?_; rotate_left
          · intro W hS; go_simp; (try go_ints); (try simp only [↓IntWalk.iteOmega]); first | done | rfl | (refine ⟨?_, ?_⟩ <;> first | rfl | trivial)
          simp only [Act.put, List.setIfInBounds_toArray, List.set_cons_zero, List.set_cons_succ]
          -- op 1 indexAddr
          refine Flow.free rfl rfl ?_ ?_ ?_; rotate_left
          · intro W hS; go_simp; (try go_ints); (try simp only [↓IntWalk.iteOmega]); first | done | rfl | (refine ⟨?_, ?_⟩ <;> first | rfl | trivial)
          simp only [Act.put, List.setIfInBounds_toArray, List.set_cons_zero, List.set_cons_succ]
          -- op 3 move
          refine Flow.free rfl rfl ?_ ?_ ?_; rotate_left
          · intro W hS; go_simp; (try go_ints); (try simp only [↓IntWalk.iteOmega]); first | done | rfl | (refine ⟨?_, ?_⟩ <;> first | rfl | trivial)
          simp only [Act.put, List.setIfInBounds_toArray, List.set_cons_zero, List.set_cons_succ]
          -- op 4 indexAddr
          refine Flow.free rfl rfl ?_ ?_ ?_; rotate_left
          · intro W hS; go_simp; (try go_ints); (try simp only [↓IntWalk.iteOmega]); first | done | rfl | (refine ⟨?_, ?_⟩ <;> first | rfl | trivial)
          simp only [Act.put, List.setIfInBounds_toArray, List.set_cons_zero, List.set_cons_succ]
          -- op 2 load
          refine Flow.read rfl rfl ?_ ?_ ?_; rotate_left
          · intro W hb hS hd; obtain ⟨r1, r2⟩ := Ext.rules hb; go_simp; (try go_ints); (try simp only [↓IntWalk.iteOmega]); first | done | rfl | (refine ⟨?_, ?_⟩ <;> first | rfl | trivial)
          simp only [Act.put, List.setIfInBounds_toArray, List.set_cons_zero, List.set_cons_succ]
          -- op 5 load
          refine Flow.read rfl rfl ?_ ?_ ?_; rotate_left
          · intro W hb hS hd; obtain ⟨r1, r2⟩ := Ext.rules hb; go_simp; (try go_ints); (try simp only [↓IntWalk.iteOmega]); first | done | rfl | (refine ⟨?_, ?_⟩ <;> first | rfl | trivial)
          simp only [Act.put, List.setIfInBounds_toArray, List.set_cons_zero, List.set_cons_succ]
          -- op 6 binOp
          refine Flow.free rfl rfl ?_ ?_ ?_; rotate_left
          · intro W hS; go_simp; (try go_ints); (try simp only [↓IntWalk.iteOmega]); first | done | rfl | (refine ⟨?_, ?_⟩ <;> first | rfl | trivial)
          simp only [Act.put, List.setIfInBounds_toArray, List.set_cons_zero, List.set_cons_succ]
          refine Flow.nil (fun w9 hb hS hd ht => ?_)
          clear hd ht
          have c1' := hb.at_ c1
          have c2' := hb.at_ c2
          have l1' : g1 < w9.heap.size := Nat.lt_of_lt_of_le l1 hb.size
          have l2' : g2 < w9.heap.size := Nat.lt_of_lt_of_le l2 hb.size
          have HB := Lib.hid hb
          clear hb c1 c2 l1 l2 hS
          go_wp2
          refine wp_region_flow (fun _ => True) [⟨0, [], 0⟩, ⟨1, [], 0⟩, ⟨3, [], 0⟩, ⟨4, [], 0⟩, ⟨2, [], 1⟩, ⟨5, [], 1⟩, ⟨6, [], 0⟩, ⟨7, [], 0⟩] (by kernel_rfl) (by kernel_rfl) (fun _ _ _ _ => trivial) trivial ?_
          simp only [pick, List.map_cons, List.map_nil, List.getD_cons_zero, List.getD_cons_succ]
          -- op 0 move
          refine Flow.free rfl rfl ?_ ?_ ?_; rotate_left
          · intro W hS; go_simp; (try go_ints); (try simp only [↓IntWalk.iteOmega]); first | done | rfl | (refine ⟨?_, ?_⟩ <;> first | rfl | trivial)
          simp only [Act.put, List.setIfInBounds_toArray, List.set_cons_zero, List.set_cons_succ]
          -- op 1 indexAddr
          refine Flow.free rfl rfl ?_ ?_ ?_; rotate_left
          · intro W hS; go_simp; (try go_ints); (try simp only [↓IntWalk.iteOmega]); first | done | rfl | (refine ⟨?_, ?_⟩ <;> first | rfl | trivial)
          simp only [Act.put, List.setIfInBounds_toArray, List.set_cons_zero, List.set_cons_succ]
          -- op 3 move
          refine Flow.free rfl rfl ?_ ?_ ?_; rotate_left
          · intro W hS; go_simp; (try go_ints); (try simp only [↓IntWalk.iteOmega]); first | done | rfl | (refine ⟨?_, ?_⟩ <;> first | rfl | trivial)
          simp only [Act.put, List.setIfInBounds_toArray, List.set_cons_zero, List.set_cons_succ]
          -- op 4 indexAddr
          refine Flow.free rfl rfl ?_ ?_ ?_; rotate_left
          · intro W hS; go_simp; (try go_ints); (try simp only [↓IntWalk.iteOmega]); first | done | rfl | (refine ⟨?_, ?_⟩ <;> first | rfl | trivial)
          simp only [Act.put, List.setIfInBounds_toArray, List.set_cons_zero, List.set_cons_succ]
          -- op 2 load
          refine Flow.read rfl rfl ?_ ?_ ?_; rotate_left
          · intro W hb hS hd; obtain ⟨r1, r2⟩ := Ext.rules hb; go_simp; (try go_ints); (try simp only [↓IntWalk.iteOmega]); first | done | rfl | (refine ⟨?_, ?_⟩ <;> first | rfl | trivial)
          simp only [Act.put, List.setIfInBounds_toArray, List.set_cons_zero, List.set_cons_succ]
          -- op 5 load
          refine Flow.read rfl rfl ?_ ?_ ?_; rotate_left
          · intro W hb hS hd; obtain ⟨r1, r2⟩ := Ext.rules hb; go_simp; (try go_ints); (try simp only [↓IntWalk.iteOmega]); first | done | rfl | (refine ⟨?_, ?_⟩ <;> first | rfl | trivial)
          simp only [Act.put, List.setIfInBounds_toArray, List.set_cons_zero, List.set_cons_succ]
          -- op 6 binOp
          refine Flow.free rfl rfl ?_ ?_ ?_; rotate_left
          · intro W hS; go_simp; (try go_ints); (try simp only [↓IntWalk.iteOmega]); first | done | rfl | (refine ⟨?_, ?_⟩ <;> first | rfl | trivial)
          simp only [Act.put, List.setIfInBounds_toArray, List.set_cons_zero, List.set_cons_succ]
          -- op 7 assign
          refine Flow.free rfl rfl ?_ ?_ ?_; rotate_left
          · intro W hS; go_simp; (try go_ints); (try simp only [↓IntWalk.iteOmega]); first | done | rfl | (refine ⟨?_, ?_⟩ <;> first | rfl | trivial)
          simp only [Act.put, List.setIfInBounds_toArray, List.set_cons_zero, List.set_cons_succ]
          refine Flow.nil (fun w10 hb hS hd ht => ?_)
          clear hd ht
          go_wp2
          go_ret
          exact ⟨by rw [HM2.out, lexLt_diff hxy]; rfl, ((HX3.out.tr HW.out).tr HB.out).tr hb⟩
      · obtain rfl : kk = 4 := by omega
        go_wp2
        go_ret
        refine ⟨?_, HX3.out.tr HW.out⟩
        rw [HM.out, List.drop_of_length_le (by omega), List.drop_of_length_le (by omega)]
        rfl
  · have hne : (t == t') = false := by simp [ht]
    have hr : rlt5 t x0 x1 x2 x3 t' y0 y1 y2 y3 = decide (t < t') := by simp [rlt5, ht]
    rw [hr]
    go_enter Try.func15, Try.ntmps15
    go_wp2
    go_ret
    exact ⟨rfl, (Ext.new _ _).tr (Ext.new _ _)⟩

set_option maxHeartbeats 1000000 in
set_option maxRecDepth 100000 in
theorem item_any (t s c p n k h : Int) (A : Option Addr) (l cp : Nat) (w : World) (hs : 0 ≤ s ∧ s < 256) :
    Calls Try.prog 24 #[.agg #[.int .i64 t, .int .i64 s, .int .i64 c, .int .i64 p, .int .i64 n, .int .i64 k, .int .i64 h, .slice A l cp]] w fun e w' => e = .returned (.agg #[.int .u8 s, .int .i64 c, .int .i64 p, .int .i64 n, .int .i64 k, .int .i64 h, .slice A l cp]) ∧ Ext w w' := by
  go_enter Try.func24, Try.ntmps24
  go_wp2
  refine bodyPost_ret (v := .agg #[.int .u8 s, .int .i64 c, .int .i64 p, .int .i64 n, .int .i64 k, .int .i64 h, .slice A l cp]) (by simp [results, Try.results24, go_sem]) rfl ⟨rfl, ?_⟩
  exact ((Below.refl _ _).alloc (Nat.le_refl _) _).alloc (by simp) _
end Go.Proofs.Ytnamppkicefbjaa
