/- Contracts of the small functions that the agenda's order rests on: cmp.Compare, cmp.Or, place, compare. Own text. -/
import Derived.Test.YtnamppkicefbjaaProg
import Derived.Test.YtnamppkicefbjaaFlow
import Derived.WalkKit
import Derived.WalkSpells
import Derived.WalkLawsBesides
import Derived.Outline
import Derived.Deep.DeepCutAuto
import Derived.Lib.Hide
namespace Go.Proofs.Ytnamppkicefbjaa
open Go.RowKit Go.Flow

def cmpI (a b : Int) : Int := if a < b then -1 else if b < a then 1 else 0
def or3 (x y z : Int) : Int := if x ≠ 0 then x else if y ≠ 0 then y else z

theorem isNaN_int (x : Int) (w : World) :
    Calls Try.prog 64 #[.int .i64 x] w fun e w' => e = .returned (.bool false) ∧ w = w' := by
  go_enter Try.func64, Try.ntmps64
  go_wp2
  go_ret
  exact ⟨by simp, rfl⟩
theorem isNaN_src (x : Int) (w : World) :
    Calls Try.prog 65 #[.int .u8 x] w fun e w' => e = .returned (.bool false) ∧ w = w' := by
  go_enter Try.func65, Try.ntmps65
  go_wp2
  go_ret
  exact ⟨by simp, rfl⟩
theorem compare_int (x y : Int) (w : World) :
    Calls Try.prog 56 #[.int .i64 x, .int .i64 y] w fun e w' => e = .returned (.int .i64 (cmpI x y)) ∧ w = w' := by
  go_enter Try.func56, Try.ntmps56
  go_wp2_with (go_at_call 64; refine (isNaN_int _ _).mono ?_; rintro e w' ⟨rfl, rfl⟩)
  all_goals (go_ret; refine ⟨?_, rfl⟩; unfold cmpI; simp; omega)
theorem compare_src (x y : Int) (w : World) :
    Calls Try.prog 57 #[.int .u8 x, .int .u8 y] w fun e w' => e = .returned (.int .i64 (cmpI x y)) ∧ w = w' := by
  go_enter Try.func57, Try.ntmps57
  go_wp2_with (go_at_call 65; refine (isNaN_src _ _).mono ?_; rintro e w' ⟨rfl, rfl⟩)
  all_goals (go_ret; refine ⟨?_, rfl⟩; unfold cmpI; simp; omega)
theorem or_int (x y z : Int) (g : Nat) (w : World) (h0 : w.cell? ⟨g, 0, none⟩ = some (.int .i64 x)) (h1 : w.cell? ⟨g, 1, none⟩ = some (.int .i64 y)) (h2 : w.cell? ⟨g, 2, none⟩ = some (.int .i64 z)) :
    Calls Try.prog 55 #[.slice (some ⟨g, 0, none⟩) 3 3] w fun e w' => e = .returned (.int .i64 (or3 x y z)) ∧ w = w' := by
  go_enter Try.func55, Try.ntmps55
  go_wp2
  refine wp_loop_rounds 4 ?_
  rw [rounds_succ]
  go_wp2
  · go_ret; exact ⟨by simp_all [or3], rfl⟩
  rw [rounds_succ]
  go_wp2
  · go_ret; exact ⟨by simp_all [or3], rfl⟩
  rw [rounds_succ]
  go_wp2
  · go_ret; exact ⟨by simp_all [or3], rfl⟩
  rw [rounds_succ]
  go_wp2
  go_ret; exact ⟨by simp_all [or3], rfl⟩

def pl0 (s p n h : Int) : Int := if s = 4 then h else if s = 5 then p else n
def pl1 (s n : Int) : Int := if s = 4 then n else if s = 5 then n else 0
def pl2 (s k : Int) : Int := if s = 4 then 0 else if s = 5 then k else 0
theorem place_any (t s c p n k h : Int) (A : Option Addr) (l cp : Nat) (w : World) :
    Calls Try.prog 54 #[.agg #[.int .i64 t, .int .u8 s, .int .i64 c, .int .i64 p, .int .i64 n, .int .i64 k, .int .i64 h, .slice A l cp]] w fun e w' => e = .returned (.agg #[.int .i64 (pl0 s p n h), .int .i64 (pl1 s n), .int .i64 (pl2 s k)]) ∧ Ext w w' := by
  by_cases h4 : s = 4
  · subst h4
    go_enter Try.func54, Try.ntmps54
    go_wp2
    refine bodyPost_ret (v := .agg #[.int .i64 h, .int .i64 n, .int .i64 0]) (by simp [results, Try.results54, go_sem]) rfl ⟨rfl, ?_⟩
    exact ((Below.refl _ _).alloc (Nat.le_refl _) _).alloc (by simp) _
  by_cases h5 : s = 5
  · subst h5
    go_enter Try.func54, Try.ntmps54
    go_wp2
    refine bodyPost_ret (v := .agg #[.int .i64 p, .int .i64 n, .int .i64 k]) (by simp [results, Try.results54, go_sem]) rfl ⟨rfl, ?_⟩
    exact ((Below.refl _ _).alloc (Nat.le_refl _) _).alloc (by simp) _
  · have e0 : pl0 s p n h = n := by simp [pl0, h4, h5]
    have e1 : pl1 s n = 0 := by simp [pl1, h4, h5]
    have e2 : pl2 s k = 0 := by simp [pl2, h4, h5]
    rw [e0, e1, e2]
    clear e0 e1 e2
    have b4 : (s == 4) = false := by simp [h4]
    have b5 : (s == 5) = false := by simp [h5]
    clear h4 h5
    go_enter Try.func54, Try.ntmps54
    go_wp2
    refine bodyPost_ret (v := .agg #[.int .i64 n, .int .i64 0, .int .i64 0]) (by simp [results, Try.results54, go_sem]) rfl ⟨rfl, ?_⟩
    exact ((Below.refl _ _).alloc (Nat.le_refl _) _).alloc (by simp) _

def cmpE (t s c p n k h t' s' c' p' n' k' h' : Int) : Int :=
  if or3 (cmpI c c') (cmpI t t') (cmpI s s') ≠ 0 then or3 (cmpI c c') (cmpI t t') (cmpI s s')
  else or3 (cmpI (pl0 s p n h) (pl0 s' p' n' h')) (cmpI (pl1 s n) (pl1 s' n')) (cmpI (pl2 s k) (pl2 s' k'))

set_option maxHeartbeats 1000000 in
set_option maxRecDepth 100000 in
theorem compare_any (t s c p n k h : Int) (A : Option Addr) (l cp : Nat) (t' s' c' p' n' k' h' : Int) (A' : Option Addr) (l' cp' : Nat)  (w : World) :
    Calls Try.prog 41 #[.agg #[.int .i64 t, .int .u8 s, .int .i64 c, .int .i64 p, .int .i64 n, .int .i64 k, .int .i64 h, .slice A l cp], .agg #[.int .i64 t', .int .u8 s', .int .i64 c', .int .i64 p', .int .i64 n', .int .i64 k', .int .i64 h', .slice A' l' cp']] w fun e w' => e = .returned (.int .i64 (cmpE t s c p n k h t' s' c' p' n' k' h')) ∧ Ext w w' := by
  have hf1 : or3 (cmpI c c') (cmpI t t') (cmpI s s') ≠ 0 → cmpE t s c p n k h t' s' c' p' n' k' h' = or3 (cmpI c c') (cmpI t t') (cmpI s s') := fun h => by unfold cmpE; rw [if_pos h]
  have hf2 : or3 (cmpI c c') (cmpI t t') (cmpI s s') = 0 → cmpE t s c p n k h t' s' c' p' n' k' h' = or3 (cmpI (pl0 s p n h) (pl0 s' p' n' h')) (cmpI (pl1 s n) (pl1 s' n')) (cmpI (pl2 s k) (pl2 s' k')) := fun h => by unfold cmpE; rw [if_neg (by simp [h])]
  have HF1 := Lib.hid hf1
  have HF2 := Lib.hid hf2
  clear hf1 hf2
  generalize cmpE t s c p n k h t' s' c' p' n' k' h' = res at *
  go_enter Try.func41, Try.ntmps41
  go_wp2
  refine wp_named (fun w1 hw1 => ?_)
  have a0 : w1.cell? ⟨w.heap.size, 0, none⟩ = some (.int .i64 t) := by rw [hw1]; simp [go_sem]
  have a1 : w1.cell? ⟨w.heap.size, 1, none⟩ = some (.int .u8 s) := by rw [hw1]; simp [go_sem]
  have a2 : w1.cell? ⟨w.heap.size, 2, none⟩ = some (.int .i64 c) := by rw [hw1]; simp [go_sem]
  have a3 : w1.cell? ⟨w.heap.size, 3, none⟩ = some (.int .i64 p) := by rw [hw1]; simp [go_sem]
  have a4 : w1.cell? ⟨w.heap.size, 4, none⟩ = some (.int .i64 n) := by rw [hw1]; simp [go_sem]
  have a5 : w1.cell? ⟨w.heap.size, 5, none⟩ = some (.int .i64 k) := by rw [hw1]; simp [go_sem]
  have a6 : w1.cell? ⟨w.heap.size, 6, none⟩ = some (.int .i64 h) := by rw [hw1]; simp [go_sem]
  have a7 : w1.cell? ⟨w.heap.size, 7, none⟩ = some (.slice A l cp) := by rw [hw1]; simp [go_sem]
  have b0 : w1.cell? ⟨w.heap.size + 1, 0, none⟩ = some (.int .i64 t') := by rw [hw1]; simp [go_sem]
  have b1 : w1.cell? ⟨w.heap.size + 1, 1, none⟩ = some (.int .u8 s') := by rw [hw1]; simp [go_sem]
  have b2 : w1.cell? ⟨w.heap.size + 1, 2, none⟩ = some (.int .i64 c') := by rw [hw1]; simp [go_sem]
  have b3 : w1.cell? ⟨w.heap.size + 1, 3, none⟩ = some (.int .i64 p') := by rw [hw1]; simp [go_sem]
  have b4 : w1.cell? ⟨w.heap.size + 1, 4, none⟩ = some (.int .i64 n') := by rw [hw1]; simp [go_sem]
  have b5 : w1.cell? ⟨w.heap.size + 1, 5, none⟩ = some (.int .i64 k') := by rw [hw1]; simp [go_sem]
  have b6 : w1.cell? ⟨w.heap.size + 1, 6, none⟩ = some (.int .i64 h') := by rw [hw1]; simp [go_sem]
  have b7 : w1.cell? ⟨w.heap.size + 1, 7, none⟩ = some (.slice A' l' cp') := by rw [hw1]; simp [go_sem]
  have hs1 : w.heap.size < w1.heap.size := by rw [hw1]; simp; omega
  have hs2 : w.heap.size + 1 < w1.heap.size := by rw [hw1]; simp
  have hx : Ext w w1 := by rw [hw1]; exact ((Below.refl _ _).alloc (Nat.le_refl _) _).alloc (by simp) _
  clear hw1
  refine wp_region_flow (fun _ => True) [⟨0, [], 0⟩, ⟨1, [], 0⟩, ⟨3, [], 0⟩, ⟨4, [], 0⟩, ⟨7, [], 0⟩, ⟨9, [], 0⟩, ⟨12, [], 0⟩, ⟨13, [], 0⟩, ⟨15, [], 0⟩, ⟨16, [], 0⟩, ⟨2, [], 1⟩, ⟨5, [], 1⟩, ⟨6, [], 3⟩, ⟨8, [], 1⟩, ⟨10, [], 1⟩, ⟨11, [], 3⟩, ⟨14, [], 1⟩, ⟨17, [], 1⟩, ⟨18, [], 3⟩, ⟨19, [], 2⟩, ⟨20, [19], 3⟩, ⟨21, [19], 0⟩] (by kernel_rfl) (by kernel_rfl) (fun _ _ _ _ => trivial) trivial ?_
  simp only [pick, List.map_cons, List.map_nil, List.getD_cons_zero, List.getD_cons_succ]
  -- op 0 fieldAddr
  refine Flow.free rfl rfl ?_ ?_ ?_; rotate_left
  · intro W hS; go_simp; (try go_ints); (try simp only [↓IntWalk.iteOmega]); first | done | rfl | (refine ⟨?_, ?_⟩ <;> first | rfl | trivial)
  simp only [Act.put, List.setIfInBounds_toArray, List.set_cons_zero, List.set_cons_succ]
  -- op 1 fieldAddr
  refine Flow.free rfl rfl ?_ ?_ ?_; rotate_left
  · intro W hS; go_simp; (try go_ints); (try simp only [↓IntWalk.iteOmega]); first | done | rfl | (refine ⟨?_, ?_⟩ <;> first | rfl | trivial)
  simp only [Act.put, List.setIfInBounds_toArray, List.set_cons_zero, List.set_cons_succ]
  -- op 3 fieldAddr
  refine Flow.free rfl rfl ?_ ?_ ?_; rotate_left
  · intro W hS; go_simp; (try go_ints); (try simp only [↓IntWalk.iteOmega]); first | done | rfl | (refine ⟨?_, ?_⟩ <;> first | rfl | trivial)
  simp only [Act.put, List.setIfInBounds_toArray, List.set_cons_zero, List.set_cons_succ]
  -- op 4 fieldAddr
  refine Flow.free rfl rfl ?_ ?_ ?_; rotate_left
  · intro W hS; go_simp; (try go_ints); (try simp only [↓IntWalk.iteOmega]); first | done | rfl | (refine ⟨?_, ?_⟩ <;> first | rfl | trivial)
  simp only [Act.put, List.setIfInBounds_toArray, List.set_cons_zero, List.set_cons_succ]
  -- op 7 fieldAddr
  refine Flow.free rfl rfl ?_ ?_ ?_; rotate_left
  · intro W hS; go_simp; (try go_ints); (try simp only [↓IntWalk.iteOmega]); first | done | rfl | (refine ⟨?_, ?_⟩ <;> first | rfl | trivial)
  simp only [Act.put, List.setIfInBounds_toArray, List.set_cons_zero, List.set_cons_succ]
  -- op 9 fieldAddr
  refine Flow.free rfl rfl ?_ ?_ ?_; rotate_left
  · intro W hS; go_simp; (try go_ints); (try simp only [↓IntWalk.iteOmega]); first | done | rfl | (refine ⟨?_, ?_⟩ <;> first | rfl | trivial)
  simp only [Act.put, List.setIfInBounds_toArray, List.set_cons_zero, List.set_cons_succ]
  -- op 12 fieldAddr
  refine Flow.free rfl rfl ?_ ?_ ?_; rotate_left
  · intro W hS; go_simp; (try go_ints); (try simp only [↓IntWalk.iteOmega]); first | done | rfl | (refine ⟨?_, ?_⟩ <;> first | rfl | trivial)
  simp only [Act.put, List.setIfInBounds_toArray, List.set_cons_zero, List.set_cons_succ]
  -- op 13 fieldAddr
  refine Flow.free rfl rfl ?_ ?_ ?_; rotate_left
  · intro W hS; go_simp; (try go_ints); (try simp only [↓IntWalk.iteOmega]); first | done | rfl | (refine ⟨?_, ?_⟩ <;> first | rfl | trivial)
  simp only [Act.put, List.setIfInBounds_toArray, List.set_cons_zero, List.set_cons_succ]
  -- op 15 fieldAddr
  refine Flow.free rfl rfl ?_ ?_ ?_; rotate_left
  · intro W hS; go_simp; (try go_ints); (try simp only [↓IntWalk.iteOmega]); first | done | rfl | (refine ⟨?_, ?_⟩ <;> first | rfl | trivial)
  simp only [Act.put, List.setIfInBounds_toArray, List.set_cons_zero, List.set_cons_succ]
  -- op 16 fieldAddr
  refine Flow.free rfl rfl ?_ ?_ ?_; rotate_left
  · intro W hS; go_simp; (try go_ints); (try simp only [↓IntWalk.iteOmega]); first | done | rfl | (refine ⟨?_, ?_⟩ <;> first | rfl | trivial)
  simp only [Act.put, List.setIfInBounds_toArray, List.set_cons_zero, List.set_cons_succ]
  -- op 2 load
  refine Flow.read rfl rfl ?_ ?_ ?_; rotate_left
  · intro W hb hS hd; obtain ⟨r1, r2⟩ := Ext.rules hb; go_simp; (try go_ints); (try simp only [↓IntWalk.iteOmega]); first | done | rfl | (refine ⟨?_, ?_⟩ <;> first | rfl | trivial)
  simp only [Act.put, List.setIfInBounds_toArray, List.set_cons_zero, List.set_cons_succ]
  -- op 5 load
  refine Flow.read rfl rfl ?_ ?_ ?_; rotate_left
  · intro W hb hS hd; obtain ⟨r1, r2⟩ := Ext.rules hb; go_simp; (try go_ints); (try simp only [↓IntWalk.iteOmega]); first | done | rfl | (refine ⟨?_, ?_⟩ <;> first | rfl | trivial)
  simp only [Act.put, List.setIfInBounds_toArray, List.set_cons_zero, List.set_cons_succ]
  -- op 6 call
  refine Flow.call rfl rfl 56 ?_ ?_ ?_ ?_ ?_; rotate_left
  · intro W; go_simp; first | done | rfl
  rotate_left
  · intro W hb hS hd; obtain ⟨r1, r2⟩ := Ext.rules hb; refine (compare_int _ _ _).mono ?_; rintro e W' ⟨rfl, rfl⟩; refine ⟨?_, Ext.rfl_ _⟩; rfl
  simp only [Act.put, List.setIfInBounds_toArray, List.set_cons_zero, List.set_cons_succ]
  -- op 8 load
  refine Flow.read rfl rfl ?_ ?_ ?_; rotate_left
  · intro W hb hS hd; obtain ⟨r1, r2⟩ := Ext.rules hb; go_simp; (try go_ints); (try simp only [↓IntWalk.iteOmega]); first | done | rfl | (refine ⟨?_, ?_⟩ <;> first | rfl | trivial)
  simp only [Act.put, List.setIfInBounds_toArray, List.set_cons_zero, List.set_cons_succ]
  -- op 10 load
  refine Flow.read rfl rfl ?_ ?_ ?_; rotate_left
  · intro W hb hS hd; obtain ⟨r1, r2⟩ := Ext.rules hb; go_simp; (try go_ints); (try simp only [↓IntWalk.iteOmega]); first | done | rfl | (refine ⟨?_, ?_⟩ <;> first | rfl | trivial)
  simp only [Act.put, List.setIfInBounds_toArray, List.set_cons_zero, List.set_cons_succ]
  -- op 11 call
  refine Flow.call rfl rfl 56 ?_ ?_ ?_ ?_ ?_; rotate_left
  · intro W; go_simp; first | done | rfl
  rotate_left
  · intro W hb hS hd; obtain ⟨r1, r2⟩ := Ext.rules hb; refine (compare_int _ _ _).mono ?_; rintro e W' ⟨rfl, rfl⟩; refine ⟨?_, Ext.rfl_ _⟩; rfl
  simp only [Act.put, List.setIfInBounds_toArray, List.set_cons_zero, List.set_cons_succ]
  -- op 14 load
  refine Flow.read rfl rfl ?_ ?_ ?_; rotate_left
  · intro W hb hS hd; obtain ⟨r1, r2⟩ := Ext.rules hb; go_simp; (try go_ints); (try simp only [↓IntWalk.iteOmega]); first | done | rfl | (refine ⟨?_, ?_⟩ <;> first | rfl | trivial)
  simp only [Act.put, List.setIfInBounds_toArray, List.set_cons_zero, List.set_cons_succ]
  -- op 17 load
  refine Flow.read rfl rfl ?_ ?_ ?_; rotate_left
  · intro W hb hS hd; obtain ⟨r1, r2⟩ := Ext.rules hb; go_simp; (try go_ints); (try simp only [↓IntWalk.iteOmega]); first | done | rfl | (refine ⟨?_, ?_⟩ <;> first | rfl | trivial)
  simp only [Act.put, List.setIfInBounds_toArray, List.set_cons_zero, List.set_cons_succ]
  -- op 18 call
  refine Flow.call rfl rfl 57 ?_ ?_ ?_ ?_ ?_; rotate_left
  · intro W; go_simp; first | done | rfl
  rotate_left
  · intro W hb hS hd; obtain ⟨r1, r2⟩ := Ext.rules hb; refine (compare_src _ _ _).mono ?_; rintro e W' ⟨rfl, rfl⟩; refine ⟨?_, Ext.rfl_ _⟩; rfl
  simp only [Act.put, List.setIfInBounds_toArray, List.set_cons_zero, List.set_cons_succ]
  -- op 19 buildSlice
  refine Flow.make rfl rfl (fun w19 hb hS hd K hK => ?_)
  go_simp
  refine hK _ _ (Ext.new _ _) ?_
  clear hK K hd hS
  have hb19 := hb; clear hb
  simp only [Act.put, List.setIfInBounds_toArray, List.set_cons_zero, List.set_cons_succ]
  -- op 20 call
  refine Flow.call rfl rfl 55 ?_ ?_ ?_ ?_ ?_; rotate_left
  · intro W; go_simp; first | done | rfl
  rotate_left
  · intro W hb hS hd; obtain ⟨r1, r2⟩ := Ext.rules hb; have hx19 := hd _ (.head _) (by simp); obtain ⟨r1_19, r2_19⟩ := Ext.rules hx19; refine (or_int (cmpI c c') (cmpI t t') (cmpI s s') _ _ (by go_simp) (by go_simp) (by go_simp)).mono ?_; rintro e W' ⟨rfl, rfl⟩; refine ⟨?_, Ext.rfl_ _⟩; rfl
  simp only [Act.put, List.setIfInBounds_toArray, List.set_cons_zero, List.set_cons_succ]
  -- op 21 assign
  refine Flow.free rfl rfl ?_ ?_ ?_; rotate_left
  · intro W hS; go_simp; (try go_ints); (try simp only [↓IntWalk.iteOmega]); first | done | rfl | (refine ⟨?_, ?_⟩ <;> first | rfl | trivial)
  simp only [Act.put, List.setIfInBounds_toArray, List.set_cons_zero, List.set_cons_succ]
  refine Flow.nil (fun w2 hb hS hd ht => ?_)
  have hx19 := hd _ (.head _); skip
  clear hd ht
  have hx2 : Ext w w2 := hx.tr hb
  obtain ⟨r1, r2⟩ := Ext.rules hb
  have hs3 : w.heap.size < w2.heap.size := Nat.lt_of_lt_of_le hs1 hb.size
  have hs4 : w.heap.size + 1 < w2.heap.size := Nat.lt_of_lt_of_le hs2 hb.size
  have HB := Lib.hid hb
  clear hb hx19 hb19 hS
  generalize or3 (cmpI c c') (cmpI t t') (cmpI s s') = r at *
  by_cases hc : r = 0
  · subst hc
    have hres := HF2.out rfl
    have HR := Lib.hid hres
    clear HF1 HF2 hres
    go_wp2
    refine wp_region_flow (fun _ => True) [⟨0, [], 0⟩, ⟨3, [], 0⟩, ⟨1, [], 1⟩, ⟨2, [], 3⟩, ⟨4, [], 1⟩, ⟨5, [], 3⟩, ⟨6, [], 2⟩, ⟨7, [], 2⟩, ⟨8, [6, 7], 5⟩, ⟨9, [], 5⟩] (by kernel_rfl) (by kernel_rfl) (fun _ _ _ _ => trivial) trivial ?_
    simp only [pick, List.map_cons, List.map_nil, List.getD_cons_zero, List.getD_cons_succ]
    -- op 0 move
    refine Flow.free rfl rfl ?_ ?_ ?_; rotate_left
    · intro W hS; go_simp; (try go_ints); (try simp only [↓IntWalk.iteOmega]); first | done | rfl | (refine ⟨?_, ?_⟩ <;> first | rfl | trivial)
    simp only [Act.put, List.setIfInBounds_toArray, List.set_cons_zero, List.set_cons_succ]
    -- op 3 move
    refine Flow.free rfl rfl ?_ ?_ ?_; rotate_left
    · intro W hS; go_simp; (try go_ints); (try simp only [↓IntWalk.iteOmega]); first | done | rfl | (refine ⟨?_, ?_⟩ <;> first | rfl | trivial)
    simp only [Act.put, List.setIfInBounds_toArray, List.set_cons_zero, List.set_cons_succ]
    -- op 1 load
    refine Flow.read rfl rfl ?_ ?_ ?_; rotate_left
    · intro W hb hS hd; obtain ⟨r1, r2⟩ := Ext.rules hb; go_simp; (try go_ints); (try simp only [↓IntWalk.iteOmega]); first | done | rfl | (refine ⟨?_, ?_⟩ <;> first | rfl | trivial)
    simp only [Act.put, List.setIfInBounds_toArray, List.set_cons_zero, List.set_cons_succ]
    -- op 2 call
    refine Flow.call rfl rfl 54 ?_ ?_ ?_ ?_ ?_; rotate_left
    · intro W; go_simp; first | done | rfl
    rotate_left
    · intro W hb hS hd; obtain ⟨r1, r2⟩ := Ext.rules hb; refine (place_any _ _ _ _ _ _ _ _ _ _ _).mono ?_; rintro e W' ⟨rfl, hb'⟩; refine ⟨?_, hb'⟩; rfl
    simp only [Act.put, List.setIfInBounds_toArray, List.set_cons_zero, List.set_cons_succ]
    -- op 4 load
    refine Flow.read rfl rfl ?_ ?_ ?_; rotate_left
    · intro W hb hS hd; obtain ⟨r1, r2⟩ := Ext.rules hb; go_simp; (try go_ints); (try simp only [↓IntWalk.iteOmega]); first | done | rfl | (refine ⟨?_, ?_⟩ <;> first | rfl | trivial)
    simp only [Act.put, List.setIfInBounds_toArray, List.set_cons_zero, List.set_cons_succ]
    -- op 5 call
    refine Flow.call rfl rfl 54 ?_ ?_ ?_ ?_ ?_; rotate_left
    · intro W; go_simp; first | done | rfl
    rotate_left
    · intro W hb hS hd; obtain ⟨r1, r2⟩ := Ext.rules hb; refine (place_any _ _ _ _ _ _ _ _ _ _ _).mono ?_; rintro e W' ⟨rfl, hb'⟩; refine ⟨?_, hb'⟩; rfl
    simp only [Act.put, List.setIfInBounds_toArray, List.set_cons_zero, List.set_cons_succ]
    -- op 6 alloc
    refine Flow.make rfl rfl (fun w6 hb hS hd K hK => ?_)
    go_simp
    refine hK _ _ (Ext.new _ _) ?_
    clear hK K hd hS
    have hb6 := hb; clear hb
    simp only [Act.put, List.setIfInBounds_toArray, List.set_cons_zero, List.set_cons_succ]
    -- op 7 alloc
    refine Flow.make rfl rfl (fun w7 hb hS hd K hK => ?_)
    go_simp
    refine hK _ _ (Ext.new _ _) ?_
    clear hK K hd hS
    have hb7 := hb; clear hb
    simp only [Act.put, List.setIfInBounds_toArray, List.set_cons_zero, List.set_cons_succ]
    -- op 8 store
    refine Flow.turn rfl rfl (fun w8 hb hS hd ht K hK => ?_)
    have hbt8 := hb; obtain ⟨r1, r2⟩ := Ext.rules hb; have hx6 := hd _ (.tail _ (.head _)); obtain ⟨r1_6, r2_6⟩ := Ext.rules hx6; have hl6_8 : w6.heap.size < w8.heap.size := Nat.lt_of_lt_of_le (by simp) hx6.size; have hx7 := hd _ (.head _); obtain ⟨r1_7, r2_7⟩ := Ext.rules hx7; have ht6_7 := ht _ (.tail _ (.head _)) _ (.head _) (by simp); have ne6_7 : w6.heap.size ≠ w7.heap.size := (by rcases ht6_7 with hh | hh <;> (have hh1 := hh.size; simp at hh1; omega)); have hl7_8 : w7.heap.size < w8.heap.size := Nat.lt_of_lt_of_le (by simp) hx7.size; skip
    go_simp
    refine hK _ _ trivial ?_
    clear hK K
    simp only [Act.put]
    -- op 9 store
    refine Flow.turn rfl rfl (fun w9 hb hS hd ht K hK => ?_)
    have hbt9 := hb; obtain ⟨r1, r2⟩ := Ext.rules hb; skip
    go_simp
    refine hK _ _ trivial ?_
    clear hK K
    simp only [Act.put]
    refine Flow.nil (fun w3 hb hS hd ht => ?_)
    clear hd ht
    have hz6 : w.heap.size ≤ w6.heap.size := Nat.le_trans hx2.size hb6.size
    have hz7 : w.heap.size ≤ w7.heap.size := Nat.le_trans hx2.size hb7.size
    have hx8 : Ext w w8 := hx2.tr hbt8
    have hx9 := below_ext (((hx8.setCell (p := ⟨w6.heap.size, 0, none⟩) hz6 (.int .i64 (pl0 s p n h))).setCell (p := ⟨w6.heap.size, 1, none⟩) hz6 (.int .i64 (pl1 s n))).setCell (p := ⟨w6.heap.size, 2, none⟩) hz6 (.int .i64 (pl2 s k))) hbt9 (Nat.le_refl _)
    have hx3 := below_ext (((hx9.setCell (p := ⟨w7.heap.size, 0, none⟩) hz7 (.int .i64 (pl0 s' p' n' h'))).setCell (p := ⟨w7.heap.size, 1, none⟩) hz7 (.int .i64 (pl1 s' n'))).setCell (p := ⟨w7.heap.size, 2, none⟩) hz7 (.int .i64 (pl2 s' k'))) hb (Nat.le_refl _)
    obtain ⟨q1, q2⟩ := Ext.rules hb
    have hl6 : w6.heap.size < w9.heap.size := Nat.lt_of_lt_of_le hl6_8 (by have := hbt9.size; simpa using this)
    have hl7 : w7.heap.size < w9.heap.size := Nat.lt_of_lt_of_le hl7_8 (by have := hbt9.size; simpa using this)
    have p0 : w3.cell? ⟨w6.heap.size, 0, none⟩ = some (.int .i64 (pl0 s p n h)) := by go_simp
    have p1 : w3.cell? ⟨w6.heap.size, 1, none⟩ = some (.int .i64 (pl1 s n)) := by go_simp
    have p2 : w3.cell? ⟨w6.heap.size, 2, none⟩ = some (.int .i64 (pl2 s k)) := by go_simp
    have p3 : w3.cell? ⟨w7.heap.size, 0, none⟩ = some (.int .i64 (pl0 s' p' n' h')) := by go_simp
    have p4 : w3.cell? ⟨w7.heap.size, 1, none⟩ = some (.int .i64 (pl1 s' n')) := by go_simp
    have p5 : w3.cell? ⟨w7.heap.size, 2, none⟩ = some (.int .i64 (pl2 s' k')) := by go_simp
    have hs5 : w6.heap.size < w3.heap.size := Nat.lt_of_lt_of_le hl6 (by have := hb.size; simpa using this)
    have hs6 : w7.heap.size < w3.heap.size := Nat.lt_of_lt_of_le hl7 (by have := hb.size; simpa using this)
    have HX := Lib.hid hx3
    clear hx3 hx9 hx8 hb hbt9 hbt8 q1 q2 hx6 hx7 hb6 hb7 r1 r2 r1_6 r2_6 r1_7 r2_7 hx2 hx a0 a1 a2 a3 a4 a5 a6 a7 b0 b1 b2 b3 b4 b5 b6 b7 hl6_8 hl7_8 HB
    generalize w6.heap.size = g1 at *
    generalize w7.heap.size = g2 at *
    go_wp2
    refine wp_region_flow (fun _ => True) [⟨0, [], 0⟩, ⟨2, [], 0⟩, ⟨5, [], 0⟩, ⟨7, [], 0⟩, ⟨10, [], 0⟩, ⟨12, [], 0⟩, ⟨1, [], 1⟩, ⟨3, [], 1⟩, ⟨4, [], 3⟩, ⟨6, [], 1⟩, ⟨8, [], 1⟩, ⟨9, [], 3⟩, ⟨11, [], 1⟩, ⟨13, [], 1⟩, ⟨14, [], 3⟩, ⟨15, [], 2⟩, ⟨16, [15], 3⟩, ⟨17, [15], 0⟩] (by kernel_rfl) (by kernel_rfl) (fun _ _ _ _ => trivial) trivial ?_
    simp only [pick, List.map_cons, List.map_nil, List.getD_cons_zero, List.getD_cons_succ]
    -- op 0 indexAddr
    refine Flow.free rfl rfl ?_ ?_ ?_; rotate_left
    · intro W hS; go_simp; (try go_ints); (try simp only [↓IntWalk.iteOmega]); first | done | rfl | (refine ⟨?_, ?_⟩ <;> first | rfl | trivial)
    simp only [Act.put, List.setIfInBounds_toArray, List.set_cons_zero, List.set_cons_succ]
    -- op 2 indexAddr
    refine Flow.free rfl rfl ?_ ?_ ?_; rotate_left
    · intro W hS; go_simp; (try go_ints); (try simp only [↓IntWalk.iteOmega]); first | done | rfl | (refine ⟨?_, ?_⟩ <;> first | rfl | trivial)
    simp only [Act.put, List.setIfInBounds_toArray, List.set_cons_zero, List.set_cons_succ]
    -- op 5 indexAddr
    refine Flow.free rfl rfl ?_ ?_ ?_; rotate_left
    · intro W hS; go_simp; (try go_ints); (try simp only [↓IntWalk.iteOmega]); first | done | rfl | (refine ⟨?_, ?_⟩ <;> first | rfl | trivial)
    simp only [Act.put, List.setIfInBounds_toArray, List.set_cons_zero, List.set_cons_succ]
    -- op 7 indexAddr
    refine Flow.free rfl rfl ?_ ?_ ?_; rotate_left
    · intro W hS; go_simp; (try go_ints); (try simp only [↓IntWalk.iteOmega]); first | done | rfl | (refine ⟨?_, ?_⟩ <;> first | rfl | trivial)
    simp only [Act.put, List.setIfInBounds_toArray, List.set_cons_zero, List.set_cons_succ]
    -- op 10 indexAddr
    refine Flow.free rfl rfl ?_ ?_ ?_; rotate_left
    · intro W hS; go_simp; (try go_ints); (try simp only [↓IntWalk.iteOmega]); first | done | rfl | (refine ⟨?_, ?_⟩ <;> first | rfl | trivial)
    simp only [Act.put, List.setIfInBounds_toArray, List.set_cons_zero, List.set_cons_succ]
    -- op 12 indexAddr
    refine Flow.free rfl rfl ?_ ?_ ?_; rotate_left
    · intro W hS; go_simp; (try go_ints); (try simp only [↓IntWalk.iteOmega]); first | done | rfl | (refine ⟨?_, ?_⟩ <;> first | rfl | trivial)
    simp only [Act.put, List.setIfInBounds_toArray, List.set_cons_zero, List.set_cons_succ]
    -- op 1 load
    refine Flow.read rfl rfl ?_ ?_ ?_; rotate_left
    · intro W hb hS hd; obtain ⟨r1, r2⟩ := Ext.rules hb; go_simp; (try go_ints); (try simp only [↓IntWalk.iteOmega]); first | done | rfl | (refine ⟨?_, ?_⟩ <;> first | rfl | trivial)
    simp only [Act.put, List.setIfInBounds_toArray, List.set_cons_zero, List.set_cons_succ]
    -- op 3 load
    refine Flow.read rfl rfl ?_ ?_ ?_; rotate_left
    · intro W hb hS hd; obtain ⟨r1, r2⟩ := Ext.rules hb; go_simp; (try go_ints); (try simp only [↓IntWalk.iteOmega]); first | done | rfl | (refine ⟨?_, ?_⟩ <;> first | rfl | trivial)
    simp only [Act.put, List.setIfInBounds_toArray, List.set_cons_zero, List.set_cons_succ]
    -- op 4 call
    refine Flow.call rfl rfl 56 ?_ ?_ ?_ ?_ ?_; rotate_left
    · intro W; go_simp; first | done | rfl
    rotate_left
    · intro W hb hS hd; obtain ⟨r1, r2⟩ := Ext.rules hb; refine (compare_int _ _ _).mono ?_; rintro e W' ⟨rfl, rfl⟩; refine ⟨?_, Ext.rfl_ _⟩; rfl
    simp only [Act.put, List.setIfInBounds_toArray, List.set_cons_zero, List.set_cons_succ]
    -- op 6 load
    refine Flow.read rfl rfl ?_ ?_ ?_; rotate_left
    · intro W hb hS hd; obtain ⟨r1, r2⟩ := Ext.rules hb; go_simp; (try go_ints); (try simp only [↓IntWalk.iteOmega]); first | done | rfl | (refine ⟨?_, ?_⟩ <;> first | rfl | trivial)
    simp only [Act.put, List.setIfInBounds_toArray, List.set_cons_zero, List.set_cons_succ]
    -- op 8 load
    refine Flow.read rfl rfl ?_ ?_ ?_; rotate_left
    · intro W hb hS hd; obtain ⟨r1, r2⟩ := Ext.rules hb; go_simp; (try go_ints); (try simp only [↓IntWalk.iteOmega]); first | done | rfl | (refine ⟨?_, ?_⟩ <;> first | rfl | trivial)
    simp only [Act.put, List.setIfInBounds_toArray, List.set_cons_zero, List.set_cons_succ]
    -- op 9 call
    refine Flow.call rfl rfl 56 ?_ ?_ ?_ ?_ ?_; rotate_left
    · intro W; go_simp; first | done | rfl
    rotate_left
    · intro W hb hS hd; obtain ⟨r1, r2⟩ := Ext.rules hb; refine (compare_int _ _ _).mono ?_; rintro e W' ⟨rfl, rfl⟩; refine ⟨?_, Ext.rfl_ _⟩; rfl
    simp only [Act.put, List.setIfInBounds_toArray, List.set_cons_zero, List.set_cons_succ]
    -- op 11 load
    refine Flow.read rfl rfl ?_ ?_ ?_; rotate_left
    · intro W hb hS hd; obtain ⟨r1, r2⟩ := Ext.rules hb; go_simp; (try go_ints); (try simp only [↓IntWalk.iteOmega]); first | done | rfl | (refine ⟨?_, ?_⟩ <;> first | rfl | trivial)
    simp only [Act.put, List.setIfInBounds_toArray, List.set_cons_zero, List.set_cons_succ]
    -- op 13 load
    refine Flow.read rfl rfl ?_ ?_ ?_; rotate_left
    · intro W hb hS hd; obtain ⟨r1, r2⟩ := Ext.rules hb; go_simp; (try go_ints); (try simp only [↓IntWalk.iteOmega]); first | done | rfl | (refine ⟨?_, ?_⟩ <;> first | rfl | trivial)
    simp only [Act.put, List.setIfInBounds_toArray, List.set_cons_zero, List.set_cons_succ]
    -- op 14 call
    refine Flow.call rfl rfl 56 ?_ ?_ ?_ ?_ ?_; rotate_left
    · intro W; go_simp; first | done | rfl
    rotate_left
    · intro W hb hS hd; obtain ⟨r1, r2⟩ := Ext.rules hb; refine (compare_int _ _ _).mono ?_; rintro e W' ⟨rfl, rfl⟩; refine ⟨?_, Ext.rfl_ _⟩; rfl
    simp only [Act.put, List.setIfInBounds_toArray, List.set_cons_zero, List.set_cons_succ]
    -- op 15 buildSlice
    refine Flow.make rfl rfl (fun w15 hb hS hd K hK => ?_)
    go_simp
    refine hK _ _ (Ext.new _ _) ?_
    clear hK K hd hS
    have hb15 := hb; clear hb
    simp only [Act.put, List.setIfInBounds_toArray, List.set_cons_zero, List.set_cons_succ]
    -- op 16 call
    refine Flow.call rfl rfl 55 ?_ ?_ ?_ ?_ ?_; rotate_left
    · intro W; go_simp; first | done | rfl
    rotate_left
    · intro W hb hS hd; obtain ⟨r1, r2⟩ := Ext.rules hb; have hx15 := hd _ (.head _) (by simp); obtain ⟨r1_15, r2_15⟩ := Ext.rules hx15; refine (or_int (cmpI (pl0 s p n h) (pl0 s' p' n' h')) (cmpI (pl1 s n) (pl1 s' n')) (cmpI (pl2 s k) (pl2 s' k')) _ _ (by go_simp) (by go_simp) (by go_simp)).mono ?_; rintro e W' ⟨rfl, rfl⟩; refine ⟨?_, Ext.rfl_ _⟩; rfl
    simp only [Act.put, List.setIfInBounds_toArray, List.set_cons_zero, List.set_cons_succ]
    -- op 17 assign
    refine Flow.free rfl rfl ?_ ?_ ?_; rotate_left
    · intro W hS; go_simp; (try go_ints); (try simp only [↓IntWalk.iteOmega]); first | done | rfl | (refine ⟨?_, ?_⟩ <;> first | rfl | trivial)
    simp only [Act.put, List.setIfInBounds_toArray, List.set_cons_zero, List.set_cons_succ]
    refine Flow.nil (fun w4 hb hS hd ht => ?_)
    have hx15 := hd _ (.head _); skip
    clear hd ht
    go_wp2
    go_ret
    exact ⟨by rw [HR.out]; rfl, below_ext HX.out hb (Nat.le_refl _)⟩
  · have hc1 : (r != 0) = true := by simp [hc]
    have HC := Lib.hid hc
    clear hc
    go_wp2
    go_ret
    exact ⟨by rw [HF1.out HC.out]; rfl, hx2⟩
end Go.Proofs.Ytnamppkicefbjaa
