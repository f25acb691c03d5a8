/- Contracts of Take's two closures. Own text. -/
import Derived.Test.YtnamppkicefbjaaW6
namespace Go.Proofs.Ytnamppkicefbjaa
open Go.RowKit Go.Flow Go.Mem

set_option maxHeartbeats 1000000 in
set_option maxRecDepth 100000 in
theorem reached_any (j ba bc a g cap m : Nat) (x : En) (comp : Int) (w : World) (hj : j < m)
    (z1 : w.cell? ⟨ba, 0, none⟩ = some (.pointer (some ⟨a, 0, none⟩))) (z2 : w.cell? ⟨a, 0, none⟩ = some (.slice (some ⟨g, 0, none⟩) m cap)) (z3 : w.cell? ⟨bc, 0, none⟩ = some (.int .i64 comp))
    (a0 : w.rangeAt g (j * 8) x.cells) :
    Calls Try.prog 33 #[.int .i64 j, .pointer (some ⟨ba, 0, none⟩), .pointer (some ⟨bc, 0, none⟩)] w fun e w' => e = .returned (.bool (decide (comp ≤ x.c))) ∧ Ext w w' := by
  have l1 := World.block_lt_of_cell? _ _ z1
  have l2 := World.block_lt_of_cell? _ _ z2
  have l3 := World.block_lt_of_cell? _ _ z3
  have z4 : w.cell? ⟨g, j * 8 + 1 + 1, none⟩ = some (.int .i64 x.c) := a0 2 _ rfl
  have l4 := World.block_lt_of_cell? _ _ z4
  simp only at l1 l2 l3 l4
  clear a0
  go_enter Try.func33, Try.ntmps33
  go_wp2
  refine wp_region_flow (fun _ => True) [⟨4, [], 0⟩, ⟨0, [], 1⟩, ⟨1, [], 0⟩, ⟨2, [], 0⟩, ⟨3, [], 1⟩, ⟨5, [], 0⟩, ⟨6, [], 0⟩, ⟨7, [], 0⟩, ⟨8, [], 1⟩, ⟨9, [], 1⟩, ⟨10, [], 0⟩, ⟨11, [], 0⟩] (by kernel_rfl) (by kernel_rfl) (fun _ _ _ _ => trivial) trivial ?_
  simp only [pick, List.map_cons, List.map_nil, List.getD_cons_zero, List.getD_cons_succ]
  -- op 4 move
  refine Flow.free rfl rfl ?_ ?_ ?_; rotate_left
  · intro W hS; go_simp; (try go_ints); (try simp only [↓IntWalk.iteOmega]); first | done | rfl | (refine ⟨?_, ?_⟩ <;> first | rfl | trivial)
  simp only [Act.put, List.setIfInBounds_toArray, List.set_cons_zero, List.set_cons_succ]
  -- op 0 load
  refine Flow.read rfl rfl ?_ ?_ ?_; rotate_left
  · intro W hb hS hd; obtain ⟨r1, r2⟩ := Ext.rules hb; go_simp; (try go_ints); (try simp only [↓IntWalk.iteOmega]); first | done | rfl | (refine ⟨?_, ?_⟩ <;> first | rfl | trivial)
  simp only [Act.put, List.setIfInBounds_toArray, List.set_cons_zero, List.set_cons_succ]
  -- op 1 nilCheck
  refine Flow.free rfl rfl ?_ ?_ ?_; rotate_left
  · intro W hS; go_simp; (try go_ints); (try simp only [↓IntWalk.iteOmega]); first | done | rfl | (refine ⟨?_, ?_⟩ <;> first | rfl | trivial)
  simp only [Act.put, List.setIfInBounds_toArray, List.set_cons_zero, List.set_cons_succ]
  -- op 2 fieldAddr
  refine Flow.free rfl rfl ?_ ?_ ?_; rotate_left
  · intro W hS; go_simp; (try go_ints); (try simp only [↓IntWalk.iteOmega]); first | done | rfl | (refine ⟨?_, ?_⟩ <;> first | rfl | trivial)
  simp only [Act.put, List.setIfInBounds_toArray, List.set_cons_zero, List.set_cons_succ]
  -- op 3 load
  refine Flow.read rfl rfl ?_ ?_ ?_; rotate_left
  · intro W hb hS hd; obtain ⟨r1, r2⟩ := Ext.rules hb; go_simp; (try go_ints); (try simp only [↓IntWalk.iteOmega]); first | done | rfl | (refine ⟨?_, ?_⟩ <;> first | rfl | trivial)
  simp only [Act.put, List.setIfInBounds_toArray, List.set_cons_zero, List.set_cons_succ]
  -- op 5 indexAddr
  refine Flow.free rfl rfl ?_ ?_ ?_; rotate_left
  · intro W hS; go_simp; (try go_ints); (try simp only [↓IntWalk.iteOmega]); first | done | rfl | (refine ⟨?_, ?_⟩ <;> first | rfl | trivial)
  simp only [Act.put, List.setIfInBounds_toArray, List.set_cons_zero, List.set_cons_succ]
  -- op 6 fieldAddr
  refine Flow.free rfl rfl ?_ ?_ ?_; rotate_left
  · intro W hS; go_simp; (try go_ints); (try simp only [↓IntWalk.iteOmega]); first | done | rfl | (refine ⟨?_, ?_⟩ <;> first | rfl | trivial)
  simp only [Act.put, List.setIfInBounds_toArray, List.set_cons_zero, List.set_cons_succ]
  -- op 7 fieldAddr
  refine Flow.free rfl rfl ?_ ?_ ?_; rotate_left
  · intro W hS; go_simp; (try go_ints); (try simp only [↓IntWalk.iteOmega]); first | done | rfl | (refine ⟨?_, ?_⟩ <;> first | rfl | trivial)
  simp only [Act.put, List.setIfInBounds_toArray, List.set_cons_zero, List.set_cons_succ]
  -- op 8 load
  refine Flow.read rfl rfl ?_ ?_ ?_; rotate_left
  · intro W hb hS hd; obtain ⟨r1, r2⟩ := Ext.rules hb; go_simp; (try go_ints); (try simp only [↓IntWalk.iteOmega]); first | done | rfl | (refine ⟨?_, ?_⟩ <;> first | rfl | trivial)
  simp only [Act.put, List.setIfInBounds_toArray, List.set_cons_zero, List.set_cons_succ]
  -- op 9 load
  refine Flow.read rfl rfl ?_ ?_ ?_; rotate_left
  · intro W hb hS hd; obtain ⟨r1, r2⟩ := Ext.rules hb; go_simp; (try go_ints); (try simp only [↓IntWalk.iteOmega]); first | done | rfl | (refine ⟨?_, ?_⟩ <;> first | rfl | trivial)
  simp only [Act.put, List.setIfInBounds_toArray, List.set_cons_zero, List.set_cons_succ]
  -- op 10 binOp
  refine Flow.free rfl rfl ?_ ?_ ?_; rotate_left
  · intro W hS; go_simp; (try go_ints); (try simp only [↓IntWalk.iteOmega]); first | done | rfl | (refine ⟨?_, ?_⟩ <;> first | rfl | trivial)
  simp only [Act.put, List.setIfInBounds_toArray, List.set_cons_zero, List.set_cons_succ]
  -- op 11 assign
  refine Flow.free rfl rfl ?_ ?_ ?_; rotate_left
  · intro W hS; go_simp; (try go_ints); (try simp only [↓IntWalk.iteOmega]); first | done | rfl | (refine ⟨?_, ?_⟩ <;> first | rfl | trivial)
  simp only [Act.put, List.setIfInBounds_toArray, List.set_cons_zero, List.set_cons_succ]
  refine Flow.nil (fun w3 hb hS hd ht => ?_)
  clear hd ht
  go_wp2
  go_ret
  exact ⟨by simp, hb⟩

def beyondB (comp tick : Int) (x : En) : Bool := decide (comp < x.c ∨ (x.c = comp ∧ tick < x.t))

set_option maxHeartbeats 1000000 in
set_option maxRecDepth 100000 in
theorem beyond_any (j ba bc bt a g cap m : Nat) (x : En) (comp tick : Int) (w : World) (hj : j < m)
    (z1 : w.cell? ⟨ba, 0, none⟩ = some (.pointer (some ⟨a, 0, none⟩))) (z2 : w.cell? ⟨a, 0, none⟩ = some (.slice (some ⟨g, 0, none⟩) m cap)) (z3 : w.cell? ⟨bc, 0, none⟩ = some (.int .i64 comp)) (z5 : w.cell? ⟨bt, 0, none⟩ = some (.int .i64 tick))
    (a0 : w.rangeAt g (j * 8) x.cells) :
    Calls Try.prog 34 #[.int .i64 j, .pointer (some ⟨ba, 0, none⟩), .pointer (some ⟨bc, 0, none⟩), .pointer (some ⟨bt, 0, none⟩)] w fun e w' => e = .returned (.bool (beyondB comp tick x)) ∧ Ext w w' := by
  have l1 := World.block_lt_of_cell? _ _ z1
  have l2 := World.block_lt_of_cell? _ _ z2
  have l3 := World.block_lt_of_cell? _ _ z3
  have l5 := World.block_lt_of_cell? _ _ z5
  simp only at l1 l2 l3 l5
  obtain ⟨t, s, c, p, n, k, h, args, A, cp⟩ := x
  have hb : beyondB comp tick { t := t, s := s, c := c, p := p, n := n, k := k, h := h, args := args, A := A, cap := cp } = decide (comp < c ∨ (c = comp ∧ tick < t)) := rfl
  rw [hb]
  have c0 : w.cell? ⟨g, j * 8, none⟩ = some (.int .i64 t) := a0 0 _ rfl
  have c1 : w.cell? ⟨g, j * 8 + 1, none⟩ = some (.int .u8 s) := a0 1 _ rfl
  have c2 : w.cell? ⟨g, j * 8 + 2, none⟩ = some (.int .i64 c) := a0 2 _ rfl
  have c3 : w.cell? ⟨g, j * 8 + 3, none⟩ = some (.int .i64 p) := a0 3 _ rfl
  have c4 : w.cell? ⟨g, j * 8 + 4, none⟩ = some (.int .i64 n) := a0 4 _ rfl
  have c5 : w.cell? ⟨g, j * 8 + 5, none⟩ = some (.int .i64 k) := a0 5 _ rfl
  have c6 : w.cell? ⟨g, j * 8 + 6, none⟩ = some (.int .i64 h) := a0 6 _ rfl
  have c7 : w.cell? ⟨g, j * 8 + 7, none⟩ = some (.slice A args.length cp) := a0 7 _ rfl
  clear hb a0
  by_cases h1 : comp < c
  · have e1 : decide (comp < c ∨ (c = comp ∧ tick < t)) = true := by simp [h1]
    rw [e1]
    clear e1
    go_enter Try.func34, Try.ntmps34
    go_wp2
    go_ret
    exact ⟨rfl, Ext.new _ _⟩
  · by_cases h2 : c = comp
    · subst h2
      have e1 : decide (c < c ∨ (c = c ∧ tick < t)) = decide (tick < t) := by simp
      rw [e1]
      clear e1 h1
      go_enter Try.func34, Try.ntmps34
      go_wp2
      go_ret
      exact ⟨rfl, Ext.new _ _⟩
    · have e1 : decide (comp < c ∨ (c = comp ∧ tick < t)) = false := by simp [h1, h2]
      rw [e1]
      have e2 : (c == comp) = false := by simp [h2]
      clear e1 h2
      go_enter Try.func34, Try.ntmps34
      go_wp2
      go_ret
      exact ⟨rfl, Ext.new _ _⟩
end Go.Proofs.Ytnamppkicefbjaa
