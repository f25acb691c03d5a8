/- Contracts: New, args, Len. Own text. -/
import Derived.Test.YtnamppkicefbjaaW8
namespace Go.Proofs.Ytnamppkicefbjaa
open Go.RowKit Go.Flow Go.Mem

set_option maxHeartbeats 1000000 in
set_option maxRecDepth 100000 in
theorem new_any (w : World) : Calls Try.prog 17 #[] w fun e w' => e = .returned (.pointer (some ⟨w.heap.size, 0, none⟩)) ∧ Ag w' w.heap.size w.heap.size (.slice none 0 0) [] ∧ Ext w w' ∧ w'.heap.size = w.heap.size + 1 := by
  go_enter Try.func17, Try.ntmps17
  go_wp2
  go_ret
  refine ⟨rfl, ⟨heap_alloc_new _ _, Nat.le_refl _, World.ownsRow_nil _ _ _ _, fun e he => (List.not_mem_nil he).elim, List.Pairwise.nil⟩, Ext.new _ _, by simp⟩

set_option maxHeartbeats 1000000 in
set_option maxRecDepth 100000 in
theorem len_any (B a : Nat) (v : Value) (L : List En) (w : World) (hA : Ag w B a v L) : Calls Try.prog 16 #[.pointer (some ⟨a, 0, none⟩)] w fun e w' => e = .returned (.int .i64 L.length) ∧ Ext w w' := by
  obtain ⟨Av, capv, hvv, _, hnc, hcm⟩ := own_form hA.row
  subst hvv
  have hav : w.cell? ⟨a, 0, none⟩ = some (.slice Av L.length capv) := cell_of_one hA.blk
  clear hA
  go_enter Try.func16, Try.ntmps16
  go_wp2
  go_ret
  exact ⟨rfl, Ext.rfl_ _⟩

set_option maxHeartbeats 1000000 in
set_option maxRecDepth 100000 in
theorem args_any (A1 A2 : Option Addr) (p1 p2 : Nat) (xs ys : List Int) (w : World) (h1 : Src w A1 (ints xs)) (h2 : Src w A2 (ints ys)) (hl : xs.length ≤ 1000000000000) :
    Calls Try.prog 20 #[.slice A1 xs.length p1, .slice A2 ys.length p2] w fun e w' => e = .returned (.bool (decide (xs = ys))) ∧ Ext w w' := by
  have H1 := Lib.hid h1
  have H2 := Lib.hid h2
  clear h1 h2
  by_cases hlen : xs.length = ys.length
  · rw [← hlen]
    go_enter Try.func20, Try.ntmps20
    go_wp2
    go_loopg [5, 13] xs.length (fun kx _ s13 wr => ∃ kk : Nat, kk ≤ xs.length ∧ xs.length - kk ≤ kx ∧ s13 = .int .i64 kk ∧ Hid (xs.take kk = ys.take kk) ∧ Hid (Ext w wr))
    case atStart => exact ⟨0, Nat.zero_le _, by omega, rfl, (rfl : xs.take 0 = ys.take 0), Ext.rfl_ _⟩
    case round =>
      obtain ⟨kk, hkk, hkx, rfl, HM, HX⟩ := hrel
      by_cases hlt : kk < xs.length
      · obtain ⟨g1, o1, e1, c1⟩ := (H1.out.ext HX.out).at_ (j := kk) (v := .int .i64 xs[kk]) (by simp [ints, hlt])
        obtain ⟨g2, o2, e2, c2⟩ := (H2.out.ext HX.out).at_ (j := kk) (v := .int .i64 (ys[kk]'(by omega))) (by simp [ints, ← hlen, hlt])
        obtain ⟨x, hx⟩ : ∃ x, x = xs[kk] := ⟨_, rfl⟩
        obtain ⟨y, hy⟩ : ∃ y, y = ys[kk]'(by omega) := ⟨_, rfl⟩
        rw [← hx] at c1
        rw [← hy] at c2
        subst e1 e2
        have HXX := Lib.hid hx
        have HYY := Lib.hid hy
        clear hx hy
        go_wp2_with fail
        have l1 := World.block_lt_of_cell? _ _ c1
        have l2 := World.block_lt_of_cell? _ _ c2
        simp only at l1 l2
        refine wp_region_flow (fun _ => True) [⟨0, [], 0⟩, ⟨1, [], 0⟩, ⟨2, [], 0⟩, ⟨4, [], 0⟩, ⟨5, [], 0⟩, ⟨6, [], 0⟩, ⟨3, [], 1⟩, ⟨7, [], 1⟩, ⟨8, [], 0⟩] (by kernel_rfl) (by kernel_rfl) (fun _ _ _ _ => trivial) trivial ?_
        simp only [pick, List.map_cons, List.map_nil, List.getD_cons_zero, List.getD_cons_succ]
        -- op 0 move
        refine Flow.free rfl rfl ?_ ?_ ?_; rotate_left
        · intro W hS; go_simp; (try go_ints); (try simp only [↓IntWalk.iteOmega]); first | done | rfl | (refine ⟨?_, ?_⟩ <;> first | rfl | trivial)
        simp only [Act.put, List.setIfInBounds_toArray, List.set_cons_zero, List.set_cons_succ]
        -- op 1 move
        refine Flow.free rfl rfl ?_ ?_ ?_; rotate_left
        · intro W hS; go_simp; (try go_ints); (try simp only [↓IntWalk.iteOmega]); first | done | rfl | (refine ⟨?_, ?_⟩ <;> first | rfl | trivial)
        simp only [Act.put, List.setIfInBounds_toArray, List.set_cons_zero, List.set_cons_succ]
        -- op 2 indexAddr
        refine Flow.free rfl rfl ?_ ?_ ?_; rotate_left
        · intro W hS; go_simp; (try go_ints); (try simp only [↓IntWalk.iteOmega]); first | done | rfl | (refine ⟨?_, ?_⟩ <;> first | rfl | trivial)
        simp only [Act.put, List.setIfInBounds_toArray, List.set_cons_zero, List.set_cons_succ]
        -- op 4 move
        refine Flow.free rfl rfl ?_ ?_ ?_; rotate_left
        · intro W hS; go_simp; (try go_ints); (try simp only [↓IntWalk.iteOmega]); first | done | rfl | (refine ⟨?_, ?_⟩ <;> first | rfl | trivial)
        simp only [Act.put, List.setIfInBounds_toArray, List.set_cons_zero, List.set_cons_succ]
        -- op 5 move
        refine Flow.free rfl rfl ?_ ?_ ?_; rotate_left
        · intro W hS; go_simp; (try go_ints); (try simp only [↓IntWalk.iteOmega]); first | done | rfl | (refine ⟨?_, ?_⟩ <;> first | rfl | trivial)
        simp only [Act.put, List.setIfInBounds_toArray, List.set_cons_zero, List.set_cons_succ]
        -- op 6 indexAddr
        refine Flow.free rfl rfl ?_ ?_ ?_; rotate_left
        · intro W hS; go_simp; (try go_ints); (try simp only [↓IntWalk.iteOmega]); first | done | rfl | (refine ⟨?_, ?_⟩ <;> first | rfl | trivial)
        simp only [Act.put, List.setIfInBounds_toArray, List.set_cons_zero, List.set_cons_succ]
        -- op 3 load
        refine Flow.read rfl rfl ?_ ?_ ?_; rotate_left
        · intro W hb hS hd; obtain ⟨r1, r2⟩ := Ext.rules hb; go_simp; (try go_ints); (try simp only [↓IntWalk.iteOmega]); first | done | rfl | (refine ⟨?_, ?_⟩ <;> first | rfl | trivial)
        simp only [Act.put, List.setIfInBounds_toArray, List.set_cons_zero, List.set_cons_succ]
        -- op 7 load
        refine Flow.read rfl rfl ?_ ?_ ?_; rotate_left
        · intro W hb hS hd; obtain ⟨r1, r2⟩ := Ext.rules hb; go_simp; (try go_ints); (try simp only [↓IntWalk.iteOmega]); first | done | rfl | (refine ⟨?_, ?_⟩ <;> first | rfl | trivial)
        simp only [Act.put, List.setIfInBounds_toArray, List.set_cons_zero, List.set_cons_succ]
        -- op 8 binOp
        refine Flow.free rfl rfl ?_ ?_ ?_; rotate_left
        · intro W hS; go_simp; (try go_ints); (try simp only [↓IntWalk.iteOmega]); first | done | rfl | (refine ⟨?_, ?_⟩ <;> first | rfl | trivial)
        simp only [Act.put, List.setIfInBounds_toArray, List.set_cons_zero, List.set_cons_succ]
        refine Flow.nil (fun w9 hb hS hd ht => ?_)
        clear hd ht
        by_cases hxy : x = y
        · subst hxy
          go_wp2
          go_roundg (xs.length - (kk + 1))
          case measure => omega
          case rel =>
            refine ⟨kk + 1, by omega, Nat.le_refl _, by go_num, (?_ : xs.take (kk + 1) = ys.take (kk + 1)), HX.out.tr hb⟩
            rw [List.take_succ_eq_append_getElem hlt, List.take_succ_eq_append_getElem (by omega), HM.out, ← HXX.out, ← HYY.out]
        · go_wp2
          go_ret
          refine ⟨?_, HX.out.tr hb⟩
          have : ¬ xs = ys := fun e => hxy (by rw [HXX.out, HYY.out]; simp [e])
          simp [this]
      · obtain rfl : kk = xs.length := by omega
        go_wp2
        go_ret
        refine ⟨?_, HX.out⟩
        have h := HM.out
        rw [List.take_length, hlen, List.take_length] at h
        simp [h]
  · have hne : ¬ xs = ys := fun e => hlen (by rw [e])
    have hz : ((xs.length : Int) == ys.length) = false := by simp; omega
    go_enter Try.func20, Try.ntmps20
    go_wp2
    all_goals (go_ret; exact ⟨by simp [hne], Ext.rfl_ _⟩)
end Go.Proofs.Ytnamppkicefbjaa
