import Derived.Test.YtnamppkicefbjaaW1
import Derived.Deep.LoopGhost
namespace Go.Proofs.Ytnamppkicefbjaa
open Go.RowKit Go.Flow

set_option maxHeartbeats 1000000 in
set_option maxRecDepth 100000 in
theorem after_any (j : Nat) (ba bx a g cap m : Nat) (t s c p n k h : Int) (A : Option Addr) (l cp : Nat) (t' s' c' p' n' k' h' : Int) (A' : Option Addr) (l' cp' : Nat) (w : World) (hj : j < m)
    (z1 : w.cell? ⟨ba, 0, none⟩ = some (.pointer (some ⟨a, 0, none⟩))) (z2 : w.cell? ⟨a, 0, none⟩ = some (.slice (some ⟨g, 0, none⟩) m cap))
    (a0 : w.rangeAt g (j * 8) [.int .i64 t, .int .u8 s, .int .i64 c, .int .i64 p, .int .i64 n, .int .i64 k, .int .i64 h, .slice A l cp])
    (b0 : w.rangeAt bx 0 [.int .i64 t', .int .u8 s', .int .i64 c', .int .i64 p', .int .i64 n', .int .i64 k', .int .i64 h', .slice A' l' cp']) :
    Calls Try.prog 40 #[.int .i64 j, .pointer (some ⟨ba, 0, none⟩), .pointer (some ⟨bx, 0, none⟩)] w fun e w' => e = .returned (.bool (decide (0 < cmpE t s c p n k h t' s' c' p' n' k' h'))) ∧ Ext w w' := by
  have l1 := World.block_lt_of_cell? _ _ z1
  have l2 := World.block_lt_of_cell? _ _ z2
  simp only at l1 l2
  go_enter Try.func40, Try.ntmps40
  go_wp2
  refine wp_region_flow (fun _ => True) [⟨4, [], 0⟩, ⟨0, [], 1⟩, ⟨1, [], 0⟩, ⟨2, [], 0⟩, ⟨3, [], 1⟩, ⟨5, [], 0⟩, ⟨6, [], 1⟩, ⟨7, [], 1⟩, ⟨8, [], 3⟩, ⟨9, [], 0⟩, ⟨10, [], 0⟩] (by kernel_rfl) (by kernel_rfl) (fun _ _ _ _ => trivial) trivial ?_
  simp only [pick, List.map_cons, List.map_nil, List.getD_cons_zero, List.getD_cons_succ]
  -- op 4 move
  refine Flow.free rfl rfl ?_ ?_ ?_; rotate_left
  · intro W hS; go_simp; (try go_ints); (try simp only [↓IntWalk.iteOmega]); first | done | rfl | (refine ⟨?_, ?_⟩ <;> first | rfl | trivial)
  simp only [Act.put, List.setIfInBounds_toArray, List.set_cons_zero, List.set_cons_succ]
  -- op 0 load
  refine Flow.read rfl rfl ?_ ?_ ?_; rotate_left
  · intro W hb hS hd; obtain ⟨r1, r2⟩ := Ext.rules hb; go_simp; (try go_ints); (try simp only [↓IntWalk.iteOmega]); first | done | rfl | (refine ⟨?_, ?_⟩ <;> first | rfl | trivial)
  simp only [Act.put, List.setIfInBounds_toArray, List.set_cons_zero, List.set_cons_succ]
  -- op 1 nilCheck
  refine Flow.free rfl rfl ?_ ?_ ?_; rotate_left
  · intro W hS; go_simp; (try go_ints); (try simp only [↓IntWalk.iteOmega]); first | done | rfl | (refine ⟨?_, ?_⟩ <;> first | rfl | trivial)
  simp only [Act.put, List.setIfInBounds_toArray, List.set_cons_zero, List.set_cons_succ]
  -- op 2 fieldAddr
  refine Flow.free rfl rfl ?_ ?_ ?_; rotate_left
  · intro W hS; go_simp; (try go_ints); (try simp only [↓IntWalk.iteOmega]); first | done | rfl | (refine ⟨?_, ?_⟩ <;> first | rfl | trivial)
  simp only [Act.put, List.setIfInBounds_toArray, List.set_cons_zero, List.set_cons_succ]
  -- op 3 load
  refine Flow.read rfl rfl ?_ ?_ ?_; rotate_left
  · intro W hb hS hd; obtain ⟨r1, r2⟩ := Ext.rules hb; go_simp; (try go_ints); (try simp only [↓IntWalk.iteOmega]); first | done | rfl | (refine ⟨?_, ?_⟩ <;> first | rfl | trivial)
  simp only [Act.put, List.setIfInBounds_toArray, List.set_cons_zero, List.set_cons_succ]
  -- op 5 indexAddr
  refine Flow.free rfl rfl ?_ ?_ ?_; rotate_left
  · intro W hS; go_simp; (try go_ints); (try simp only [↓IntWalk.iteOmega]); first | done | rfl | (refine ⟨?_, ?_⟩ <;> first | rfl | trivial)
  simp only [Act.put, List.setIfInBounds_toArray, List.set_cons_zero, List.set_cons_succ]
  -- op 6 load
  refine Flow.readRange rfl rfl rfl rfl (fun W hb hS hd => Ext.range hb a0) Try.underlying82 rfl (by kernel_rfl) ?_
  simp only [Act.put, List.setIfInBounds_toArray, List.set_cons_zero, List.set_cons_succ]
  -- op 7 load
  refine Flow.readRange rfl rfl rfl rfl (fun W hb hS hd => Ext.range hb b0) Try.underlying82 rfl (by kernel_rfl) ?_
  simp only [Act.put, List.setIfInBounds_toArray, List.set_cons_zero, List.set_cons_succ]
  -- op 8 call
  refine Flow.call rfl rfl 41 ?_ ?_ ?_ ?_ ?_; rotate_left
  · intro W; go_simp; first | done | rfl
  rotate_left
  · intro W hb hS hd; obtain ⟨r1, r2⟩ := Ext.rules hb; refine (compare_any _ _ _ _ _ _ _ _ _ _ _ _ _ _ _ _ _ _ _ _ _).mono ?_; rintro e W' ⟨rfl, hb'⟩; refine ⟨?_, hb'⟩; rfl
  simp only [Act.put, List.setIfInBounds_toArray, List.set_cons_zero, List.set_cons_succ]
  -- op 9 binOp
  refine Flow.free rfl rfl ?_ ?_ ?_; rotate_left
  · intro W hS; go_simp; (try go_ints); (try simp only [↓IntWalk.iteOmega]); first | done | rfl | (refine ⟨?_, ?_⟩ <;> first | rfl | trivial)
  simp only [Act.put, List.setIfInBounds_toArray, List.set_cons_zero, List.set_cons_succ]
  -- op 10 assign
  refine Flow.free rfl rfl ?_ ?_ ?_; rotate_left
  · intro W hS; go_simp; (try go_ints); (try simp only [↓IntWalk.iteOmega]); first | done | rfl | (refine ⟨?_, ?_⟩ <;> first | rfl | trivial)
  simp only [Act.put, List.setIfInBounds_toArray, List.set_cons_zero, List.set_cons_succ]
  refine Flow.nil (fun w3 hb hS hd ht => ?_)
  clear hd ht
  go_wp2
  go_ret
  exact ⟨by simp, hb⟩

/-- sort.Search over a function that only adds to the world. -/
def SearchPost (n : Nat) (p : Nat → Bool) (w : World) (e : Ending) (w' : World) : Prop :=
  ∃ k : Nat, e = .returned (.int .i64 k) ∧ k ≤ n ∧ (k < n → p k = true) ∧ (0 < k → p (k - 1) = false) ∧ Ext w w'
set_option maxHeartbeats 1000000 in
theorem search_any (g : Nat) (cb : Array Value) (n : Nat) (p : Nat → Bool) (w : World) (eg : ∀ args w, (callFunc g args).run Try.prog w = .ok (.enter g args) w) (hsz : n < 4611686018427387904)
    (hf : ∀ (i : Nat) (W : World), i < n → Ext w W → Calls Try.prog g (#[.int .i64 i] ++ cb) W fun e w' => e = .returned (.bool (p i)) ∧ Ext W w') :
    Calls Try.prog 35 #[.int .i64 n, .func (.func g) #[] cb] w (SearchPost n p w) := by
  have HF := Lib.hid hf
  clear hf
  go_enter Try.func35, Try.ntmps35
  go_wp2
  go_loopg [5, 6] n (fun kx s5 s6 wr => ∃ (lo hi : Nat), s5 = .int .i64 lo ∧ s6 = .int .i64 hi ∧ lo ≤ hi ∧ hi ≤ n ∧ hi - lo ≤ kx ∧ Ext w wr ∧ Hid ((hi < n → p hi = true) ∧ (0 < lo → p (lo - 1) = false)))
  case atStart => exact ⟨0, n, rfl, rfl, Nat.zero_le _, Nat.le_refl _, by omega, Ext.rfl_ _, (⟨fun h => absurd h (by omega), fun h => absurd h (by omega)⟩ : (n < n → p n = true) ∧ (0 < 0 → p (0 - 1) = false))⟩
  case round =>
    obtain ⟨lo, hi, rfl, rfl, hlh, hin, hg, hx, I⟩ := hrel
    have HX := Lib.hid hx
    clear hx
    by_cases hlt : lo < hi
    · have hc := HF.out ((lo + hi) / 2) wr (by omega) HX.out
      rw [show (((lo + hi) / 2 : Nat) : Int) = ((lo : Int) + (hi : Int)) / 2 by omega] at hc
      cases hp : p ((lo + hi) / 2) <;> rw [hp] at hc
      · have HP := Lib.hid hp
        have HC := Lib.hid hc
        clear hp hc
        go_wp2_with fail
        refine HC.out.mono ?_
        rintro e w' ⟨rfl, hx'⟩
        have HX' := Lib.hid hx'
        clear hx'
        go_wp2_with fail
        go_roundg (hi - ((lo + hi) / 2 + 1))
        case measure => omega
        case rel =>
          have I2 : Hid ((hi < n → p hi = true) ∧ (0 < (lo + hi) / 2 + 1 → p ((lo + hi) / 2 + 1 - 1) = false)) := ⟨I.out.1, fun _ => by rw [Nat.add_sub_cancel]; exact HP.out⟩
          exact ⟨(lo + hi) / 2 + 1, hi, by rw [show ((lo : Int) + (hi : Int)) / 2 + 1 = (((lo + hi) / 2 + 1 : Nat) : Int) by omega], rfl, by omega, hin, Nat.le_refl _, HX.out.tr HX'.out, I2⟩
      · have HP := Lib.hid hp
        have HC := Lib.hid hc
        clear hp hc
        go_wp2_with fail
        refine HC.out.mono ?_
        rintro e w' ⟨rfl, hx'⟩
        have HX' := Lib.hid hx'
        clear hx'
        go_wp2_with fail
        go_roundg ((lo + hi) / 2 - lo)
        case measure => omega
        case rel =>
          have I2 : Hid (((lo + hi) / 2 < n → p ((lo + hi) / 2) = true) ∧ (0 < lo → p (lo - 1) = false)) := ⟨fun _ => HP.out, I.out.2⟩
          exact ⟨lo, (lo + hi) / 2, rfl, by rw [show ((lo : Int) + (hi : Int)) / 2 = (((lo + hi) / 2 : Nat) : Int) by omega], by omega, by omega, Nat.le_refl _, HX.out.tr HX'.out, I2⟩
    · obtain rfl : hi = lo := by omega
      go_wp2
      go_ret
      exact ⟨hi, rfl, hin, I.out.1, I.out.2, HX.out⟩
end Go.Proofs.Ytnamppkicefbjaa
