/- Contract of slices.Delete at the agenda's entries. Own text. -/
import Derived.Test.YtnamppkicefbjaaW5
namespace Go.Proofs.Ytnamppkicefbjaa
open Go.RowKit Go.Flow Go.Mem

theorem zero82_one : ∀ u ∈ (Value.agg #[.int .i64 0, .int .u8 0, .int .i64 0, .int .i64 0, .int .i64 0, .int .i64 0, .int .i64 0, .slice none 0 0]).cells, u.oneCell' = true := by
  intro u hu
  simp only [Value.cells, List.mem_toArray, List.mem_cons, List.not_mem_nil, or_false] at hu
  rcases hu with rfl | rfl | rfl | rfl | rfl | rfl | rfl | rfl <;> rfl

def DelPost (B n i j g cap : Nat) (xs : List Value) (w : World) (e : Ending) (w' : World) : Prop :=
  e = .returned (.slice (some ⟨g, 0, none⟩) (n - (j - i)) cap) ∧ w'.ownsRow B 82 8 (.slice (some ⟨g, 0, none⟩) (n - (j - i)) cap) (n - (j - i)) (xs.take (i * 8) ++ xs.drop (j * 8)) ∧ Keeps (fun b => b = g) w w'

set_option maxHeartbeats 1000000 in
set_option maxRecDepth 100000 in
theorem delete_any (B n i j cap g : Nat) (xs : List Value) (w : World) (hown : w.ownsRow B 82 8 (.slice (some ⟨g, 0, none⟩) n cap) n xs) (hij : i < j) (hjn : j ≤ n) (_ : B ≤ w.heap.size) (hn : n ≤ 1000000000) (h2 : ∀ u ∈ xs, u.oneCell' = true) :
    Calls Try.prog 37 #[.slice (some ⟨g, 0, none⟩) n cap, .int .i64 i, .int .i64 j] w (DelPost B n i j g cap xs w) := by
  obtain ⟨i0, hi, hz0, hz1, hz2⟩ := info_parts info82
  obtain ⟨A, cap', hv, _, hnc, hcm⟩ := own_form hown
  simp only [Value.slice.injEq] at hv
  obtain ⟨rfl, _, rfl⟩ := hv
  have hxl := hown.1
  have hsh := own_shorter hown i (by omega)
  have hsrc : w.rangeAt g 0 xs := own_range hown
  have HO := Lib.hid hown
  have HSH := Lib.hid hsh
  have HSRC := Lib.hid hsrc
  have HX := Lib.hid hxl
  clear hown hxl hsh hsrc
  go_enter Try.func37, Try.ntmps37
  go_wp2_with (fail)
  refine wp_region_flow (fun _ => True) [⟨0, [], 0⟩, ⟨1, [], 0⟩, ⟨2, [], 0⟩, ⟨3, [], 0⟩, ⟨4, [], 0⟩, ⟨5, [], 0⟩, ⟨6, [], 5⟩, ⟨7, [], 0⟩] (by kernel_rfl) (by kernel_rfl) (fun _ _ _ _ => trivial) trivial ?_
  simp only [pick, List.map_cons, List.map_nil, List.getD_cons_zero, List.getD_cons_succ]
  -- op 0 move
  refine Flow.free rfl rfl ?_ ?_ ?_; rotate_left
  · intro W hS; go_simp; (try go_ints); (try simp only [↓IntWalk.iteOmega]); first | done | rfl | (refine ⟨?_, ?_⟩ <;> first | rfl | trivial)
  simp only [Act.put, List.setIfInBounds_toArray, List.set_cons_zero, List.set_cons_succ]
  -- op 1 move
  refine Flow.free rfl rfl ?_ ?_ ?_; rotate_left
  · intro W hS; go_simp; (try go_ints); (try simp only [↓IntWalk.iteOmega]); first | done | rfl | (refine ⟨?_, ?_⟩ <;> first | rfl | trivial)
  simp only [Act.put, List.setIfInBounds_toArray, List.set_cons_zero, List.set_cons_succ]
  -- op 2 slice
  refine Flow.free rfl rfl ?_ ?_ ?_; rotate_left
  · intro W hS; go_simp; (try go_ints); (try simp only [↓IntWalk.iteOmega]); first | done | rfl | (refine ⟨?_, ?_⟩ <;> first | rfl | trivial)
  simp only [Act.put, List.setIfInBounds_toArray, List.set_cons_zero, List.set_cons_succ]
  -- op 3 move
  refine Flow.free rfl rfl ?_ ?_ ?_; rotate_left
  · intro W hS; go_simp; (try go_ints); (try simp only [↓IntWalk.iteOmega]); first | done | rfl | (refine ⟨?_, ?_⟩ <;> first | rfl | trivial)
  simp only [Act.put, List.setIfInBounds_toArray, List.set_cons_zero, List.set_cons_succ]
  -- op 4 move
  refine Flow.free rfl rfl ?_ ?_ ?_; rotate_left
  · intro W hS; go_simp; (try go_ints); (try simp only [↓IntWalk.iteOmega]); first | done | rfl | (refine ⟨?_, ?_⟩ <;> first | rfl | trivial)
  simp only [Act.put, List.setIfInBounds_toArray, List.set_cons_zero, List.set_cons_succ]
  -- op 5 slice
  refine Flow.free rfl rfl ?_ ?_ ?_; rotate_left
  · intro W hS; go_simp; (try go_ints); (try simp only [↓IntWalk.iteOmega]); first | done | rfl | (refine ⟨?_, ?_⟩ <;> first | rfl | trivial)
  simp only [Act.put, List.setIfInBounds_toArray, List.set_cons_zero, List.set_cons_succ]
  -- op 6 call
  refine Flow.turn rfl rfl (fun w6 hb hS hd ht K hK => ?_)
  have hbt6 := hb; obtain ⟨r1, r2⟩ := Ext.rules hb; skip
  refine valTo_append_room w6 rfl B 82 i0 8 Try.underlying83 hi hz1 g i cap _ rfl (own_ext HSH.out hb) _ _ _ (xs.drop (j * 8)) rfl ?d0 ?d1 ?d2 (by decide) ?d3 ?_
  case d0 => rw [List.length_drop, HX.out]; omega
  case d1 =>
    by_cases hcj : cap = j
    · exact .inl (List.drop_of_length_le (by rw [HX.out]; omega))
    · rw [if_neg hcj]; exact .inr ⟨g, j * 8, rfl, hb.range (range_drop HSRC.out)⟩
  case d2 => exact fun u hu => h2 u (List.mem_of_mem_drop hu)
  case d3 => omega
  intro w7 hown7 hk7
  have HO7 := Lib.hid hown7
  have HK7 := Lib.hid hk7
  clear hown7 hk7
  refine hK _ _ trivial ?_
  clear hK K
  simp only [Act.put, List.setIfInBounds_toArray, List.set_cons_zero, List.set_cons_succ]
  -- op 7 assign
  refine Flow.free rfl rfl ?_ ?_ ?_; rotate_left
  · intro W hS; go_simp; (try go_ints); (try simp only [↓IntWalk.iteOmega]); first | done | rfl | (refine ⟨?_, ?_⟩ <;> first | rfl | trivial)
  simp only [Act.put, List.setIfInBounds_toArray, List.set_cons_zero]
  refine Flow.nil (fun w8 hb hS hd ht => ?_)
  clear hd ht
  generalize (if cap = j then (some ⟨g, 0, none⟩ : Option Addr) else some ⟨g, j * 8, none⟩) = A5
  have HB6 := Lib.hid hbt6
  have HB := Lib.hid hb
  have hsum : i + (n - j) = n - (j - i) := by omega
  have ho8 := own_ext HO7.out hb
  clear hb hbt6
  obtain ⟨zs, hzl, hlong⟩ := own_longer ho8 n (by omega) hnc
  rw [List.append_assoc] at hlong
  have HL := Lib.hid hlong
  have HZL := Lib.hid hzl
  have HS := Lib.hid hsum
  clear hlong hzl ho8 hsum
  go_wp2_with (refine wpList_clear _ rfl rfl B 82 i0 _ 8 Try.underlying83 hi hz0 rfl zero82_one g n cap _ HL.out _ _ _ rfl ?c0 ?_)
  case c0 => omega
  intro w9 zs' hzl' hown9 hk9
  have HO9 := Lib.hid hown9
  have HK9 := Lib.hid hk9
  have HZL' := Lib.hid hzl'
  clear hown9 hk9 hzl'
  go_wp2
  go_ret
  refine ⟨by rw [← HS.out]; rfl, ?_, ?_⟩
  · have h3 := own_shorter HO9.out (n - (j - i)) (by omega)
    have hl1 : (xs.take (i * 8) ++ xs.drop (j * 8)).length = (i + (n - j)) * 8 := by rw [List.length_append, List.length_take, List.length_drop, HX.out]; omega
    have e : (over (xs.take (i * 8) ++ (xs.drop (j * 8) ++ zs)) ((i + (n - j)) * 8) zs').take ((n - (j - i)) * 8) = xs.take (i * 8) ++ xs.drop (j * 8) := by
      unfold over
      rw [← List.append_assoc (xs.take (i * 8)), ← HS.out, List.append_assoc _ zs' _, List.take_append_of_le_length (by rw [List.length_take, List.length_append, hl1]; omega), List.take_of_length_le (by rw [List.length_take]; omega), ← hl1, List.take_left]
    rw [e] at h3
    exact h3
  · exact ((((Keeps.of_ext HB6.out).seq HK7.out).then_ext HB.out).seq HK9.out)
end Go.Proofs.Ytnamppkicefbjaa
