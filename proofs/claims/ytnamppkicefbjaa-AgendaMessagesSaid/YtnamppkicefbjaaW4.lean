/- Contract of slices.Insert at the agenda's entries. Own text. -/
import Derived.Test.YtnamppkicefbjaaW3
import Derived.Lib.Overlaps
namespace Go.Proofs.Ytnamppkicefbjaa
open Go.RowKit Go.Flow Go.Mem

theorem info82 : (Try.prog.info? 82).map (fun i => (i.zero, i.size, i.bytes)) = some (some (.agg #[.int .i64 0, .int .u8 0, .int .i64 0, .int .i64 0, .int .i64 0, .int .i64 0, .int .i64 0, .slice none 0 0]), 8, 80) := by kernel_rfl

theorem over_ins (xs zs ys : List Value) (i n : Nat) (hl : xs.length = n * 8) (hi : i < n) (hy : ys.length = 8) (hz : zs.length = (n + 1 - i) * 8) :
    over (over (xs.take (i * 8) ++ zs) (i * 8) ys) ((i + 1) * 8) (xs.drop (i * 8)) = xs.take (i * 8) ++ ys ++ xs.drop (i * 8) := by
  have h1 : (xs.take (i * 8)).length = i * 8 := by rw [List.length_take]; omega
  have e1 : (xs.take (i * 8) ++ zs).take (i * 8) = xs.take (i * 8) := by
    rw [List.take_append_of_le_length (by rw [h1]; exact Nat.le_refl _), List.take_of_length_le (by rw [h1]; exact Nat.le_refl _)]
  have h2 : (xs.take (i * 8) ++ ys).length = (i + 1) * 8 := by rw [List.length_append, h1, hy]; omega
  have e2 : ∀ r, (xs.take (i * 8) ++ ys ++ r).take ((i + 1) * 8) = xs.take (i * 8) ++ ys := fun r => by
    rw [List.take_append_of_le_length (by rw [h2]; exact Nat.le_refl _), List.take_of_length_le (by rw [h2]; exact Nat.le_refl _)]
  have e3 : List.drop ((i + 1) * 8 + (xs.drop (i * 8)).length) (xs.take (i * 8) ++ ys ++ (xs.take (i * 8) ++ zs).drop (i * 8 + ys.length)) = [] := by
    refine List.drop_of_length_le ?_
    simp only [List.length_append, List.length_drop, List.length_take]
    omega
  unfold over
  rw [e1, e2, e3, List.append_nil]

/-- What slices.Insert leaves: a row with ys at place i. -/
def InsPost (B n i : Nat) (v : Value) (xs ys : List Value) (w : World) (e : Ending) (w' : World) : Prop :=
  ∃ v', e = .returned v' ∧ w'.ownsRow B 82 8 v' (n + 1) (xs.take (i * 8) ++ ys ++ xs.drop (i * 8)) ∧ Keeps (fun g => v.ownBlock = some g) w w' ∧ (v'.ownBlock = v.ownBlock ∨ ∃ g, v'.ownBlock = some g ∧ w.heap.size ≤ g)

set_option maxHeartbeats 1000000 in
set_option maxRecDepth 100000 in
theorem insert_end (B n : Nat) (v : Value) (xs ys : List Value) (gv : Nat) (w : World) (hown : w.ownsRow B 82 8 v n xs) (hB : B ≤ w.heap.size) (hn : n ≤ 1000000000) (hy : ys.length = 8) (hgv : w.heap[gv]? = some (.cells ys.toArray 82 (0, 0))) (h1 : ∀ u ∈ ys, u.oneCell' = true) :
    Calls Try.prog 42 #[v, .int .i64 n, .slice (some ⟨gv, 0, none⟩) 1 1] w (InsPost B n n v xs ys w) := by
  obtain ⟨i0, hi, hz0, hz1, hz2⟩ := info_parts info82
  have hys : w.rangeAt gv 0 ys := range_of_whole hgv
  obtain ⟨A, cap, hv, _, hnc, hcm⟩ := own_form hown
  have hxl := hown.1
  subst hv
  have HO := Lib.hid hown
  have HY := Lib.hid hys
  have HYL := Lib.hid hy
  have HX := Lib.hid hxl
  clear hown hys hy hxl hgv
  have fin : ∀ (v1 : Value) (w1 : World), w1.ownsRow B 82 8 v1 (n + 1) (xs ++ ys) → Keeps (fun g => (Value.slice A n cap).ownBlock = some g) w w1 → (v1.ownBlock = (Value.slice A n cap).ownBlock ∨ v1.ownBlock = some w.heap.size) → InsPost B n n (.slice A n cap) xs ys w (.returned v1) w1 := by
    intro v1 w1 ho hk hat
    refine ⟨v1, rfl, ?_, hk, hat.imp id fun h => ⟨_, h, Nat.le_refl _⟩⟩
    have e1 : xs.take (n * 8) = xs := List.take_of_length_le (by rw [HX.out]; exact Nat.le_refl _)
    have e2 : xs.drop (n * 8) = [] := List.drop_of_length_le (by rw [HX.out]; exact Nat.le_refl _)
    rw [e1, e2, List.append_nil]
    exact ho
  have FIN := Lib.hid fin
  clear fin
  rcases Nat.eq_or_lt_of_le hnc with hcn | hcn
  · subst hcn
    go_enter Try.func42, Try.ntmps42
    go_wp2_with (at_builtin; refine wpList_append_from _ rfl rfl B 82 i0 _ 8 80 Try.underlying83 hi hz0 hz1 hz2 rfl (by decide) (.slice A n n) n xs rfl HO.out (some ⟨gv, 0, none⟩) 1 1 ys rfl HYL.out (.inr ⟨gv, 0, rfl, HY.out⟩) h1 (by simp only [maxLen]; omega) (by omega) hB ?_)
    intro v1 w1 hown1 hk hat
    have F := Lib.hid (FIN.out v1 w1 hown1 hk hat)
    clear hown1 hk hat
    go_wp2
    go_ret
    exact F.out
  · have hne : ¬ cap = n := by omega
    go_enter Try.func42, Try.ntmps42
    go_wp2_with (at_builtin; refine wpList_append_from _ rfl rfl B 82 i0 _ 8 80 Try.underlying83 hi hz0 hz1 hz2 rfl (by decide) (.slice A n cap) n xs rfl HO.out (some ⟨gv, 0, none⟩) 1 1 ys rfl HYL.out (.inr ⟨gv, 0, rfl, HY.out⟩) h1 (by simp only [maxLen]; omega) (by omega) hB ?_)
    intro v1 w1 hown1 hk hat
    have F := Lib.hid (FIN.out v1 w1 hown1 hk hat)
    clear hown1 hk hat
    go_wp2
    go_ret
    exact F.out

set_option maxHeartbeats 1000000 in
set_option maxRecDepth 100000 in
theorem insert_grow (B n i cap g : Nat) (xs ys : List Value) (gv : Nat) (w : World) (hown : w.ownsRow B 82 8 (.slice (some ⟨g, 0, none⟩) n cap) n xs) (hi' : i < n) (hgr : cap < n + 1) (hB : B ≤ w.heap.size) (hn : n ≤ 1000000000) (hy : ys.length = 8) (hgv : w.heap[gv]? = some (.cells ys.toArray 82 (0, 0))) (h1 : ∀ u ∈ ys, u.oneCell' = true) (h2 : ∀ u ∈ xs, u.oneCell' = true) :
    Calls Try.prog 42 #[.slice (some ⟨g, 0, none⟩) n cap, .int .i64 i, .slice (some ⟨gv, 0, none⟩) 1 1] w (InsPost B n i (.slice (some ⟨g, 0, none⟩) n cap) xs ys w) := by
  obtain ⟨i0, hi, hz0, hz1, hz2⟩ := info_parts info82
  have hys : w.rangeAt gv 0 ys := range_of_whole hgv
  obtain ⟨A, cap', hv, _, hnc, hcm⟩ := own_form hown
  simp only [Value.slice.injEq] at hv
  obtain ⟨rfl, _, rfl⟩ := hv
  have hxl := hown.1
  have hsh := own_shorter hown i (by omega)
  have hsrc : w.rangeAt g 0 xs := own_range hown
  have hne : ¬ g = w.heap.size := fun e => by have := own_lt hown; omega
  have HSRC := Lib.hid hsrc
  have HNE := Lib.hid hne
  clear hsrc hne
  have HO := Lib.hid hown
  have HSH := Lib.hid hsh
  have HY := Lib.hid hys
  have HYL := Lib.hid hy
  have HX := Lib.hid hxl
  clear hown hys hy hxl hsh hgv
  go_enter Try.func42, Try.ntmps42
  go_wp2_with (first | (at_builtin; refine wpList_append_zeros _ rfl rfl B 82 i0 _ 8 80 Try.underlying83 Try.underlying3 hi hz0 hz1 hz2 rfl (by decide) g i cap _ rfl HSH.out (n + 1 - i) _ rfl ?c0 ?c1 ?c2 ?c3 hB ?_))
  case c0 => omega
  case c1 => omega
  case c2 => simp only [maxLen]; omega
  case c3 => omega
  intro cap2 w2 zs hzl hown2 hx2
  rw [show i + (n + 1 - i) = n + 1 by omega] at hown2 ⊢
  have hc2 : n + 1 ≤ cap2 := by obtain ⟨_, _, hv, _, h3, h4⟩ := own_form hown2; simp only [Value.slice.injEq] at hv; omega
  have HO2 := Lib.hid hown2
  have HX2 := Lib.hid hx2
  have HZL := Lib.hid hzl
  clear hown2 hx2 hzl
  go_wp2_with (refine wpList_copy _ rfl rfl B 82 i0 8 Try.underlying83 hi hz1 w.heap.size (n + 1) cap2 _ HO2.out (i * 8) (n + 1 - i) (cap2 - i) (some ⟨gv, 0, none⟩) 1 1 ys rfl rfl ?c0 ?c1 h1 ?c2 ?c3 ?_)
  case c0 => rw [HYL.out]; simp only [Nat.min_def]; split <;> omega
  case c1 => exact .inr ⟨gv, 0, rfl, HX2.out.range HY.out⟩
  case c2 => rw [HYL.out]; omega
  case c3 => intro h; cases h
  intro w3 hown3 hk3
  have HO3 := Lib.hid hown3
  have HK3 := Lib.hid hk3
  clear hown3 hk3
  go_wp2_with (fail)
  refine wp_region_flow (fun _ => True) [⟨0, [], 0⟩, ⟨1, [], 0⟩, ⟨2, [], 0⟩, ⟨3, [], 0⟩, ⟨4, [], 0⟩, ⟨5, [], 0⟩, ⟨6, [], 0⟩, ⟨7, [], 0⟩, ⟨8, [], 5⟩] (by kernel_rfl) (by kernel_rfl) (fun _ _ _ _ => trivial) trivial ?_
  simp only [pick, List.map_cons, List.map_nil, List.getD_cons_zero, List.getD_cons_succ]
  -- op 0 move
  refine Flow.free rfl rfl ?_ ?_ ?_; rotate_left
  · intro W hS; go_simp; (try go_ints); (try simp only [↓IntWalk.iteOmega]); first | done | rfl | (refine ⟨?_, ?_⟩ <;> first | rfl | trivial)
  simp only [Act.put, List.setIfInBounds_toArray, List.set_cons_zero, List.set_cons_succ]
  -- op 1 move
  refine Flow.free rfl rfl ?_ ?_ ?_; rotate_left
  · intro W hS; go_simp; (try go_ints); (try simp only [↓IntWalk.iteOmega]); first | done | rfl | (refine ⟨?_, ?_⟩ <;> first | rfl | trivial)
  simp only [Act.put, List.setIfInBounds_toArray, List.set_cons_zero, List.set_cons_succ]
  -- op 2 move
  refine Flow.free rfl rfl ?_ ?_ ?_; rotate_left
  · intro W hS; go_simp; (try go_ints); (try simp only [↓IntWalk.iteOmega]); first | done | rfl | (refine ⟨?_, ?_⟩ <;> first | rfl | trivial)
  simp only [Act.put, List.setIfInBounds_toArray, List.set_cons_zero, List.set_cons_succ]
  -- op 3 binOp
  refine Flow.free rfl rfl ?_ ?_ ?_; rotate_left
  · intro W hS; go_simp; (try go_ints); (try simp only [↓IntWalk.iteOmega]); first | done | rfl | (refine ⟨?_, ?_⟩ <;> first | rfl | trivial)
  simp only [Act.put, List.setIfInBounds_toArray, List.set_cons_zero, List.set_cons_succ]
  -- op 4 slice
  refine Flow.free rfl rfl ?_ ?_ ?_; rotate_left
  · intro W hS; go_simp; (try go_ints); (try simp only [↓IntWalk.iteOmega]); first | done | rfl | (refine ⟨?_, ?_⟩ <;> first | rfl | trivial)
  simp only [Act.put, List.setIfInBounds_toArray, List.set_cons_zero, List.set_cons_succ]
  -- op 5 move
  refine Flow.free rfl rfl ?_ ?_ ?_; rotate_left
  · intro W hS; go_simp; (try go_ints); (try simp only [↓IntWalk.iteOmega]); first | done | rfl | (refine ⟨?_, ?_⟩ <;> first | rfl | trivial)
  simp only [Act.put, List.setIfInBounds_toArray, List.set_cons_zero, List.set_cons_succ]
  -- op 6 move
  refine Flow.free rfl rfl ?_ ?_ ?_; rotate_left
  · intro W hS; go_simp; (try go_ints); (try simp only [↓IntWalk.iteOmega]); first | done | rfl | (refine ⟨?_, ?_⟩ <;> first | rfl | trivial)
  simp only [Act.put, List.setIfInBounds_toArray, List.set_cons_zero, List.set_cons_succ]
  -- op 7 slice
  refine Flow.free rfl rfl ?_ ?_ ?_; rotate_left
  · intro W hS; go_simp; (try go_ints); (try simp only [↓IntWalk.iteOmega]); first | done | rfl | (refine ⟨?_, ?_⟩ <;> first | rfl | trivial)
  simp only [Act.put, List.setIfInBounds_toArray, List.set_cons_zero, List.set_cons_succ]
  -- op 8 call
  refine Flow.turn rfl rfl (fun w8 hb hS hd ht K hK => ?_)
  have hbt8 := hb; obtain ⟨r1, r2⟩ := Ext.rules hb; skip
  refine valTo_copy w8 rfl B 82 i0 8 Try.underlying83 hi hz1 w.heap.size (n + 1) cap2 _ (own_ext HO3.out hb) _ _ _ _ _ _ (xs.drop (i * 8)) rfl rfl ?d0 ?d1 ?d2 ?d3 ?d4 ?_
  case d0 => rw [List.length_drop, HX.out]; simp only [Nat.min_def]; split <;> omega
  case d1 => exact .inr ⟨g, i * 8, rfl, hb.range (HK3.out.range (HX2.out.range (range_drop HSRC.out)) HNE.out)⟩
  case d2 => exact fun u hu => h2 u (List.mem_of_mem_drop hu)
  case d3 => rw [List.length_drop, HX.out]; omega
  case d4 => intro h; cases h
  intro w9 hown9 hk9
  have HO9 := Lib.hid hown9
  have HK9 := Lib.hid hk9
  clear hown9 hk9
  refine hK _ _ trivial ?_
  clear hK K
  simp only [Act.put, List.setIfInBounds_toArray, List.set_cons_zero, List.set_cons_succ]
  refine Flow.nil (fun w10 hb hS hd ht => ?_)
  clear hd ht
  go_wp2
  go_ret
  refine ⟨_, rfl, ?_, ?_, .inr ⟨_, rfl, Nat.le_refl _⟩⟩
  · refine own_ext ?_ hb
    have e : over (over (xs.take (i * 8) ++ zs) (i * 8) ys) ((i + 1) * 8) (xs.drop (i * 8)) = xs.take (i * 8) ++ ys ++ xs.drop (i * 8) := by
      have hl := HX.out; have hyl := HYL.out; have hzl := HZL.out
      exact over_ins xs zs ys i n hl (by omega) hyl hzl
    rw [← e]
    exact HO9.out
  · have k : Keeps (fun i => i = w.heap.size) w w10 := ((((Keeps.of_ext HX2.out).seq HK3.out).then_ext hbt8).seq HK9.out).then_ext hb
    exact Keeps.of_ext (k.ext fun i hi e => by omega)

theorem over_ins2 (xs zs ys : List Value) (i n : Nat) (hl : xs.length = n * 8) (hi : i < n) (hy : ys.length = 8) (hz : zs.length = 8) :
    over (over (xs ++ zs) ((i + 1) * 8) (xs.drop (i * 8))) (i * 8) ys = xs.take (i * 8) ++ ys ++ xs.drop (i * 8) := by
  have h0 : (i + 1) * 8 ≤ xs.length := by omega
  have e1 : (xs ++ zs).take ((i + 1) * 8) = xs.take ((i + 1) * 8) := List.take_append_of_le_length h0
  have e2 : List.drop ((i + 1) * 8 + (xs.drop (i * 8)).length) (xs ++ zs) = [] := by
    refine List.drop_of_length_le ?_
    simp only [List.length_append, List.length_drop]
    omega
  have h3 : (xs.take ((i + 1) * 8)).length = (i + 1) * 8 := by rw [List.length_take]; omega
  have e3 : (xs.take ((i + 1) * 8) ++ xs.drop (i * 8)).take (i * 8) = xs.take (i * 8) := by
    rw [List.take_append_of_le_length (by omega), List.take_take, Nat.min_eq_left (by omega)]
  have e4 : (xs.take ((i + 1) * 8) ++ xs.drop (i * 8)).drop (i * 8 + ys.length) = xs.drop (i * 8) := by
    have : i * 8 + ys.length = (xs.take ((i + 1) * 8)).length := by omega
    rw [this, List.drop_left]
  unfold over
  rw [e1, e2, List.append_nil, e3, e4]

set_option maxHeartbeats 1000000 in
set_option maxRecDepth 100000 in
theorem insert_room (B n i cap g : Nat) (xs ys : List Value) (gv : Nat) (w : World) (hown : w.ownsRow B 82 8 (.slice (some ⟨g, 0, none⟩) n cap) n xs) (hi' : i < n) (hgr : n + 1 ≤ cap) (hn : n ≤ 1000000000) (hy : ys.length = 8) (hgv : w.heap[gv]? = some (.cells ys.toArray 82 (0, 0))) (hgg : gv ≠ g) (h1 : ∀ u ∈ ys, u.oneCell' = true) (h2 : ∀ u ∈ xs, u.oneCell' = true) :
    Calls Try.prog 42 #[.slice (some ⟨g, 0, none⟩) n cap, .int .i64 i, .slice (some ⟨gv, 0, none⟩) 1 1] w (InsPost B n i (.slice (some ⟨g, 0, none⟩) n cap) xs ys w) := by
  obtain ⟨i0, hi, hz0, hz1, hz2⟩ := info_parts info82
  have hys : w.rangeAt gv 0 ys := range_of_whole hgv
  obtain ⟨A, cap', hv, _, hnc, hcm⟩ := own_form hown
  simp only [Value.slice.injEq] at hv
  obtain ⟨rfl, _, rfl⟩ := hv
  have hxl := hown.1
  obtain ⟨zs, hzl, hlong⟩ := own_longer hown (n + 1) (by omega) hgr
  have hsrc : w.rangeAt g 0 xs := own_range hown
  obtain ⟨cur, hcur, hcs⟩ := own_block hown
  have hsz : ∀ w, (Go.sizeOf 82).run Try.prog w = .ok 8 w := fun w => by simp [Go.sizeOf, typeInfo, hi, hz1]
  have hov : ∀ o lb cb, (callFunc 58 #[.slice (some ⟨gv, 0, none⟩) 1 1, .slice (some ⟨g, o, none⟩) lb cb]).run Try.prog w = .ok (.value (.bool false)) w := fun o lb cb => by
    rw [run_callFunc_extern Try.func58 (by kernel_rfl) (by kernel_rfl) (by kernel_rfl) (e := Extern.SlicesOverlaps.overlaps #[83, 83] #[4]) (by kernel_rfl),
      Lib.run_overlaps_apart w 83 4 82 Try.underlying83 8 hsz ⟨gv, 0, none⟩ ⟨g, o, none⟩ 1 1 lb cb hgg 82 82 ys.toArray.size cur.size (by simp [World.shape?, hgv]) (by simp [World.shape?, hcur]) (by rw [hcs]; omega) (by simp [World.frozen?, hgv]) (by simp [World.frozen?, hgv])]
    rfl
  have HO := Lib.hid hlong
  have HSRC := Lib.hid hsrc
  have HY := Lib.hid hys
  have HYL := Lib.hid hy
  have HX := Lib.hid hxl
  have HZL := Lib.hid hzl
  have HGG := Lib.hid hgg
  clear hown hys hy hxl hlong hsrc hzl hcur hcs hgv hsz hgg
  go_enter Try.func42, Try.ntmps42
  go_wp2_with (fail)
  clear hov
  refine wp_region_flow (fun _ => True) [⟨0, [], 0⟩, ⟨1, [], 0⟩, ⟨2, [], 0⟩, ⟨3, [], 0⟩, ⟨4, [], 0⟩, ⟨5, [], 0⟩, ⟨6, [], 0⟩, ⟨7, [], 0⟩, ⟨8, [], 5⟩] (by kernel_rfl) (by kernel_rfl) (fun _ _ _ _ => trivial) trivial ?_
  simp only [pick, List.map_cons, List.map_nil, List.getD_cons_zero, List.getD_cons_succ]
  -- op 0 move
  refine Flow.free rfl rfl ?_ ?_ ?_; rotate_left
  · intro W hS; go_simp; (try go_ints); (try simp only [↓IntWalk.iteOmega]); first | done | rfl | (refine ⟨?_, ?_⟩ <;> first | rfl | trivial)
  simp only [Act.put, List.setIfInBounds_toArray, List.set_cons_zero, List.set_cons_succ]
  -- op 1 move
  refine Flow.free rfl rfl ?_ ?_ ?_; rotate_left
  · intro W hS; go_simp; (try go_ints); (try simp only [↓IntWalk.iteOmega]); first | done | rfl | (refine ⟨?_, ?_⟩ <;> first | rfl | trivial)
  simp only [Act.put, List.setIfInBounds_toArray, List.set_cons_zero, List.set_cons_succ]
  -- op 2 move
  refine Flow.free rfl rfl ?_ ?_ ?_; rotate_left
  · intro W hS; go_simp; (try go_ints); (try simp only [↓IntWalk.iteOmega]); first | done | rfl | (refine ⟨?_, ?_⟩ <;> first | rfl | trivial)
  simp only [Act.put, List.setIfInBounds_toArray, List.set_cons_zero, List.set_cons_succ]
  -- op 3 binOp
  refine Flow.free rfl rfl ?_ ?_ ?_; rotate_left
  · intro W hS; go_simp; (try go_ints); (try simp only [↓IntWalk.iteOmega]); first | done | rfl | (refine ⟨?_, ?_⟩ <;> first | rfl | trivial)
  simp only [Act.put, List.setIfInBounds_toArray, List.set_cons_zero, List.set_cons_succ]
  -- op 4 slice
  refine Flow.free rfl rfl ?_ ?_ ?_; rotate_left
  · intro W hS; go_simp; (try go_ints); (try simp only [↓IntWalk.iteOmega]); first | done | rfl | (refine ⟨?_, ?_⟩ <;> first | rfl | trivial)
  simp only [Act.put, List.setIfInBounds_toArray, List.set_cons_zero, List.set_cons_succ]
  -- op 5 move
  refine Flow.free rfl rfl ?_ ?_ ?_; rotate_left
  · intro W hS; go_simp; (try go_ints); (try simp only [↓IntWalk.iteOmega]); first | done | rfl | (refine ⟨?_, ?_⟩ <;> first | rfl | trivial)
  simp only [Act.put, List.setIfInBounds_toArray, List.set_cons_zero, List.set_cons_succ]
  -- op 6 move
  refine Flow.free rfl rfl ?_ ?_ ?_; rotate_left
  · intro W hS; go_simp; (try go_ints); (try simp only [↓IntWalk.iteOmega]); first | done | rfl | (refine ⟨?_, ?_⟩ <;> first | rfl | trivial)
  simp only [Act.put, List.setIfInBounds_toArray, List.set_cons_zero, List.set_cons_succ]
  -- op 7 slice
  refine Flow.free rfl rfl ?_ ?_ ?_; rotate_left
  · intro W hS; go_simp; (try go_ints); (try simp only [↓IntWalk.iteOmega]); first | done | rfl | (refine ⟨?_, ?_⟩ <;> first | rfl | trivial)
  simp only [Act.put, List.setIfInBounds_toArray, List.set_cons_zero, List.set_cons_succ]
  -- op 8 call
  refine Flow.turn rfl rfl (fun w8 hb hS hd ht K hK => ?_)
  have hbt8 := hb; obtain ⟨r1, r2⟩ := Ext.rules hb; skip
  refine valTo_copy w8 rfl B 82 i0 8 Try.underlying83 hi hz1 g (n + 1) cap _ (own_ext HO.out hb) _ _ _ _ _ _ (xs.drop (i * 8)) rfl rfl ?d0 ?d1 ?d2 ?d3 ?d4 ?_
  case d0 => rw [List.length_drop, HX.out]; simp only [Nat.min_def]; split <;> omega
  case d1 => exact .inr ⟨g, i * 8, rfl, hb.range (range_drop HSRC.out)⟩
  case d2 => exact fun u hu => h2 u (List.mem_of_mem_drop hu)
  case d3 => rw [List.length_drop, HX.out]; omega
  case d4 => intro h; cases h
  intro w9 hown9 hk9
  have HO9 := Lib.hid hown9
  have HK9 := Lib.hid hk9
  clear hown9 hk9
  refine hK _ _ trivial ?_
  clear hK K
  simp only [Act.put, List.setIfInBounds_toArray, List.set_cons_zero, List.set_cons_succ]
  refine Flow.nil (fun w10 hb hS hd ht => ?_)
  clear hd ht
  have HB8 := Lib.hid hbt8
  have HB := Lib.hid hb
  clear hb hbt8
  go_wp2_with (refine wpList_copy _ rfl rfl B 82 i0 8 Try.underlying83 hi hz1 g (n + 1) cap _ (own_ext HO9.out HB.out) _ _ _ (some ⟨gv, 0, none⟩) 1 1 ys rfl rfl ?c0 ?c1 h1 ?c2 ?c3 ?_)
  case c0 => rw [HYL.out]; simp only [Nat.min_def]; split <;> omega
  case c1 => exact .inr ⟨gv, 0, rfl, HB.out.range (HK9.out.range (HB8.out.range HY.out) HGG.out)⟩
  case c2 => rw [HYL.out]; omega
  case c3 => intro h; cases h
  intro w11 hown11 hk11
  have HO11 := Lib.hid hown11
  have HK11 := Lib.hid hk11
  clear hown11 hk11
  go_wp2
  go_ret
  refine ⟨_, rfl, ?_, ?_, .inl rfl⟩
  · have e := over_ins2 xs zs ys i n HX.out (by omega) HYL.out (by have := HZL.out; omega)
    rw [← e]
    exact HO11.out
  · have k : Keeps (fun i => i = g) w w11 := ((((Keeps.of_ext HB8.out).seq HK9.out).then_ext HB.out).seq HK11.out)
    exact k.mono fun i _ e => by rw [e]; rfl

/-- **slices.Insert** of one entry. -/
theorem insert_any (B n i : Nat) (v : Value) (xs ys : List Value) (gv : Nat) (w : World) (hown : w.ownsRow B 82 8 v n xs) (hi : i ≤ n) (hB : B ≤ w.heap.size) (hn : n ≤ 1000000000) (hy : ys.length = 8) (hgv : w.heap[gv]? = some (.cells ys.toArray 82 (0, 0)))
    (hgg : v.ownBlock ≠ some gv) (h1 : ∀ u ∈ ys, u.oneCell' = true) (h2 : ∀ u ∈ xs, u.oneCell' = true) :
    Calls Try.prog 42 #[v, .int .i64 i, .slice (some ⟨gv, 0, none⟩) 1 1] w (InsPost B n i v xs ys w) := by
  rcases Nat.eq_or_lt_of_le hi with rfl | hlt
  · exact insert_end B _ v xs ys gv w hown hB hn hy hgv h1
  · obtain ⟨g, cap, hv, _⟩ := hown.form (by omega)
    subst hv
    rcases Nat.lt_or_ge cap (n + 1) with hc | hc
    · exact insert_grow B n i cap g xs ys gv w hown hlt hc hB hn hy hgv h1 h2
    · exact insert_room B n i cap g xs ys gv w hown hlt hc hn hy hgv (fun e => hgg (by rw [e]; rfl)) h1 h2
end Go.Proofs.Ytnamppkicefbjaa
