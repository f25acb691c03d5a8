/- Contract of Copy. Own text. -/
import Derived.Test.YtnamppkicefbjaaW9
import Derived.Laws.OwnMore
namespace Go.Proofs.Ytnamppkicefbjaa
open Go.RowKit Go.Flow Go.Mem

theorem sorted_keys (L : List En) : SortedE L ↔ (L.map En.key).Pairwise fun x y => lexLe x y = true := by
  unfold SortedE
  rw [List.pairwise_map]
  rfl
theorem keys_bare {L M : List En} (h : M.map En.bare = L.map En.bare) : M.map En.key = L.map En.key := by
  have e : ∀ N : List En, N.map En.key = (N.map En.bare).map En.key := fun N => by rw [List.map_map]; rfl
  rw [e M, e L, h]
theorem sorted_bare {L M : List En} (h : M.map En.bare = L.map En.bare) (hs : SortedE L) : SortedE M := by
  rw [sorted_keys] at *
  rw [keys_bare h]
  exact hs
theorem over_flat (M : List En) (zs : List Value) (x : En) (k : Nat) (hM : M.length = k) (_ : 8 ≤ zs.length) : over (flat M ++ zs) (k * 8) x.cells = flat (M ++ [x]) ++ zs.drop 8 := by
  unfold over
  have h1 : k * 8 = (flat M).length := by rw [flat_length, hM]
  have h2 : x.cells.length = 8 := rfl
  rw [h2, h1, List.take_left, List.drop_append, List.drop_of_length_le (by omega), flat_append, show (flat M).length + 8 - (flat M).length = 8 by omega]
  simp [flat]

def CopyPost (L : List En) (w : World) (e : Ending) (w' : World) : Prop :=
  ∃ a' v' L', e = .returned (.pointer (some ⟨a', 0, none⟩)) ∧ Ag w' w.heap.size a' v' L' ∧ L'.map En.bare = L.map En.bare ∧ Ext w w'

set_option maxHeartbeats 2000000 in
set_option maxRecDepth 100000 in
theorem copy_any (B a : Nat) (v : Value) (L : List En) (w : World) (hA : Ag w B a v L) (hlen : L.length ≤ 100000000) (hal : ∀ e ∈ L, e.args.length ≤ 1000000000000) :
    Calls Try.prog 19 #[.pointer (some ⟨a, 0, none⟩)] w (CopyPost L w) := by
  obtain ⟨i0, hi, hz0, hz1, hz2⟩ := info_parts info82
  obtain ⟨cur, hcur, hmk⟩ : ∃ cur : Array Value, cur.size = L.length * 8 ∧ ∀ W, (Instr.makeSlice 83 (.int .i64 (L.length : Int)) (.int .i64 (L.length : Int))).run Try.prog W = .ok (.slice (some ⟨W.heap.size, 0, none⟩) L.length L.length) (W.alloc (.cells cur 82)) := by
    refine ⟨madeCells (Value.agg #[.int .i64 0, .int .u8 0, .int .i64 0, .int .i64 0, .int .i64 0, .int .i64 0, .int .i64 0, .slice none 0 0]).cells (L.length * 8), by simp [madeCells], fun W => ?_⟩
    have := run_make (P := Try.prog) W 83 82 i0 _ Try.underlying83 hi hz0 .i64 .i64 (L.length : Int) (L.length : Int) (by omega) (by omega) (by rw [hz2]; omega) (by omega)
    rw [this]
    have e1 : (L.length : Int).toNat = L.length := by omega
    rw [e1, hz1]
  obtain ⟨Av, capv, hvv, _, hnc, hcm⟩ := own_form hA.row
  subst hvv
  have hav : w.cell? ⟨a, 0, none⟩ = some (.slice Av L.length capv) := cell_of_one hA.blk
  have la : a < w.heap.size := lt_of_block hA.blk
  have HA := Lib.hid hA
  have HCUR := Lib.hid hcur
  clear hA hcur
  go_enter Try.func19, Try.ntmps19
  go_wp2
  clear hmk
  go_loopg [4, 5, 19] L.length (fun kx _ _ s19 wr => ∃ (kk : Nat) (M : List En) (zs : List Value), kk ≤ L.length ∧ L.length - kk ≤ kx ∧ s19 = .int .i64 kk ∧ Hid (M.map En.bare = (L.take kk).map En.bare ∧ M.length = kk) ∧ Hid (wr.ownsRow w.heap.size 82 8 (.slice (some ⟨w.heap.size, 0, none⟩) L.length L.length) L.length (flat M ++ zs)) ∧ Hid (∀ e ∈ M, ArgsOk wr w.heap.size e) ∧ Hid (Ext w wr))
  case atStart =>
    refine ⟨0, [], cur.toList, Nat.zero_le _, by omega, rfl, (⟨rfl, rfl⟩ : [].map En.bare = _ ∧ _), ?_, (fun e he => (List.not_mem_nil he).elim : ∀ e ∈ [], ArgsOk _ _ e), Ext.new _ _⟩
    exact World.ownsRow_lit w cur L.length (Nat.le_refl _) (by simp only [maxLen]; omega) HCUR.out
  case round =>
    obtain ⟨kk, M, zs, hkk, hkx, rfl, HM, HR, HI, HX⟩ := hrel
    by_cases hlt : kk < L.length
    · obtain ⟨g, capg, hform, _⟩ := (HA.out.row).form (by omega)
      simp only [Value.slice.injEq] at hform
      obtain ⟨rfl, _, rfl⟩ := hform
      obtain ⟨x, hx⟩ : ∃ x, x = L[kk] := ⟨_, rfl⟩
      have hr := HX.out.range (flat_range (own_range HA.out.row) (List.getElem?_eq_getElem hlt))
      rw [← hx] at hr
      have c0 : wr.cell? ⟨g, kk * 8, none⟩ = some (.int .i64 x.t) := hr 0 _ rfl
      have c1 : wr.cell? ⟨g, kk * 8 + 1, none⟩ = some (.int .u8 x.s) := hr 1 _ rfl
      have c2 : wr.cell? ⟨g, kk * 8 + 2, none⟩ = some (.int .i64 x.c) := hr 2 _ rfl
      have c3 : wr.cell? ⟨g, kk * 8 + 3, none⟩ = some (.int .i64 x.p) := hr 3 _ rfl
      have c4 : wr.cell? ⟨g, kk * 8 + 4, none⟩ = some (.int .i64 x.n) := hr 4 _ rfl
      have c5 : wr.cell? ⟨g, kk * 8 + 5, none⟩ = some (.int .i64 x.k) := hr 5 _ rfl
      have c6 : wr.cell? ⟨g, kk * 8 + 6, none⟩ = some (.int .i64 x.h) := hr 6 _ rfl
      have c7 : wr.cell? ⟨g, kk * 8 + 7, none⟩ = some (.slice x.A x.args.length x.cap) := hr 7 _ rfl
      have hxl : x.args.length ≤ 1000000000000 := hal x (by rw [hx]; exact List.getElem_mem hlt)
      have hxa : ArgsOk wr B x := own_ext (HA.out.args x (by rw [hx]; exact List.getElem_mem hlt)) HX.out
      have HXA := Lib.hid hxa
      have HXX := Lib.hid hx
      clear hr hx hxa
      go_wp2_with fail
      refine wp_named (fun w3 hw3 => ?_)
      have hx3 : Ext wr w3 := by rw [hw3]; exact Ext.new _ _
      have hbx : w3.heap[wr.heap.size]? = some (.cells [.int .i64 x.t, .int .u8 x.s, .int .i64 x.c, .int .i64 x.p, .int .i64 x.n, .int .i64 x.k, .int .i64 x.h, .slice x.A x.args.length x.cap].toArray 82 (0, 0)) := by rw [hw3]; exact heap_alloc_new _ _
      have l3 : wr.heap.size < w3.heap.size := by rw [hw3]; simp
      clear hw3
      have hr0 := range_of_whole hbx
      have b0 : w3.cell? ⟨wr.heap.size, 0, none⟩ = some (.int .i64 x.t) := hr0 0 _ rfl
      have hr1 : w3.rangeAt wr.heap.size 1 [.int .u8 x.s, .int .i64 x.c, .int .i64 x.p, .int .i64 x.n, .int .i64 x.k, .int .i64 x.h, .slice x.A x.args.length x.cap] := range_drop (k := 1) hr0
      have HR1 := Lib.hid hr1
      have HX3 := Lib.hid hx3
      have hgs : w.heap.size < wr.heap.size := own_lt HR.out
      clear hr0 hr1 hbx hx3 c0 c1 c2 c3 c4 c5 c6 c7
      have hsrc : Src wr x.A (ints x.args) := by
        obtain ⟨A1, c1', hv1, hs1, _, _⟩ := own_form HXA.out
        simp only [Value.slice.injEq] at hv1
        rw [hv1.1]
        exact hs1
      have HSRC := Lib.hid hsrc
      clear hsrc
      have hmax : w.heap.size < w3.heap.size := by omega
      refine wp_region_flow (fun _ => True) [⟨0, [], 0⟩, ⟨1, [], 0⟩, ⟨2, [], 0⟩, ⟨4, [], 0⟩, ⟨5, [], 1⟩, ⟨6, [], 4⟩, ⟨3, [], 1⟩, ⟨7, [6], 0⟩, ⟨8, [6], 0⟩, ⟨9, [6], 5⟩] (by kernel_rfl) (by kernel_rfl) (fun _ _ _ _ => trivial) trivial ?_
      simp only [pick, List.map_cons, List.map_nil, List.getD_cons_zero, List.getD_cons_succ]
      -- op 0 move
      refine Flow.free rfl rfl ?_ ?_ ?_; rotate_left
      · intro W hS; go_simp; (try go_ints); (try simp only [↓IntWalk.iteOmega]); first | done | rfl | (refine ⟨?_, ?_⟩ <;> first | rfl | trivial)
      simp only [Act.put, List.setIfInBounds_toArray, List.set_cons_zero, List.set_cons_succ]
      -- op 1 move
      refine Flow.free rfl rfl ?_ ?_ ?_; rotate_left
      · intro W hS; go_simp; (try go_ints); (try simp only [↓IntWalk.iteOmega]); first | done | rfl | (refine ⟨?_, ?_⟩ <;> first | rfl | trivial)
      simp only [Act.put, List.setIfInBounds_toArray, List.set_cons_zero, List.set_cons_succ]
      -- op 2 fieldAddr
      refine Flow.free rfl rfl ?_ ?_ ?_; rotate_left
      · intro W hS; go_simp; (try go_ints); (try simp only [↓IntWalk.iteOmega]); first | done | rfl | (refine ⟨?_, ?_⟩ <;> first | rfl | trivial)
      simp only [Act.put, List.setIfInBounds_toArray, List.set_cons_zero, List.set_cons_succ]
      -- op 4 fieldAddr
      refine Flow.free rfl rfl ?_ ?_ ?_; rotate_left
      · intro W hS; go_simp; (try go_ints); (try simp only [↓IntWalk.iteOmega]); first | done | rfl | (refine ⟨?_, ?_⟩ <;> first | rfl | trivial)
      simp only [Act.put, List.setIfInBounds_toArray, List.set_cons_zero, List.set_cons_succ]
      -- op 5 load
      refine Flow.readRange rfl rfl rfl rfl (fun W hb hS hd => hb.range HR1.out) Try.underlying35 rfl (by kernel_rfl) ?_
      simp only [Act.put, List.setIfInBounds_toArray, List.set_cons_zero, List.set_cons_succ]
      -- op 6 call
      refine Flow.callMake rfl rfl 36 ?_ ?_ ?_; rotate_left
      · intro W; go_simp; first | done | rfl
      intro w6 hb hS hd
      obtain ⟨r1, r2⟩ := Ext.rules hb; skip
      refine (clone_any x.s x.c x.p x.n x.k x.h x.A x.cap x.args w6 (HSRC.out.ext (HX3.out.tr hb)) hxl).mono ?_
      rintro e w7 ⟨A2, cap2, rfl, hown2, hx2⟩
      refine ⟨_, rfl, hx2, ?_⟩
      have h60 := (HX3.out.tr hb).size
      have HO2 := Lib.hid hown2
      clear hown2 hx2 hd r1 r2 hS hb
      simp only [Act.put, List.setIfInBounds_toArray, List.set_cons_zero, List.set_cons_succ]
      -- op 3 load
      refine Flow.read rfl rfl ?_ ?_ ?_; rotate_left
      · intro W hb hS hd; obtain ⟨r1, r2⟩ := Ext.rules hb; go_simp; (try go_ints); (try simp only [↓IntWalk.iteOmega]); first | done | rfl | (refine ⟨?_, ?_⟩ <;> first | rfl | trivial)
      simp only [Act.put, List.setIfInBounds_toArray, List.set_cons_zero, List.set_cons_succ]
      -- op 7 build
      refine Flow.free rfl rfl ?_ ?_ ?_; rotate_left
      · intro W hS; go_simp; (try go_ints); (try simp only [↓IntWalk.iteOmega]); first | done | rfl | (refine ⟨?_, ?_⟩ <;> first | rfl | trivial)
      simp only [Act.put, List.setIfInBounds_toArray, List.set_cons_zero, List.set_cons_succ]
      -- op 8 indexAddr
      refine Flow.free rfl rfl ?_ ?_ ?_; rotate_left
      · intro W hS; go_simp; (try go_ints); (try simp only [↓IntWalk.iteOmega]); first | done | rfl | (refine ⟨?_, ?_⟩ <;> first | rfl | trivial)
      simp only [Act.put, List.setIfInBounds_toArray, List.set_cons_zero, List.set_cons_succ]
      -- op 9 store
      refine Flow.storeRange rfl rfl rfl rfl rfl (by kernel_rfl) (by simp [Value.oneCell']) (fun w9 hb hS hd ht => ?_)
      have hbt9 := hb; obtain ⟨r1, r2⟩ := Ext.rules hb; have hx6 := hd _ (.head _); obtain ⟨r1_6, r2_6⟩ := Ext.rules hx6; skip
      have hxw : Ext wr w9 := HX3.out.tr hb
      have hrow9 := own_ext HR.out hxw
      refine ⟨own_there hrow9 _ _ (by simp only [List.size_toArray, List.length_cons, List.length_nil]; omega), trivial, ?_⟩
      have HXW := Lib.hid hxw
      have HX7 := Lib.hid hx6
      clear hxw hrow9 hb hbt9 hx6 r1 r2 r1_6 r2_6 hd ht hS
      simp only [Act.put]
      refine Flow.nil (fun w10 hb hS hd ht => ?_)
      clear hd ht
      obtain ⟨x', hx'⟩ : ∃ x' : En, x' = { x with A := A2, cap := cap2 } := ⟨_, rfl⟩
      have hcells : x'.cells = [.int .i64 x.t, .int .u8 x.s, .int .i64 x.c, .int .i64 x.p, .int .i64 x.n, .int .i64 x.k, .int .i64 x.h, .slice A2 x.args.length cap2] := by rw [hx']; rfl
      go_wp2
      go_roundg (L.length - (kk + 1))
      case measure => omega
      case rel =>
        have hzl : (flat M ++ zs).length = L.length * 8 := HR.out.1
        rw [List.length_append, flat_length, HM.out.2] at hzl
        have hset : Keeps (fun i => i = w.heap.size) w9 (w9.setCells w.heap.size (kk * 8) x'.cells) := keeps_setCells _ _ _ _
        have hb' : Ext (w9.setCells w.heap.size (kk * 8) x'.cells) w10 := by rw [hcells]; exact hb
        have key : ∀ e : En, ArgsOk w9 w.heap.size e → ArgsOk w10 w.heap.size e := fun e he => by
          refine own_ext (own_keeps he hset (fun g hg e1 => ?_)) hb'
          exact own_type_ne he (own_ext HR.out HXW.out) (by decide) g hg (by rw [e1]; rfl)
        refine ⟨kk + 1, M ++ [x'], zs.drop 8, by omega, Nat.le_refl _, by go_num, (⟨?_, ?_⟩ : _ ∧ _), ?_, (?_ : ∀ e ∈ M ++ [x'], ArgsOk w10 w.heap.size e), ?_⟩
        · rw [List.map_append, HM.out.1, List.take_succ_eq_append_getElem hlt, List.map_append, ← HXX.out, hx']
          rfl
        · rw [List.length_append, HM.out.2]; rfl
        · have h1 := own_setCells x'.cells (kk * 8) w9 _ (own_ext HR.out HXW.out) (by rw [hcells]; simp only [List.length_cons, List.length_nil]; omega)
          rw [over_flat M zs x' kk HM.out.2 (by omega)] at h1
          exact own_ext h1 hb'
        · intro e he
          rcases List.mem_append.1 he with h1 | h1
          · exact key e (own_ext (HI.out e h1) HXW.out)
          · have : e = x' := by simpa using h1
            subst this
            have h6 : ArgsOk w7 w.heap.size e := by
              rw [hx']
              exact World.ownsRow.mono HO2.out (by have := HX.out.size; omega)
            exact key e (own_ext h6 HX7.out)
        · exact (((Keeps.of_ext (HX.out.tr HXW.out)).seq (X := fun i => i = w.heap.size) hset).then_ext hb').ext (fun b hb2 e1 => by omega)
    · obtain rfl : kk = L.length := by omega
      go_wp2
      go_ret
      have hzl : (flat M ++ zs).length = L.length * 8 := HR.out.1
      rw [List.length_append, flat_length, HM.out.2] at hzl
      have hz : zs = [] := List.eq_nil_of_length_eq_zero (by omega)
      have hx : Ext wr (wr.alloc (.cells #[.slice (some ⟨w.heap.size, 0, none⟩) L.length L.length] 85)) := Ext.new _ _
      have hbare : M.map En.bare = L.map En.bare := by rw [HM.out.1, List.take_length]
      have hrow := own_ext HR.out hx
      rw [hz, List.append_nil] at hrow
      refine ⟨wr.heap.size, .slice (some ⟨w.heap.size, 0, none⟩) L.length L.length, M, rfl, ⟨heap_alloc_new _ _, HX.out.size, ?_, fun e he => own_ext (HI.out e he) hx, sorted_bare hbare HA.out.sorted⟩, hbare, HX.out.tr hx⟩
      rw [HM.out.2]
      exact hrow
end Go.Proofs.Ytnamppkicefbjaa
