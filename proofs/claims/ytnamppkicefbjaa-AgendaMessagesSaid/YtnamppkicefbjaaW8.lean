/- Contract of Take. Own text. -/
import Derived.Test.YtnamppkicefbjaaP2
import Derived.Laws.MakeOwn
namespace Go.Proofs.Ytnamppkicefbjaa
open Go.RowKit Go.Flow Go.Mem

theorem info35 : (Try.prog.info? 35).map (fun i => (i.zero, i.size, i.bytes)) = some (some (.agg #[.int .u8 0, .int .i64 0, .int .i64 0, .int .i64 0, .int .i64 0, .int .i64 0, .slice none 0 0]), 7, 72) := by kernel_rfl

/-- What Take leaves. -/
def TakePost (B a : Nat) (v : Value) (L : List En) (tick comp : Int) (w : World) (e : Ending) (w' : World) : Prop :=
  ∃ u M v', e = .returned u ∧ Items w' w.heap.size u M ∧ M.map En.bare = (L.filter (inTake comp tick)).map En.bare ∧ Ag w' B a v' (L.filter fun x => !inTake comp tick x) ∧ Keeps (own a v) w w' ∧ v'.ownBlock = v.ownBlock

set_option maxHeartbeats 2000000 in
set_option maxRecDepth 100000 in
theorem take_any (B a : Nat) (v : Value) (L : List En) (tick comp : Int) (w : World) (hA : Ag w B a v L) (hB : B ≤ w.heap.size) (hlen : L.length ≤ 100000000) (hal : ∀ e ∈ L, e.args.length ≤ 1000000000000) :
    Calls Try.prog 13 #[.pointer (some ⟨a, 0, none⟩), .int .i64 tick, .int .i64 comp] w (TakePost B a v L tick comp w) := by
  have HA := Lib.hid hA
  clear hA
  go_enter Try.func13, Try.ntmps13
  go_wp2
  refine wp_named (fun w3 hw3 => ?_)
  have hx03 : Ext w w3 := by rw [hw3]; exact ((Ext.new _ _).tr (Ext.new _ _)).tr (Ext.new _ _)
  have ba : w3.cell? ⟨w.heap.size, 0, none⟩ = some (.pointer (some ⟨a, 0, none⟩)) := by rw [hw3]; simp [go_sem]
  have bt : w3.cell? ⟨w.heap.size + 1, 0, none⟩ = some (.int .i64 tick) := by rw [hw3]; simp [go_sem]
  have bc : w3.cell? ⟨w.heap.size + 2, 0, none⟩ = some (.int .i64 comp) := by rw [hw3]; simp [go_sem]
  have l1 : w.heap.size < w3.heap.size := by rw [hw3]; simp; omega
  clear hw3
  have hAg := HA.out.ext hx03
  obtain ⟨Av, capv, hvv, _, hnc, hcm⟩ := own_form hAg.row
  subst hvv
  have hav : w3.cell? ⟨a, 0, none⟩ = some (.slice Av L.length capv) := cell_of_one hAg.blk
  have l2 : a < w3.heap.size := lt_of_block hAg.blk
  have l3 : a < w.heap.size := lt_of_block HA.out.blk
  have hrow : ∀ g, (Value.slice Av L.length capv).ownBlock = some g → g < w.heap.size := fun g hg => (HA.out.row.lt g hg).2
  have hna : (Value.slice Av L.length capv).ownBlock ≠ some a := own_blk_ne HA.out.row HA.out.blk (by decide)
  have eg33 : ∀ args w, (callFunc 33 args).run Try.prog w = .ok (.enter 33 args) w := enters_of Try.func33 (by kernel_rfl) rfl
  have eg34 : ∀ args w, (callFunc 34 args).run Try.prog w = .ok (.enter 34 args) w := enters_of Try.func34 (by kernel_rfl) rfl
  obtain ⟨d, hd0⟩ : ∃ d : En, d.t = 0 := ⟨⟨0, 0, 0, 0, 0, 0, 0, [], none, 0⟩, rfl⟩
  clear hd0
  have hs1 : ∀ W, Ext w3 W → Calls Try.prog 35 #[.int .i64 L.length, .func (.func 33) #[] #[.pointer (some ⟨w.heap.size, 0, none⟩), .pointer (some ⟨w.heap.size + 2, 0, none⟩)]] W
      (SearchPost L.length (fun j => decide (comp ≤ (L.getD j d).c)) W) := fun W hW => by
    refine search_any 33 _ L.length _ W eg33 (by omega) (fun j W' hj hW' => ?_)
    have hxW : Ext w3 W' := hW.tr hW'
    obtain ⟨g, capg, hform, _⟩ := (hAg.row).form (by omega)
    simp only [Value.slice.injEq] at hform
    obtain ⟨rfl, _, rfl⟩ := hform
    have hr := flat_range (own_range hAg.row) (List.getElem?_eq_getElem hj)
    have hgd : L.getD j d = L[j] := by simp [hj]
    rw [hgd]
    exact reached_any j w.heap.size (w.heap.size + 2) a g capv L.length L[j] comp W' hj (hxW.at_ ba) (hxW.at_ hav) (hxW.at_ bc) (hxW.range hr)
  have hs2 : ∀ W, Ext w3 W → Calls Try.prog 35 #[.int .i64 L.length, .func (.func 34) #[] #[.pointer (some ⟨w.heap.size, 0, none⟩), .pointer (some ⟨w.heap.size + 2, 0, none⟩), .pointer (some ⟨w.heap.size + 1, 0, none⟩)]] W
      (SearchPost L.length (fun j => beyondB comp tick (L.getD j d)) W) := fun W hW => by
    refine search_any 34 _ L.length _ W eg34 (by omega) (fun j W' hj hW' => ?_)
    have hxW : Ext w3 W' := hW.tr hW'
    obtain ⟨g, capg, hform, _⟩ := (hAg.row).form (by omega)
    simp only [Value.slice.injEq] at hform
    obtain ⟨rfl, _, rfl⟩ := hform
    have hr := flat_range (own_range hAg.row) (List.getElem?_eq_getElem hj)
    have hgd : L.getD j d = L[j] := by simp [hj]
    rw [hgd]
    exact beyond_any j w.heap.size (w.heap.size + 2) (w.heap.size + 1) a g capv L.length L[j] comp tick W' hj (hxW.at_ ba) (hxW.at_ hav) (hxW.at_ bc) (hxW.at_ bt) (hxW.range hr)
  have HS1 := Lib.hid hs1
  have HS2 := Lib.hid hs2
  have HAG := Lib.hid hAg
  have HX03 := Lib.hid hx03
  have HROW := Lib.hid hrow
  have HNA := Lib.hid hna
  clear hs1 hs2 hAg hx03 hrow hna eg33 eg34 HA bt bc
  refine wp_region_flow (fun _ => True) [⟨5, [], 0⟩, ⟨12, [], 0⟩, ⟨0, [], 1⟩, ⟨1, [], 0⟩, ⟨2, [], 0⟩, ⟨3, [], 1⟩, ⟨4, [], 0⟩, ⟨6, [], 4⟩, ⟨7, [], 1⟩, ⟨8, [], 0⟩, ⟨9, [], 0⟩, ⟨10, [], 1⟩, ⟨11, [], 0⟩, ⟨13, [6], 4⟩, ⟨14, [6, 13], 0⟩, ⟨15, [6, 13], 0⟩] (by kernel_rfl) (by kernel_rfl) (fun _ _ _ _ => trivial) trivial ?_
  simp only [pick, List.map_cons, List.map_nil, List.getD_cons_zero, List.getD_cons_succ]
  -- op 5 move
  refine Flow.free rfl rfl ?_ ?_ ?_; rotate_left
  · intro W hS; go_simp; (try go_ints); (try simp only [↓IntWalk.iteOmega]); first | done | rfl | (refine ⟨?_, ?_⟩ <;> first | rfl | trivial)
  simp only [Act.put, List.setIfInBounds_toArray, List.set_cons_zero, List.set_cons_succ]
  -- op 12 move
  refine Flow.free rfl rfl ?_ ?_ ?_; rotate_left
  · intro W hS; go_simp; (try go_ints); (try simp only [↓IntWalk.iteOmega]); first | done | rfl | (refine ⟨?_, ?_⟩ <;> first | rfl | trivial)
  simp only [Act.put, List.setIfInBounds_toArray, List.set_cons_zero, List.set_cons_succ]
  -- op 0 load
  refine Flow.read rfl rfl ?_ ?_ ?_; rotate_left
  · intro W hb hS hd; obtain ⟨r1, r2⟩ := Ext.rules hb; go_simp; (try go_ints); (try simp only [↓IntWalk.iteOmega]); first | done | rfl | (refine ⟨?_, ?_⟩ <;> first | rfl | trivial)
  simp only [Act.put, List.setIfInBounds_toArray, List.set_cons_zero, List.set_cons_succ]
  -- op 1 nilCheck
  refine Flow.free rfl rfl ?_ ?_ ?_; rotate_left
  · intro W hS; go_simp; (try go_ints); (try simp only [↓IntWalk.iteOmega]); first | done | rfl | (refine ⟨?_, ?_⟩ <;> first | rfl | trivial)
  simp only [Act.put, List.setIfInBounds_toArray, List.set_cons_zero, List.set_cons_succ]
  -- op 2 fieldAddr
  refine Flow.free rfl rfl ?_ ?_ ?_; rotate_left
  · intro W hS; go_simp; (try go_ints); (try simp only [↓IntWalk.iteOmega]); first | done | rfl | (refine ⟨?_, ?_⟩ <;> first | rfl | trivial)
  simp only [Act.put, List.setIfInBounds_toArray, List.set_cons_zero, List.set_cons_succ]
  -- op 3 load
  refine Flow.read rfl rfl ?_ ?_ ?_; rotate_left
  · intro W hb hS hd; obtain ⟨r1, r2⟩ := Ext.rules hb; go_simp; (try go_ints); (try simp only [↓IntWalk.iteOmega]); first | done | rfl | (refine ⟨?_, ?_⟩ <;> first | rfl | trivial)
  simp only [Act.put, List.setIfInBounds_toArray, List.set_cons_zero, List.set_cons_succ]
  -- op 4 call
  refine Flow.free rfl rfl ?_ ?_ ?_; rotate_left
  · intro W hS; go_simp; (try go_ints); (try simp only [↓IntWalk.iteOmega]); first | done | rfl | (refine ⟨?_, ?_⟩ <;> first | rfl | trivial)
  simp only [Act.put, List.setIfInBounds_toArray, List.set_cons_zero, List.set_cons_succ]
  -- op 6 call
  refine Flow.callMake rfl rfl 35 ?_ ?_ ?_; rotate_left
  · intro W; go_simp; first | done | rfl
  intro w6 hb hS hd
  obtain ⟨r1, r2⟩ := Ext.rules hb; skip
  refine (HS1.out w6 hb).mono ?_
  rintro e w6' ⟨fr, rfl, f1, f2, f3, hxs⟩
  refine ⟨_, rfl, hxs, ?_⟩
  have F2 := Lib.hid f2
  have F3 := Lib.hid f3
  clear f2 f3 hxs hd r1 r2 hS hb
  simp only [Act.put, List.setIfInBounds_toArray, List.set_cons_zero, List.set_cons_succ]
  -- op 7 load
  refine Flow.read rfl rfl ?_ ?_ ?_; rotate_left
  · intro W hb hS hd; obtain ⟨r1, r2⟩ := Ext.rules hb; go_simp; (try go_ints); (try simp only [↓IntWalk.iteOmega]); first | done | rfl | (refine ⟨?_, ?_⟩ <;> first | rfl | trivial)
  simp only [Act.put, List.setIfInBounds_toArray, List.set_cons_zero, List.set_cons_succ]
  -- op 8 nilCheck
  refine Flow.free rfl rfl ?_ ?_ ?_; rotate_left
  · intro W hS; go_simp; (try go_ints); (try simp only [↓IntWalk.iteOmega]); first | done | rfl | (refine ⟨?_, ?_⟩ <;> first | rfl | trivial)
  simp only [Act.put, List.setIfInBounds_toArray, List.set_cons_zero, List.set_cons_succ]
  -- op 9 fieldAddr
  refine Flow.free rfl rfl ?_ ?_ ?_; rotate_left
  · intro W hS; go_simp; (try go_ints); (try simp only [↓IntWalk.iteOmega]); first | done | rfl | (refine ⟨?_, ?_⟩ <;> first | rfl | trivial)
  simp only [Act.put, List.setIfInBounds_toArray, List.set_cons_zero, List.set_cons_succ]
  -- op 10 load
  refine Flow.read rfl rfl ?_ ?_ ?_; rotate_left
  · intro W hb hS hd; obtain ⟨r1, r2⟩ := Ext.rules hb; go_simp; (try go_ints); (try simp only [↓IntWalk.iteOmega]); first | done | rfl | (refine ⟨?_, ?_⟩ <;> first | rfl | trivial)
  simp only [Act.put, List.setIfInBounds_toArray, List.set_cons_zero, List.set_cons_succ]
  -- op 11 call
  refine Flow.free rfl rfl ?_ ?_ ?_; rotate_left
  · intro W hS; go_simp; (try go_ints); (try simp only [↓IntWalk.iteOmega]); first | done | rfl | (refine ⟨?_, ?_⟩ <;> first | rfl | trivial)
  simp only [Act.put, List.setIfInBounds_toArray, List.set_cons_zero, List.set_cons_succ]
  -- op 13 call
  refine Flow.callMake rfl rfl 35 ?_ ?_ ?_; rotate_left
  · intro W; go_simp; first | done | rfl
  intro w13 hb hS hd
  obtain ⟨r1, r2⟩ := Ext.rules hb; have hx6 := hd _ (.head _) (by simp); obtain ⟨r1_6, r2_6⟩ := Ext.rules hx6; skip
  refine (HS2.out w13 hb).mono ?_
  rintro e w13' ⟨tt, rfl, t1, t2, t3, hxs⟩
  refine ⟨_, rfl, hxs, ?_⟩
  have T2 := Lib.hid t2
  have T3 := Lib.hid t3
  clear t2 t3 hxs hd r1 r2 hS hb r1_6 r2_6 hx6
  simp only [Act.put, List.setIfInBounds_toArray, List.set_cons_zero, List.set_cons_succ]
  -- op 14 assign
  refine Flow.free rfl rfl ?_ ?_ ?_; rotate_left
  · intro W hS; go_simp; (try go_ints); (try simp only [↓IntWalk.iteOmega]); first | done | rfl | (refine ⟨?_, ?_⟩ <;> first | rfl | trivial)
  simp only [Act.put, List.setIfInBounds_toArray, List.set_cons_zero, List.set_cons_succ]
  -- op 15 assign
  refine Flow.free rfl rfl ?_ ?_ ?_; rotate_left
  · intro W hS; go_simp; (try go_ints); (try simp only [↓IntWalk.iteOmega]); first | done | rfl | (refine ⟨?_, ?_⟩ <;> first | rfl | trivial)
  simp only [Act.put, List.setIfInBounds_toArray, List.set_cons_zero, List.set_cons_succ]
  refine Flow.nil (fun w4 hb hS hd ht => ?_)
  have hx6 := hd _ (.tail _ (.head _)); skip
  have hx13 := hd _ (.head _); skip
  clear hd ht
  obtain ⟨hft, htk, hrs⟩ := take_between HAG.out.sorted comp tick d fr tt f1 t1 F2.out F3.out T2.out T3.out
  have HTK := Lib.hid htk
  have HRS := Lib.hid hrs
  clear htk hrs F2 F3 T2 T3 hx6 hx13 hS
  have hx4 := HX03.out.tr hb
  have HX4 := Lib.hid hx4
  have HAG4 := Lib.hid (HAG.out.ext hb)
  have ba4 := hb.at_ ba
  have av4 := hb.at_ hav
  have l14 : w.heap.size < w4.heap.size := Nat.lt_of_lt_of_le l1 hb.size
  have l24 : a < w4.heap.size := Nat.lt_of_lt_of_le l2 hb.size
  clear hx4 hb HAG ba hav l1 l2
  rcases Nat.eq_or_lt_of_le hft with heq | hlt
  · -- nothing there
    subst heq
    go_wp2
    go_ret
    have e0 : L.filter (inTake comp tick) = [] := by rw [← HTK.out]; simp
    have e1 : (L.filter fun x => !inTake comp tick x) = L := by rw [← HRS.out]; exact List.take_append_drop _ _
    refine ⟨.slice none 0 0, [], .slice Av L.length capv, rfl, ⟨World.ownsRow_nil _ _ _ _, fun e he => (List.not_mem_nil he).elim⟩, by rw [e0], ?_, Keeps.of_ext HX4.out, rfl⟩
    rw [e1]
    exact HAG4.out
  · obtain ⟨i0, hi, hz0, hz1, hz2⟩ := info_parts info35
    obtain ⟨cur, hcur, hmk⟩ : ∃ cur : Array Value, cur.size = (tt - fr) * 7 ∧ ∀ W, (Instr.makeSlice 31 (.int .i64 0) (.int .i64 ((tt : Int) - (fr : Int)))).run Try.prog W = .ok (.slice (some ⟨W.heap.size, 0, none⟩) 0 (tt - fr)) (W.alloc (.cells cur 35)) := by
      refine ⟨madeCells (Value.agg #[.int .u8 0, .int .i64 0, .int .i64 0, .int .i64 0, .int .i64 0, .int .i64 0, .slice none 0 0]).cells ((tt - fr) * 7), by simp [madeCells], fun W => ?_⟩
      have := run_make (P := Try.prog) W 31 35 i0 _ Try.underlying31 hi hz0 .i64 .i64 0 ((tt : Int) - (fr : Int)) (by omega) (by omega) (by rw [hz2]; omega) (by omega)
      rw [this]
      have e1 : ((tt : Int) - (fr : Int)).toNat = tt - fr := by omega
      rw [e1, hz1]
      rfl
    obtain ⟨g, capg, hform, _⟩ := (HAG4.out.row).form (by omega)
    simp only [Value.slice.injEq] at hform
    obtain ⟨rfl, _, rfl⟩ := hform
    have HCUR := Lib.hid hcur
    clear hcur
    have hge : decide (tt ≤ fr) = false := by simp; omega
    go_wp2
    clear hmk
    go_loopg [11, 13, 47] (tt - fr) (fun kx s11 _ s47 wr => ∃ (kk : Nat) (M : List En), kk ≤ tt - fr ∧ (tt - fr) - kk ≤ kx ∧ s47 = .int .i64 kk ∧ Hid (M.map En.bare = (((L.drop fr).take (tt - fr)).take kk).map En.bare ∧ M.length = kk) ∧ Hid (Items wr w4.heap.size s11 M) ∧ Hid (Ext w4 wr))
    case atStart =>
      refine ⟨0, [], Nat.zero_le _, by omega, rfl, (⟨rfl, rfl⟩ : [].map En.bare = _ ∧ _), ?_, Ext.new _ _⟩
      exact (⟨World.ownsRow_made w4 cur (tt - fr) (Nat.le_refl _) (by omega) HCUR.out, fun e he => (List.not_mem_nil he).elim⟩ : Items _ _ _ [])
    case round =>
      obtain ⟨kk, M, hkk, hkx, rfl, HM, HI, HX⟩ := hrel
      by_cases hlt2 : kk < tt - fr
      · have hidx : fr + kk < L.length := by omega
        obtain ⟨x, hx⟩ : ∃ x, x = L[fr + kk] := ⟨_, rfl⟩
        have hr := HX.out.range (flat_range (own_range HAG4.out.row) (List.getElem?_eq_getElem hidx))
        rw [← hx, show (fr + kk) * 8 = fr * 8 + kk * 8 by omega] at hr
        have c0 : wr.cell? ⟨g, fr * 8 + kk * 8, none⟩ = some (.int .i64 x.t) := hr 0 _ rfl
        have c1 : wr.cell? ⟨g, fr * 8 + kk * 8 + 1, none⟩ = some (.int .u8 x.s) := hr 1 _ rfl
        have c2 : wr.cell? ⟨g, fr * 8 + kk * 8 + 2, none⟩ = some (.int .i64 x.c) := hr 2 _ rfl
        have c3 : wr.cell? ⟨g, fr * 8 + kk * 8 + 3, none⟩ = some (.int .i64 x.p) := hr 3 _ rfl
        have c4 : wr.cell? ⟨g, fr * 8 + kk * 8 + 4, none⟩ = some (.int .i64 x.n) := hr 4 _ rfl
        have c5 : wr.cell? ⟨g, fr * 8 + kk * 8 + 5, none⟩ = some (.int .i64 x.k) := hr 5 _ rfl
        have c6 : wr.cell? ⟨g, fr * 8 + kk * 8 + 6, none⟩ = some (.int .i64 x.h) := hr 6 _ rfl
        have c7 : wr.cell? ⟨g, fr * 8 + kk * 8 + 7, none⟩ = some (.slice x.A x.args.length x.cap) := hr 7 _ rfl
        have hxl : x.args.length ≤ 1000000000000 := hal x (by rw [hx]; exact List.getElem_mem hidx)
        have hxa : ArgsOk wr B x := own_ext (HAG4.out.args x (by rw [hx]; exact List.getElem_mem hidx)) HX.out
        have HXA := Lib.hid hxa
        have HXX := Lib.hid hx
        clear hr hx hxa
        go_wp2_with fail
        refine (clone_any x.s x.c x.p x.n x.k x.h x.A x.cap x.args _ ?_ hxl).mono ?_
        · obtain ⟨A1, c1', hv1, hs1, _, _⟩ := own_form HXA.out
          simp only [Value.slice.injEq] at hv1
          rw [hv1.1]
          exact hs1.ext (Ext.new _ _)
        rintro e w6 ⟨A2, cap2, rfl, hown2, hx2⟩
        have hx6 : Ext wr w6 := (Ext.new _ _).tr hx2
        have HO2 := Lib.hid hown2
        have HX6 := Lib.hid hx6
        have hzr : wr.heap.size < w6.heap.size := by have := hx2.size; simp at this; omega
        clear hown2 hx2 hx6 c0 c1 c2 c3 c4 c5 c6 c7
        obtain ⟨x', hx'⟩ : ∃ x' : En, x' = { x with A := A2, cap := cap2 } := ⟨_, rfl⟩
        have HXE := Lib.hid hx'
        clear hx'
        go_wp2_with (at_builtin; refine wpList_append_from _ rfl rfl w4.heap.size 35 i0 _ 7 72 Try.underlying31 hi hz0 hz1 hz2 rfl (by decide) _ M.length (iflat M) rfl (own_ext (own_ext HI.out.row HX6.out) (Ext.new _ _)) (some ⟨w6.heap.size, 0, none⟩) 1 1 x'.icells rfl (by rfl) ?e1 (icells_one x') ?e2 ?e3 ?e4 ?_)
        case e1 => rw [HXE.out]; exact .inr ⟨w6.heap.size, 0, rfl, range_of_whole (heap_alloc_new _ _)⟩
        case e2 => simp only [maxLen]; have := HM.out.2; omega
        case e3 => have := HM.out.2; omega
        case e4 => have h1 := HX.out.size; have h2 := HX6.out.size; simp; omega
        intro v7 w7 hown7 hk7 hat7
        have HO7 := Lib.hid hown7
        have HK7 := Lib.hid hk7
        clear hown7 hk7 hat7
        go_wp2
        go_roundg ((tt - fr) - (kk + 1))
        case measure => omega
        case rel =>
          have hrowlow : ∀ b, u11.ownBlock = some b → w4.heap.size ≤ b := fun b hb => (HI.out.row.lt b hb).1
          have hx7 : Ext w4 w7 := ((Keeps.of_ext ((HX.out.tr HX6.out).tr (Ext.new _ _))).seq HK7.out).ext (fun b hb e => by have := hrowlow b e; omega)
          have key : ∀ e : En, ArgsOk wr w4.heap.size e → ArgsOk w7 w4.heap.size e := fun e he => by
            have h6 := own_ext he HX6.out
            exact own_keeps (own_ext h6 (Ext.new _ _)) HK7.out (fun b hb hb' => own_type_ne he HI.out.row (by decide) b hb hb')
          refine ⟨kk + 1, M ++ [x'], by omega, Nat.le_refl _, by go_num, (⟨?_, ?_⟩ : _ ∧ _), (⟨?_, ?_⟩ : Items _ _ _ _), hx7⟩
          · have hlt3 : kk < ((L.drop fr).take (tt - fr)).length := by rw [List.length_take, List.length_drop]; omega
            have hg : ((L.drop fr).take (tt - fr))[kk] = x := by rw [List.getElem_take, List.getElem_drop]; exact HXX.out.symm
            rw [List.map_append, HM.out.1, List.take_succ_eq_append_getElem hlt3, List.map_append, hg, HXE.out]
            rfl
          · rw [List.length_append, HM.out.2]; rfl
          · rw [List.length_append, iflat_append]
            have : iflat [x'] = x'.icells := by simp [iflat]
            rw [this]
            exact HO7.out
          · intro e he
            rcases List.mem_append.1 he with h1 | h1
            · exact key e (HI.out.args e h1)
            · have : e = x' := by simpa using h1
              subst this
              have hz6 := HX.out.size
              have h6 : ArgsOk w6 w4.heap.size e := by
                rw [HXE.out]
                exact World.ownsRow.mono HO2.out (by simp; omega)
              exact own_keeps (own_ext h6 (Ext.new _ _)) HK7.out (fun b hb hb' => own_type_ne h6 (own_ext HI.out.row HX6.out) (by decide) b hb hb')
      · obtain rfl : kk = tt - fr := by omega
        go_wp2_with fail
        have bar := HX.out.at_ ba4
        have avr := HX.out.at_ av4
        have lr1 : w.heap.size < wr.heap.size := Nat.lt_of_lt_of_le l14 HX.out.size
        have lr2 : a < wr.heap.size := Nat.lt_of_lt_of_le l24 HX.out.size
        have HAGR := Lib.hid (HAG4.out.ext HX.out)
        clear ba4 av4 l14 l24
        refine wp_region_flow (fun W => W.cell? ⟨w.heap.size, 0, none⟩ = some (.pointer (some ⟨a, 0, none⟩))) [⟨0, [], 0⟩, ⟨1, [], 0⟩, ⟨2, [], 0⟩, ⟨3, [], 0⟩, ⟨5, [], 0⟩, ⟨6, [], 0⟩, ⟨4, [], 1⟩, ⟨7, [], 5⟩, ⟨8, [], 0⟩, ⟨9, [], 0⟩, ⟨10, [], 5⟩] (by kernel_rfl) (by kernel_rfl) (fun _ _ h k => Ext.at_ k h) bar ?_
        simp only [pick, List.map_cons, List.map_nil, List.getD_cons_zero, List.getD_cons_succ]
        -- op 0 load
        refine Flow.free rfl rfl ?_ ?_ ?_; rotate_left
        · intro W hS; go_simp; (try go_ints); (try simp only [↓IntWalk.iteOmega]); first | done | rfl | (refine ⟨?_, ?_⟩ <;> first | rfl | trivial)
        simp only [Act.put, List.setIfInBounds_toArray, List.set_cons_zero, List.set_cons_succ]
        -- op 1 load
        refine Flow.free rfl rfl ?_ ?_ ?_; rotate_left
        · intro W hS; go_simp; (try go_ints); (try simp only [↓IntWalk.iteOmega]); first | done | rfl | (refine ⟨?_, ?_⟩ <;> first | rfl | trivial)
        simp only [Act.put, List.setIfInBounds_toArray, List.set_cons_zero, List.set_cons_succ]
        -- op 2 nilCheck
        refine Flow.free rfl rfl ?_ ?_ ?_; rotate_left
        · intro W hS; go_simp; (try go_ints); (try simp only [↓IntWalk.iteOmega]); first | done | rfl | (refine ⟨?_, ?_⟩ <;> first | rfl | trivial)
        simp only [Act.put, List.setIfInBounds_toArray, List.set_cons_zero, List.set_cons_succ]
        -- op 3 fieldAddr
        refine Flow.free rfl rfl ?_ ?_ ?_; rotate_left
        · intro W hS; go_simp; (try go_ints); (try simp only [↓IntWalk.iteOmega]); first | done | rfl | (refine ⟨?_, ?_⟩ <;> first | rfl | trivial)
        simp only [Act.put, List.setIfInBounds_toArray, List.set_cons_zero, List.set_cons_succ]
        -- op 5 move
        refine Flow.free rfl rfl ?_ ?_ ?_; rotate_left
        · intro W hS; go_simp; (try go_ints); (try simp only [↓IntWalk.iteOmega]); first | done | rfl | (refine ⟨?_, ?_⟩ <;> first | rfl | trivial)
        simp only [Act.put, List.setIfInBounds_toArray, List.set_cons_zero, List.set_cons_succ]
        -- op 6 move
        refine Flow.free rfl rfl ?_ ?_ ?_; rotate_left
        · intro W hS; go_simp; (try go_ints); (try simp only [↓IntWalk.iteOmega]); first | done | rfl | (refine ⟨?_, ?_⟩ <;> first | rfl | trivial)
        simp only [Act.put, List.setIfInBounds_toArray, List.set_cons_zero, List.set_cons_succ]
        -- op 4 load
        refine Flow.read rfl rfl ?_ ?_ ?_; rotate_left
        · intro W hb hS hd; obtain ⟨r1, r2⟩ := Ext.rules hb; go_simp; (try go_ints); (try simp only [↓IntWalk.iteOmega]); first | done | rfl | (refine ⟨?_, ?_⟩ <;> first | rfl | trivial)
        simp only [Act.put, List.setIfInBounds_toArray, List.set_cons_zero, List.set_cons_succ]
        -- op 7 call
        refine Flow.turnCall rfl rfl 37 ?_ ?_ ?_; rotate_left
        · intro W; go_simp; first | done | rfl
        intro w7 hb hS hd ht
        have hbt7 := hb; obtain ⟨r1, r2⟩ := Ext.rules hb; skip
        have hxw : Ext wr w7 := hb
        have hag7 := HAGR.out.ext hxw
        refine (delete_any B L.length fr tt capv g (flat L) w7 hag7.row hlt t1 (by have h1 := hxw.size; omega) (by omega) (flat_one L)).mono ?_
        rintro e w8 ⟨rfl, hown8, hk8⟩
        have hgg : g < w.heap.size := HROW.out g rfl
        have hga : ¬ a = g := fun e => HNA.out (by rw [e]; rfl)
        have hS8 : w8.cell? ⟨w.heap.size, 0, none⟩ = some (.pointer (some ⟨a, 0, none⟩)) := hk8.at_ hS (fun e => by simp only at e; omega)
        refine ⟨_, rfl, hS8, ?_⟩
        have hblk8 : w8.heap[a]? = some (.cells #[.slice (some ⟨g, 0, none⟩) L.length capv] 85 (0, 0)) := (hk8.block a (lt_of_block hag7.blk) hga).trans hag7.blk
        have c8 : w8.cell? ⟨a, 0, none⟩ = some (.slice (some ⟨g, 0, none⟩) L.length capv) := cell_of_one hblk8
        have f8 : w8.frozen? ⟨a, 0, none⟩ = false := free_of_one hblk8
        have l8 : a < w8.heap.size := lt_of_block hblk8
        have HXW := Lib.hid hxw
        have HO8 := Lib.hid hown8
        have HK8 := Lib.hid hk8
        have HBLK8 := Lib.hid hblk8
        have HGA := Lib.hid hga
        clear hown8 hk8 hblk8 hag7 hbt7 r1 r2 hb hxw hd ht hS hga
        simp only [Act.put, List.setIfInBounds_toArray, List.set_cons_zero, List.set_cons_succ]
        -- op 8 nilCheck
        refine Flow.free rfl rfl ?_ ?_ ?_; rotate_left
        · intro W hS; go_simp; (try go_ints); (try simp only [↓IntWalk.iteOmega]); first | done | rfl | (refine ⟨?_, ?_⟩ <;> first | rfl | trivial)
        simp only [Act.put, List.setIfInBounds_toArray, List.set_cons_zero, List.set_cons_succ]
        -- op 9 fieldAddr
        refine Flow.free rfl rfl ?_ ?_ ?_; rotate_left
        · intro W hS; go_simp; (try go_ints); (try simp only [↓IntWalk.iteOmega]); first | done | rfl | (refine ⟨?_, ?_⟩ <;> first | rfl | trivial)
        simp only [Act.put, List.setIfInBounds_toArray, List.set_cons_zero, List.set_cons_succ]
        -- op 10 store
        refine Flow.turn rfl rfl (fun w10 hb hS hd ht K hK => ?_)
        have hbt10 := hb; obtain ⟨r1, r2⟩ := Ext.rules hb; skip
        go_simp
        refine hK _ _ ?_ ?_
        · rw [World.cell?_setCell_other _ _ _ _ (fun e => by have e1 := congrArg Addr.block e; simp only at e1; omega)]; exact hS
        clear hK K
        simp only [Act.put]
        refine Flow.nil (fun w11 hb hS hd ht => ?_)
        clear hd ht
        go_wp2
        go_ret
        have hb10 : w10.heap[a]? = some (.cells #[.slice (some ⟨g, 0, none⟩) L.length capv] 85 (0, 0)) := (hbt10.block a l8).trans HBLK8.out
        have hset : Keeps (fun b => b = a) w10 (w10.setCell ⟨a, 0, none⟩ (.slice (some ⟨g, 0, none⟩) (L.length - (tt - fr)) capv)) := Keeps.setCell w10 ⟨a, 0, none⟩ _
        -- what becomes of a row of arguments
        have key : ∀ (B' : Nat) (e : En), ArgsOk wr B' e → ArgsOk w11 B' e := fun B' e he => by
          have h7 := own_ext he HXW.out
          have h8 : ArgsOk w8 B' e := own_keeps h7 HK8.out (fun b hb hb' => own_type_ne he HAGR.out.row (by decide) b hb (by rw [hb']; rfl))
          have h10 : ArgsOk w10 B' e := own_ext h8 hbt10
          have hne : (Value.slice e.A e.args.length e.cap).ownBlock ≠ some a := own_blk_ne h10 hb10 (by decide)
          exact own_ext (own_keeps h10 hset (fun b hb e1 => hne (by rw [hb, e1]))) hb
        have hl2 : (L.filter fun x => !inTake comp tick x).length = L.length - (tt - fr) := by rw [← HRS.out]; simp; omega
        refine ⟨u11, M, .slice (some ⟨g, 0, none⟩) (L.length - (tt - fr)) capv, rfl, ⟨?_, ?_⟩, ?_, ⟨?_, HAGR.out.low, ?_, ?_, ?_⟩, ?_, rfl⟩
        · have h7 := own_ext HI.out.row HXW.out
          have h8 : w8.ownsRow w4.heap.size 35 7 u11 M.length (iflat M) := own_keeps h7 HK8.out (fun b hb hb' => own_type_ne HI.out.row HAGR.out.row (by decide) b hb (by rw [hb']; rfl))
          have h10 := own_ext h8 hbt10
          have hne : u11.ownBlock ≠ some a := own_blk_ne h10 hb10 (by decide)
          exact World.ownsRow.mono (own_ext (own_keeps h10 hset (fun b hb e1 => hne (by rw [hb, e1]))) hb) HX4.out.size
        · intro e he
          exact World.ownsRow.mono (key _ e (HI.out.args e he)) HX4.out.size
        · rw [HM.out.1, List.take_of_length_le (by rw [List.length_take]; omega), HTK.out]
        · exact (hb.block a (by simpa using lt_of_block hb10)).trans (one_setCell hb10)
        · have hfl : flat (L.filter fun x => !inTake comp tick x) = (flat L).take (fr * 8) ++ (flat L).drop (tt * 8) := by
            rw [← HRS.out, flat_append, flat_take, flat_drop]
          rw [hl2, hfl]
          have hne : (Value.slice (some ⟨g, 0, none⟩) (L.length - (tt - fr)) capv).ownBlock ≠ some a := fun e => HGA.out (by simpa [Value.ownBlock] using e.symm)
          exact own_ext (own_keeps (own_ext HO8.out hbt10) hset (fun b hb e1 => hne (by rw [hb, e1]))) hb
        · intro e he
          exact key B e (HAGR.out.args e (List.mem_filter.1 he).1)
        · exact List.Pairwise.filter _ HAGR.out.sorted
        · have k1 : Keeps (own a (.slice (some ⟨g, 0, none⟩) L.length capv)) w w8 := (Keeps.of_ext ((HX4.out.tr HX.out).tr HXW.out)).seq (HK8.out.mono fun b _ hb => .inr (by rw [hb]; rfl))
          exact ((k1.then_ext hbt10).seq (hset.mono fun b _ hb => .inl hb)).then_ext hb
end Go.Proofs.Ytnamppkicefbjaa
