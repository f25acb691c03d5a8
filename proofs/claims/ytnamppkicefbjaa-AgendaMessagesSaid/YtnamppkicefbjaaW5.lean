/- Contract of Add. Own text. -/
import Derived.Test.YtnamppkicefbjaaP1
import Derived.Shelf.Abstract
namespace Go.Proofs.Ytnamppkicefbjaa
open Go.RowKit Go.Flow Go.Mem

set_option maxHeartbeats 1000000 in
set_option maxRecDepth 100000 in
/-- Add of an item that may not be added. -/
theorem add_no (a : Nat) (t s c p n k h : Int) (A : Option Addr) (l cp : Nat) (w : World) (hno : validE t s c p n k h = false) :
    Calls Try.prog 18 #[.pointer (some ⟨a, 0, none⟩), .int .i64 t, .agg #[.int .u8 s, .int .i64 c, .int .i64 p, .int .i64 n, .int .i64 k, .int .i64 h, .slice A l cp]] w fun e w' => e = .returned (.int .i64 1) ∧ Ext w w' := by
  have he : errE t s c p n k h = 1 := by unfold errE; rw [hno]; rfl
  have hc := check_any t s c p n k h A l cp
  rw [he] at hc
  have HC := Lib.hid hc
  clear hc he hno
  go_enter Try.func18, Try.ntmps18
  go_wp2_with (go_at_call 39; refine (HC.out _).mono ?_; rintro e w1 ⟨rfl, hx⟩; have HX := Lib.hid hx; clear hx)
  go_ret
  exact ⟨rfl, ((Ext.new _ _).tr (Ext.new _ _)).tr HX.out⟩

def AddPost (B a : Nat) (v : Value) (L : List En) (x : En) (w : World) (e : Ending) (w' : World) : Prop :=
  e = .returned (.int .i64 0) ∧ ∃ A cap v', Ag w' B a v' (insE { x with A := A, cap := cap } L) ∧ Keeps (own a v) w w' ∧ (v'.ownBlock = v.ownBlock ∨ ∃ g, v'.ownBlock = some g ∧ w.heap.size ≤ g) ∧
    (∀ g, (Value.slice A x.args.length cap).ownBlock = some g → w.heap.size ≤ g)

set_option maxHeartbeats 2000000 in
set_option maxRecDepth 100000 in
theorem add_yes (B a : Nat) (v : Value) (L : List En) (x : En) (w : World) (hA : Ag w B a v L) (hB : B ≤ w.heap.size) (hlen : L.length ≤ 100000000) (hsrc : Src w x.A (ints x.args)) (hal : x.args.length ≤ 1000000000000) (hv : validE x.t x.s x.c x.p x.n x.k x.h = true) :
    Calls Try.prog 18 #[.pointer (some ⟨a, 0, none⟩), .int .i64 x.t, .agg #[.int .u8 x.s, .int .i64 x.c, .int .i64 x.p, .int .i64 x.n, .int .i64 x.k, .int .i64 x.h, .slice x.A x.args.length x.cap]] w (AddPost B a v L x w) := by
  obtain ⟨t, s, c, p, n, k, h, args, A, cp⟩ := x
  simp only at hsrc hal hv ⊢
  have he : errE t s c p n k h = 0 := by unfold errE; rw [hv]; rfl
  have hc := check_any t s c p n k h A args.length cp
  rw [he] at hc
  have HC := Lib.hid hc
  have HS := Lib.hid hsrc
  have HA := Lib.hid hA
  clear hc he hv hsrc hA
  go_enter Try.func18, Try.ntmps18
  go_wp2_with (go_at_call 39; refine (HC.out _).mono ?_; rintro e w1 ⟨rfl, hx⟩; have HX := Lib.hid hx; obtain ⟨r1, r2⟩ := Ext.rules hx; have hz := hx.size; clear hx)
  have hx0 : Ext w w1 := ((Ext.new _ _).tr (Ext.new _ _)).tr HX.out
  refine (clone_any s c p n k h A cp args w1 (HS.out.ext hx0) hal).mono ?_
  rintro e w2 ⟨A2, cap2, rfl, hown2, hx2⟩
  have hx02 : Ext w w2 := hx0.tr hx2
  have hzz : w1.heap.size ≤ w2.heap.size := hx2.size
  simp at hz
  have hba : w2.cell? ⟨w.heap.size, 0, none⟩ = some (.pointer (some ⟨a, 0, none⟩)) := hx2.at_ (by rw [r1 _ _ (by simp; omega)]; simp [go_sem])
  have HO2 := Lib.hid hown2
  have HX02 := Lib.hid hx02
  clear hown2 hx2 hx0 hx02 HX r1 r2 HC HS
  go_wp2
  refine wp_named (fun w3 hw3 => ?_)
  obtain ⟨x', hx'⟩ : ∃ x' : En, x' = { t := t, s := s, c := c, p := p, n := n, k := k, h := h, args := args, A := A2, cap := cap2 } := ⟨_, rfl⟩
  have hcx : x'.cells = [.int .i64 t, .int .u8 s, .int .i64 c, .int .i64 p, .int .i64 n, .int .i64 k, .int .i64 h, .slice A2 args.length cap2] := by rw [hx']; rfl
  have hx3 : Ext w2 w3 := by rw [hw3]; exact Ext.new _ _
  have hbx : w3.heap[w2.heap.size]? = some (.cells [.int .i64 t, .int .u8 s, .int .i64 c, .int .i64 p, .int .i64 n, .int .i64 k, .int .i64 h, .slice A2 args.length cap2].toArray 82 (0, 0)) := by rw [hw3]; exact heap_alloc_new _ _
  have hs3 : w2.heap.size < w3.heap.size := by rw [hw3]; simp
  clear hw3
  have hx03 : Ext w w3 := HX02.out.tr hx3
  have hAg := HA.out.ext hx03
  have hargs : ArgsOk w3 B x' := by
    rw [hx']
    exact own_ext (World.ownsRow.mono HO2.out (by omega)) hx3
  have hba3 := hx3.at_ hba
  obtain ⟨Av, capv, hvv, _, hnc, hcm⟩ := own_form hAg.row
  subst hvv
  have hav : w3.cell? ⟨a, 0, none⟩ = some (.slice Av L.length capv) := cell_of_one hAg.blk
  have hrx := range_of_whole hbx
  have l1 : w.heap.size < w3.heap.size := by omega
  have l2 : a < w3.heap.size := lt_of_block hAg.blk
  have l3 : a < w.heap.size := lt_of_block HA.out.blk
  have hrow : ∀ g, (Value.slice Av L.length capv).ownBlock = some g → g < w.heap.size := fun g hg => (HA.out.row.lt g hg).2
  have hna : (Value.slice Av L.length capv).ownBlock ≠ some a := own_blk_ne HA.out.row HA.out.blk (by decide)
  have eg : ∀ args w, (callFunc 40 args).run Try.prog w = .ok (.enter 40 args) w := enters_of Try.func40 (by kernel_rfl) rfl
  have hsearch : ∀ W, Ext w3 W → Calls Try.prog 35 #[.int .i64 L.length, .func (.func 40) #[] #[.pointer (some ⟨w.heap.size, 0, none⟩), .pointer (some ⟨w2.heap.size, 0, none⟩)]] W
      (SearchPost L.length (fun j => decide (0 < (L.getD j x').cmp x')) W) := fun W hW => by
    refine search_any 40 _ L.length _ W eg (by omega) (fun j W' hj hW' => ?_)
    have hxW : Ext w3 W' := hW.tr hW'
    obtain ⟨g, capg, hform, _⟩ := (hAg.row).form (by omega)
    simp only [Value.slice.injEq] at hform
    obtain ⟨rfl, _, rfl⟩ := hform
    have hr := flat_range (own_range hAg.row) (List.getElem?_eq_getElem hj)
    have hgd : L.getD j x' = L[j] := by simp [hj]
    rw [hgd, hx']
    exact after_any j w.heap.size w2.heap.size a g capv L.length L[j].t L[j].s L[j].c L[j].p L[j].n L[j].k L[j].h L[j].A L[j].args.length L[j].cap t s c p n k h A2 args.length cap2 W' hj (hxW.at_ hba3) (hxW.at_ hav) (hxW.range hr) (hxW.range hrx)
  have HSE := Lib.hid hsearch
  have HAG := Lib.hid hAg
  have HAR := Lib.hid hargs
  have HX3 := Lib.hid hx3
  have HX03 := Lib.hid hx03
  have HBX := Lib.hid hbx
  have HRX := Lib.hid hrx
  have HROW := Lib.hid hrow
  have HNA := Lib.hid hna
  have HXE := Lib.hid hx'
  have HCX := Lib.hid hcx
  clear hsearch hAg hargs hx3 hx03 hbx hrx hrow hna eg hx' hcx hba HA
  refine wp_region_flow (fun W => W.cell? ⟨w.heap.size, 0, none⟩ = some (.pointer (some ⟨a, 0, none⟩))) [⟨0, [], 0⟩, ⟨1, [], 0⟩, ⟨2, [], 0⟩, ⟨3, [], 0⟩, ⟨5, [], 0⟩, ⟨6, [], 0⟩, ⟨7, [], 0⟩, ⟨10, [], 0⟩, ⟨8, [], 1⟩, ⟨9, [], 0⟩, ⟨11, [], 4⟩, ⟨4, [], 1⟩, ⟨12, [], 1⟩, ⟨13, [], 2⟩, ⟨14, [11, 13], 5⟩, ⟨15, [], 0⟩, ⟨16, [], 0⟩, ⟨17, [], 5⟩] (by kernel_rfl) (by kernel_rfl) (fun _ _ h k => Ext.at_ k h) hba3 ?_
  simp only [pick, List.map_cons, List.map_nil, List.getD_cons_zero, List.getD_cons_succ]
  -- op 0 load
  refine Flow.free rfl rfl ?_ ?_ ?_; rotate_left
  · intro W hS; go_simp; (try go_ints); (try simp only [↓IntWalk.iteOmega]); first | done | rfl | (refine ⟨?_, ?_⟩ <;> first | rfl | trivial)
  simp only [Act.put, List.setIfInBounds_toArray, List.set_cons_zero, List.set_cons_succ]
  -- op 1 load
  refine Flow.free rfl rfl ?_ ?_ ?_; rotate_left
  · intro W hS; go_simp; (try go_ints); (try simp only [↓IntWalk.iteOmega]); first | done | rfl | (refine ⟨?_, ?_⟩ <;> first | rfl | trivial)
  simp only [Act.put, List.setIfInBounds_toArray, List.set_cons_zero, List.set_cons_succ]
  -- op 2 nilCheck
  refine Flow.free rfl rfl ?_ ?_ ?_; rotate_left
  · intro W hS; go_simp; (try go_ints); (try simp only [↓IntWalk.iteOmega]); first | done | rfl | (refine ⟨?_, ?_⟩ <;> first | rfl | trivial)
  simp only [Act.put, List.setIfInBounds_toArray, List.set_cons_zero, List.set_cons_succ]
  -- op 3 fieldAddr
  refine Flow.free rfl rfl ?_ ?_ ?_; rotate_left
  · intro W hS; go_simp; (try go_ints); (try simp only [↓IntWalk.iteOmega]); first | done | rfl | (refine ⟨?_, ?_⟩ <;> first | rfl | trivial)
  simp only [Act.put, List.setIfInBounds_toArray, List.set_cons_zero, List.set_cons_succ]
  -- op 5 load
  refine Flow.free rfl rfl ?_ ?_ ?_; rotate_left
  · intro W hS; go_simp; (try go_ints); (try simp only [↓IntWalk.iteOmega]); first | done | rfl | (refine ⟨?_, ?_⟩ <;> first | rfl | trivial)
  simp only [Act.put, List.setIfInBounds_toArray, List.set_cons_zero, List.set_cons_succ]
  -- op 6 nilCheck
  refine Flow.free rfl rfl ?_ ?_ ?_; rotate_left
  · intro W hS; go_simp; (try go_ints); (try simp only [↓IntWalk.iteOmega]); first | done | rfl | (refine ⟨?_, ?_⟩ <;> first | rfl | trivial)
  simp only [Act.put, List.setIfInBounds_toArray, List.set_cons_zero, List.set_cons_succ]
  -- op 7 fieldAddr
  refine Flow.free rfl rfl ?_ ?_ ?_; rotate_left
  · intro W hS; go_simp; (try go_ints); (try simp only [↓IntWalk.iteOmega]); first | done | rfl | (refine ⟨?_, ?_⟩ <;> first | rfl | trivial)
  simp only [Act.put, List.setIfInBounds_toArray, List.set_cons_zero, List.set_cons_succ]
  -- op 10 move
  refine Flow.free rfl rfl ?_ ?_ ?_; rotate_left
  · intro W hS; go_simp; (try go_ints); (try simp only [↓IntWalk.iteOmega]); first | done | rfl | (refine ⟨?_, ?_⟩ <;> first | rfl | trivial)
  simp only [Act.put, List.setIfInBounds_toArray, List.set_cons_zero, List.set_cons_succ]
  -- op 8 load
  refine Flow.read rfl rfl ?_ ?_ ?_; rotate_left
  · intro W hb hS hd; obtain ⟨r1, r2⟩ := Ext.rules hb; go_simp; (try go_ints); (try simp only [↓IntWalk.iteOmega]); first | done | rfl | (refine ⟨?_, ?_⟩ <;> first | rfl | trivial)
  simp only [Act.put, List.setIfInBounds_toArray, List.set_cons_zero, List.set_cons_succ]
  -- op 9 call
  refine Flow.free rfl rfl ?_ ?_ ?_; rotate_left
  · intro W hS; go_simp; (try go_ints); (try simp only [↓IntWalk.iteOmega]); first | done | rfl | (refine ⟨?_, ?_⟩ <;> first | rfl | trivial)
  simp only [Act.put, List.setIfInBounds_toArray, List.set_cons_zero, List.set_cons_succ]
  -- op 11 call
  refine Flow.callMake rfl rfl 35 ?_ ?_ ?_; rotate_left
  · intro W; go_simp; first | done | rfl
  intro w11 hb hS hd
  obtain ⟨r1, r2⟩ := Ext.rules hb; skip
  refine (HSE.out w11 hb).mono ?_
  rintro e w11' ⟨kk, rfl, hk1, hk2, hk3, hxs⟩
  refine ⟨_, rfl, hxs, ?_⟩
  have HK2 := Lib.hid hk2
  have HK3 := Lib.hid hk3
  clear hk2 hk3 hxs hd r1 r2 hS hb
  simp only [Act.put, List.setIfInBounds_toArray, List.set_cons_zero, List.set_cons_succ]
  -- op 4 load
  refine Flow.read rfl rfl ?_ ?_ ?_; rotate_left
  · intro W hb hS hd; obtain ⟨r1, r2⟩ := Ext.rules hb; go_simp; (try go_ints); (try simp only [↓IntWalk.iteOmega]); first | done | rfl | (refine ⟨?_, ?_⟩ <;> first | rfl | trivial)
  simp only [Act.put, List.setIfInBounds_toArray, List.set_cons_zero, List.set_cons_succ]
  -- op 12 load
  refine Flow.readRange rfl rfl rfl rfl (fun W hb hS hd => hb.range HRX.out) Try.underlying82 rfl (by kernel_rfl) ?_
  simp only [Act.put, List.setIfInBounds_toArray, List.set_cons_zero, List.set_cons_succ]
  -- op 13 buildSlice
  refine Flow.make rfl rfl (fun w13 hb hS hd K hK => ?_)
  go_simp
  refine hK _ _ (Ext.new _ _) ?_
  clear hK K hd hS
  have hb13 := hb; clear hb
  simp only [Act.put, List.setIfInBounds_toArray, List.set_cons_zero, List.set_cons_succ]
  -- op 14 call
  refine Flow.turnCall rfl rfl 42 ?_ ?_ ?_; rotate_left
  · intro W; go_simp; first | done | rfl
  intro w14 hb hS hd ht
  have hbt14 := hb; obtain ⟨r1, r2⟩ := Ext.rules hb; have hx11 := hd _ (.tail _ (.head _)); obtain ⟨r1_11, r2_11⟩ := Ext.rules hx11; have hx13 := hd _ (.head _); obtain ⟨r1_13, r2_13⟩ := Ext.rules hx13; have ht11_13 := ht _ (.tail _ (.head _)) _ (.head _) (by simp); have hl13_14 : w13.heap.size < w14.heap.size := Nat.lt_of_lt_of_le (by simp) hx13.size; skip
  have hxw : Ext w3 w14 := hb
  have hgv : w14.heap[w13.heap.size]? = some (.cells x'.cells.toArray 82 (0, 0)) := by
    rw [HCX.out]
    exact (hx13.block _ (by simp)).trans (heap_alloc_new _ _)
  have hag14 := HAG.out.ext hxw
  have hlt13 : w3.heap.size ≤ w13.heap.size := hb13.size
  refine (insert_any B L.length kk (.slice Av L.length capv) (flat L) x'.cells w13.heap.size w14 hag14.row hk1 (by have := hxw.size; omega) (by omega) (by rw [HCX.out]; rfl) hgv (fun e => by have := HROW.out _ e; omega) (fun u hu => flat_one [x'] u (by simpa [flat] using hu)) (flat_one L)).mono ?_
  rintro e w15 ⟨v', rfl, hown15, hk15, hat15⟩
  obtain ⟨A', cap', hv', _, _, _⟩ := own_form hown15
  subst hv'
  have hS15 : w15.cell? ⟨w.heap.size, 0, none⟩ = some (.pointer (some ⟨a, 0, none⟩)) := hk15.at_ hS (fun e => by have := HROW.out _ e; simp only at this; omega)
  refine ⟨_, rfl, hS15, ?_⟩
  have hblk15 : w15.heap[a]? = some (.cells #[.slice Av L.length capv] 85 (0, 0)) := (hk15.block a (lt_of_block hag14.blk) HNA.out).trans hag14.blk
  have c15 : w15.cell? ⟨a, 0, none⟩ = some (.slice Av L.length capv) := cell_of_one hblk15
  have f15 : w15.frozen? ⟨a, 0, none⟩ = false := free_of_one hblk15
  have l15 : a < w15.heap.size := lt_of_block hblk15
  have HXW := Lib.hid hxw
  have HO15 := Lib.hid hown15
  have HK15 := Lib.hid hk15
  have HAT15 := Lib.hid hat15
  have HBLK15 := Lib.hid hblk15
  clear hown15 hk15 hat15 hblk15 hgv hag14 r1_11 r2_11 r1_13 r2_13 hx13 hx11 ht11_13 hbt14 r1 r2 hb hxw hd ht hS
  simp only [Act.put, List.setIfInBounds_toArray, List.set_cons_zero, List.set_cons_succ]
  -- op 15 nilCheck
  refine Flow.free rfl rfl ?_ ?_ ?_; rotate_left
  · intro W hS; go_simp; (try go_ints); (try simp only [↓IntWalk.iteOmega]); first | done | rfl | (refine ⟨?_, ?_⟩ <;> first | rfl | trivial)
  simp only [Act.put, List.setIfInBounds_toArray, List.set_cons_zero, List.set_cons_succ]
  -- op 16 fieldAddr
  refine Flow.free rfl rfl ?_ ?_ ?_; rotate_left
  · intro W hS; go_simp; (try go_ints); (try simp only [↓IntWalk.iteOmega]); first | done | rfl | (refine ⟨?_, ?_⟩ <;> first | rfl | trivial)
  simp only [Act.put, List.setIfInBounds_toArray, List.set_cons_zero, List.set_cons_succ]
  -- op 17 store
  refine Flow.turn rfl rfl (fun w17 hb hS hd ht K hK => ?_)
  have hbt17 := hb; obtain ⟨r1, r2⟩ := Ext.rules hb; skip
  go_simp
  refine hK _ _ ?_ ?_
  · rw [World.cell?_setCell_other _ _ _ _ (fun e => by have e1 := congrArg Addr.block e; simp only at e1; omega)]; exact hS
  clear hK K
  simp only [Act.put]
  refine Flow.nil (fun w18 hb hS hd ht => ?_)
  clear hd ht
  go_wp2
  go_ret
  have hins : L.take kk ++ x' :: L.drop kk = insE x' L := by
    refine ins_at HAG.out.sorted x' kk hk1 (fun hlt => ?_) (fun h0 => ?_)
    · have h1 := HK2.out hlt
      simpa [hlt] using h1
    · have h1 := HK3.out h0
      have h2 : kk - 1 < L.length := by omega
      simpa [h2] using h1
  have hna' : (Value.slice A' (L.length + 1) cap').ownBlock ≠ some a := own_blk_ne HO15.out HBLK15.out (by decide)
  have hb17 : w17.heap[a]? = some (.cells #[.slice Av L.length capv] 85 (0, 0)) := (hbt17.block a l15).trans HBLK15.out
  have hset : Keeps (fun g => g = a) w17 (w17.setCell ⟨a, 0, none⟩ (.slice A' (L.length + 1) cap')) := Keeps.setCell w17 ⟨a, 0, none⟩ _
  have hex : { t := t, s := s, c := c, p := p, n := n, k := k, h := h, args := args, A := A2, cap := cap2 } = x' := HXE.out.symm
  have key : ∀ e : En, ArgsOk w14 B e → ArgsOk w18 B e := fun e he => by
    have h14 := HAG.out.ext HXW.out
    have he15 : ArgsOk w15 B e := own_keeps he HK15.out (fun g hg hg' => own_type_ne he h14.row (by decide) g hg hg')
    have he17 : ArgsOk w17 B e := own_ext he15 hbt17
    have hne : (Value.slice e.A e.args.length e.cap).ownBlock ≠ some a := own_blk_ne he17 hb17 (by decide)
    exact own_ext (own_keeps he17 hset (fun g hg e1 => hne (by rw [hg, e1]))) hb
  refine ⟨rfl, A2, cap2, .slice A' (L.length + 1) cap', ?_, ?_, ?_, ?_⟩
  · show Ag w18 B a (.slice A' (L.length + 1) cap') (insE { t := t, s := s, c := c, p := p, n := n, k := k, h := h, args := args, A := A2, cap := cap2 } L)
    rw [hex]
    refine ⟨?_, HAG.out.low, ?_, ?_, insE_sorted HAG.out.sorted⟩
    · exact (hb.block a (by simpa using lt_of_block hb17)).trans (one_setCell hb17)
    · have hl : (insE x' L).length = L.length + 1 := by rw [← hins]; simp; omega
      have hfl : flat (insE x' L) = (flat L).take (kk * 8) ++ x'.cells ++ (flat L).drop (kk * 8) := by
        rw [← hins, flat_append, flat_take, flat_drop, List.append_assoc]; rfl
      rw [hl, hfl]
      exact own_ext (own_keeps (own_ext HO15.out hbt17) hset (fun g hg e1 => hna' (by rw [hg, e1]))) hb
    · intro e he
      rcases List.mem_append.1 he with h1 | h1
      · exact key e ((HAG.out.ext HXW.out).args e (List.mem_filter.1 h1).1)
      · rcases List.mem_cons.1 h1 with rfl | h1
        · exact key _ (own_ext HAR.out HXW.out)
        · exact key e ((HAG.out.ext HXW.out).args e (List.mem_filter.1 h1).1)
  · have k1 : Keeps (own a (.slice Av L.length capv)) w w15 := (Keeps.of_ext (HX03.out.tr HXW.out)).seq (HK15.out.mono fun g _ hg => .inr hg)
    exact ((k1.then_ext hbt17).seq (hset.mono fun g _ hg => .inl hg)).then_ext hb
  · refine HAT15.out.imp id fun ⟨g, h1, h2⟩ => ⟨g, h1, ?_⟩
    have := (HX03.out.tr HXW.out).size
    omega
  · intro g hg
    have := (HO2.out.lt g hg).1
    omega
end Go.Proofs.Ytnamppkicefbjaa
