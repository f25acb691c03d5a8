/- Contract of AgendaKeeps. Own text. -/
import Derived.Test.YtnamppkicefbjaaW11
namespace Go.Proofs.Ytnamppkicefbjaa
open Go.RowKit Go.Flow Go.Mem

set_option maxHeartbeats 2000000 in
set_option maxRecDepth 100000 in
theorem keeps_any (A : Option Addr) (cp : Nat) (xs : List Int) (b : Int) (w : World) (hs : Src w A (ints xs)) (hl : xs.length ≤ 9223372036854775807) (hlc : xs.length ≤ cp) (hb0 : 0 ≤ b) (hb1 : b < 256) :
    Calls Try.prog 4 #[.slice A xs.length cp, .int .u8 b] w fun e w' => e = .returned (.bool true) ∧ Ext w w' := by
  obtain ⟨i0, hi, hz0, hz1, hz2⟩ := info_parts info2
  have HS := Lib.hid hs
  clear hs
  go_enter Try.func4, Try.ntmps4
  go_wp2_with fail
  refine (awake_any _).mono ?_
  rintro e w1 ⟨rfl, hx1⟩
  have HX1 := Lib.hid hx1
  clear hx1
  obtain ⟨m, hm⟩ : ∃ m, m = min xs.length 4 := ⟨_, rfl⟩
  have hm4 : m ≤ 4 := by omega
  have hml : m ≤ xs.length := by omega
  have hmin : (if (4 : Int) < (xs.length : Int) then (4 : Int) else (xs.length : Int)) = (m : Int) := by split <;> omega
  have hsrc : Src w1 A (ints (xs.take m)) := by
    rcases HS.out.ext HX1.out with h | ⟨g, off, h1, h2⟩
    · left
      have : xs = [] := by simpa using h
      rw [this]; simp
    · exact .inr ⟨g, off, h1, by rw [ints, List.map_take]; exact range_take h2⟩
  have hyl : (xs.take m).length = m := by rw [List.length_take]; omega
  have HSRC := Lib.hid hsrc
  generalize xs.take m = ys at *
  clear hsrc HS hm
  subst hyl
  go_wp2_with (at_builtin; refine wpList_append_from _ rfl rfl w1.heap.size 2 i0 (.int .i64 0) 1 8 Try.underlying28 hi hz0 hz1 hz2 rfl (by decide) (.slice (some ⟨w1.heap.size, 0, none⟩) 0 0) 0 [] rfl ?c0 A ys.length cp (ints ys) rfl ?cl ?c1 (ints_one ys) ?c2 ?c3 ?c4 ?_)
  case c0 => exact World.ownsRow_lit w1 #[] 0 (Nat.le_refl _) (by simp [maxLen]) rfl
  case cl => simp
  case c1 => exact HSRC.out.ext (Ext.new _ _)
  case c2 => simp only [maxLen]; omega
  case c3 => omega
  case c4 => simp
  intro v2 w2 hown hk _
  have hx2 : Ext w w2 := HX1.out.tr (((Keeps.of_ext (Ext.new w1 _)).seq hk).ext (fun i h1 h2 => by simp [Value.ownBlock] at h2; omega))
  have hs12 : w1.heap.size ≤ w2.heap.size := (((Keeps.of_ext (Ext.new w1 _)).seq hk).ext (fun i h1 h2 => by simp [Value.ownBlock] at h2; omega)).size
  try simp only [Nat.zero_add, List.nil_append] at hown
  obtain ⟨A2, p2, hv, hs2, _, _⟩ := own_form hown
  subst hv
  have HO2 := Lib.hid hown
  have HX2 := Lib.hid hx2
  have HS2 := Lib.hid hs2
  have hs01 := HX1.out.size
  clear hown hk hx2 hs2 HSRC HX1 hmin
  go_wp2_with (at_builtin; refine wpList_append_from _ rfl rfl w2.heap.size 2 i0 (.int .i64 0) 1 8 Try.underlying28 hi hz0 hz1 hz2 rfl (by decide) (.slice (some ⟨w2.heap.size, 0, none⟩) 0 0) 0 [] rfl ?d0 A2 ys.length p2 (ints ys) rfl ?dl ?d1 (ints_one ys) ?d2 ?d3 ?d4 ?_)
  case d0 => exact World.ownsRow_lit w2 #[] 0 (Nat.le_refl _) (by simp [maxLen]) rfl
  case dl => simp
  case d1 => exact HS2.out.ext (Ext.new _ _)
  case d2 => simp only [maxLen]; omega
  case d3 => omega
  case d4 => simp
  intro v3 w3 hown hk _
  have hx23 : Ext w2 w3 := (((Keeps.of_ext (Ext.new w2 _)).seq hk).ext (fun i h1 h2 => by simp [Value.ownBlock] at h2; omega))
  try simp only [Nat.zero_add, List.nil_append] at hown
  obtain ⟨A3, p3, hv, -, _, _⟩ := own_form hown
  subst hv
  have HO3 := Lib.hid hown
  have HX3 := Lib.hid (HX2.out.tr hx23)
  have HV3 := Lib.hid (own_ext HO2.out hx23)
  have hgv : ∀ g, (Value.slice A2 ys.length p2).ownBlock = some g → w1.heap.size ≤ g ∧ g < w2.heap.size := fun g hg => HO2.out.lt g hg
  have HGV := Lib.hid hgv
  have hgw : ∀ g, (Value.slice A3 ys.length p3).ownBlock = some g → w2.heap.size ≤ g ∧ g < w3.heap.size := fun g hg => HO3.out.lt g hg
  have HGW := Lib.hid hgw
  have hs23 := hx23.size
  clear hown hk hx23 hgv hgw HO2 HX2 HS2
  go_wp2_with fail
  refine (new_any _).mono ?_
  rintro e w4 ⟨rfl, hA4, hx34, -⟩
  have HA4 := Lib.hid hA4
  have HX4 := Lib.hid (HX3.out.tr hx34)
  have HO4 := Lib.hid (own_ext HO3.out hx34)
  have HV4 := Lib.hid (own_ext HV3.out hx34)
  have hs34 := hx34.size
  clear hA4 hx34 HO3 HV3 HX3
  go_wp2_with fail
  have hsv : Src w4 A2 (ints ys) := by
    obtain ⟨A1, c1', hv1, hs1, _, _⟩ := own_form HV4.out
    simp only [Value.slice.injEq] at hv1
    rw [hv1.1]
    exact hs1
  have hc1 := add_yes w3.heap.size w3.heap.size (.slice none 0 0) [] ⟨b, 4, 0, 0, 0, 0, 0, ys, A2, p2⟩ w4 HA4.out hs34 (by simp) hsv (by simp only; omega) (by simp [validE, hb0])
  refine Calls.mono hc1 ?_
  clear hc1 hsv
  rintro e w5 ⟨rfl, A5, p5, v5, hA5, hk5, -, -⟩
  have hL5 : insE ⟨b, 4, 0, 0, 0, 0, 0, ys, A5, p5⟩ [] = [⟨b, 4, 0, 0, 0, 0, 0, ys, A5, p5⟩] := rfl
  simp only [hL5] at hA5
  have hlow4 : ∀ g, own w3.heap.size (Value.slice none 0 0) g → w3.heap.size ≤ g := HA4.out.own_low
  have HX5 := Lib.hid (HA4.out.turned HX4.out (by omega) hk5)
  have HA5 := Lib.hid hA5
  have HO5 := Lib.hid (own_keeps HO4.out hk5 (fun g hg hx => by have h1 := hlow4 g hx; have h2 := HGW.out g hg; omega))
  have HV5 := Lib.hid (own_keeps HV4.out hk5 (fun g hg hx => by have h1 := hlow4 g hx; have h2 := HGV.out g hg; omega))
  have hs45 := hk5.size
  clear hA5 hk5 hlow4 HA4 HX4 HO4 HV4
  go_wp2_with fail
  go_loopg [7, 34] ys.length (fun kx _ s34 wr => ∃ (kk : Nat) (zs : List Int), kk ≤ ys.length ∧ ys.length - kk ≤ kx ∧ s34 = .int .i64 kk ∧ Hid (wr.ownsRow w1.heap.size 2 1 (.slice A2 ys.length p2) ys.length (ints zs)) ∧ Hid (Keeps (fun g => (Value.slice A2 ys.length p2).ownBlock = some g) w5 wr))
  case atStart => exact ⟨0, ys, Nat.zero_le _, by omega, rfl, HV5.out, Keeps.refl _ _⟩
  case round =>
    obtain ⟨kk, zs, hkk, hkx, rfl, HR, HK⟩ := hrel
    by_cases hlt : kk < ys.length
    · obtain ⟨gv, cgv, hform, _⟩ := (HR.out).form (by omega)
      simp only [Value.slice.injEq] at hform
      obtain ⟨rfl, _, rfl⟩ := hform
      have hzl : zs.length = ys.length := by have := HR.out.1; simpa using this
      obtain ⟨z, hz⟩ : ∃ z, z = zs[kk]'(by omega) := ⟨_, rfl⟩
      have c0 : wr.cell? ⟨gv, kk, none⟩ = some (.int .i64 z) := by
        rw [HR.out.cellAt kk (by omega), hz]; simp [ints, hzl, hlt]
      have f0 : wr.frozen? ⟨gv, kk, none⟩ = false := HR.out.frozenAt _
      clear hz
      go_wp2
      go_roundg (ys.length - (kk + 1))
      case measure => omega
      case rel =>
        have h1 := (HR.out.stored kk (.int .i64 (wrap64 (z + 1)))).1
        have h2 : (ints zs).set kk (.int .i64 (wrap64 (z + 1))) = ints (zs.set kk (wrap64 (z + 1))) := by simp [ints]
        rw [h2] at h1
        exact ⟨kk + 1, zs.set kk (wrap64 (z + 1)), by omega, Nat.le_refl _, by go_num, h1, HK.out.seq ((Keeps.setCell wr ⟨gv, kk, none⟩ _).mono fun g _ hg => by rw [hg]; rfl)⟩
    · obtain rfl : kk = ys.length := by omega
      have hA6 : Ag wr w3.heap.size w3.heap.size v5 [⟨b, 4, 0, 0, 0, 0, 0, ys, A5, p5⟩] := by
        refine HA5.out.keeps HK.out (fun h => ?_) (fun g hg h => ?_) (fun e he g hg h => ?_)
        · have := HGV.out _ h; omega
        · have h1 := HGV.out _ h; have h2 := HA5.out.row.lt g hg; omega
        · have h1 := HGV.out _ h; have h2 := (HA5.out.args e he).lt g hg; omega
      have HA6 := Lib.hid hA6
      have HX6 := Lib.hid (((Keeps.of_ext HX5.out).seq HK.out).ext (fun i h1 h2 => by have := HGV.out _ h2; omega))
      have HO6 := Lib.hid (own_keeps HO5.out HK.out (fun g hg hx => by have h1 := HGV.out g hx; have h2 := HGW.out g hg; omega))
      have hs56 := HK.out.size
      clear hA6 HA5 HX5 HO5 HK HR HV5 hkk hkx
      go_wp2_with fail
      have hc1 := copy_any w3.heap.size w3.heap.size v5 _ wr HA6.out (by simp) (by simp; omega)
      refine Calls.mono hc1 ?_
      clear hc1
      rintro e w7 ⟨a7, v7, L7, rfl, hA7, hL7, hx7⟩
      have HA7 := Lib.hid hA7
      have HAa := Lib.hid (HA6.out.ext hx7)
      have HX7 := Lib.hid (HX6.out.tr hx7)
      have HO7 := Lib.hid (own_ext HO6.out hx7)
      have hs67 := hx7.size
      have hl7 : ∃ x7, L7 = [x7] ∧ x7.t = b ∧ x7.c = 0 ∧ x7.args = ys := by
        have hl := congrArg List.length hL7
        simp at hl
        match L7, hl, hL7 with
        | [x7], _, h => 
          simp only [List.map_cons, List.map_nil, List.cons.injEq, and_true] at h
          exact ⟨x7, rfl, congrArg En.t h, congrArg En.c h, congrArg En.args h⟩
      obtain ⟨x7, rfl, ht7, hc7, ha7⟩ := hl7
      have hlt6 : ∀ g, own w3.heap.size v5 g → g < wr.heap.size := fun g hg => by
        rcases hg with rfl | hg
        · exact lt_of_block HA6.out.blk
        · exact (HA6.out.row.lt g hg).2
      have HLT6 := Lib.hid hlt6
      have hlt7 : a7 < w7.heap.size ∧ (∀ g, v7.ownBlock = some g → g < w7.heap.size) ∧ ∀ e ∈ [x7], ∀ g, (Value.slice e.A e.args.length e.cap).ownBlock = some g → g < w7.heap.size := ⟨lt_of_block HA7.out.blk, fun g hg => (HA7.out.row.lt g hg).2, fun e he g hg => ((HA7.out.args e he).lt g hg).2⟩
      have HLT7 := Lib.hid hlt7
      clear hA7 hL7 hx7 HA6 HX6 HO6 hlt6 hlt7
      go_wp2_with fail
      have hc1 := take_any w3.heap.size w3.heap.size v5 _ b 0 w7 HAa.out (by omega) (by simp) (by simp; omega)
      refine Calls.mono hc1 ?_
      clear hc1
      rintro e w8 ⟨u, M, v8, rfl, hI, hM, hA8, hk8, -⟩
      have hf : ([⟨b, 4, 0, 0, 0, 0, 0, ys, A5, p5⟩] : List En).filter (inTake 0 b) = [⟨b, 4, 0, 0, 0, 0, 0, ys, A5, p5⟩] := by simp [inTake]
      rw [hf] at hM
      obtain ⟨m1, rfl, hm1⟩ : ∃ m1, M = [m1] ∧ m1.args = ys := by
        have hl := congrArg List.length hM
        simp at hl
        match M, hl, hM with
        | [m1], _, h =>
          simp only [List.map_cons, List.map_nil, List.cons.injEq, and_true] at h
          exact ⟨m1, rfl, congrArg En.args h⟩
      have hlow7 : ∀ g, own w3.heap.size v5 g → w3.heap.size ≤ g := HAa.out.own_low
      have HA8 := Lib.hid (HA7.out.keeps hk8 (fun h => by have h1 := HLT6.out _ h; have h2 := HA7.out.low; omega) (fun g hg h => by have h1 := HLT6.out _ h; have h2 := HA7.out.row.lt g hg; omega) (fun e he g hg h => by have h1 := HLT6.out _ h; have h2 := (HA7.out.args e he).lt g hg; omega))
      have HO8 := Lib.hid (own_keeps HO7.out hk8 (fun g hg hx => by have h1 := hlow7 g hx; have h2 := HGW.out g hg; omega))
      have HX8 := Lib.hid (HAa.out.turned HX7.out (by omega) hk8)
      have hs78 := hk8.size
      obtain ⟨gl, cl, hform, hgl⟩ := hI.row.form (by simp)
      subst hform
      have hcl : w8.cell? ⟨gl, 6, none⟩ = some (.slice m1.A m1.args.length m1.cap) := own_range hI.row 6 _ rfl
      have harg : ArgsOk w8 w7.heap.size m1 := hI.args m1 List.mem_cons_self
      unfold ArgsOk at harg
      have hgl2 : ∀ g, (Value.slice m1.A m1.args.length m1.cap).ownBlock = some g → g ≠ gl := fun g hg e => own_type_ne harg hI.row (by decide) g hg (by rw [e]; rfl)
      rw [hm1] at hcl harg hgl2
      have HARG := Lib.hid harg
      have HGL := Lib.hid hgl2
      have hlow8 : ∀ g, (Value.slice m1.A ys.length m1.cap).ownBlock = some g → w7.heap.size ≤ g := fun g hg => (harg.lt g hg).1
      have HLOW8 := Lib.hid hlow8
      clear hI hM hA8 hk8 hf hlow7 harg hgl2 hlow8 HA7 HO7 HX7 HAa hgl
      generalize m1.A = A8 at *
      generalize m1.cap = p8 at *
      rw [show [m1].length = 1 from rfl]
      clear hm1 m1
      go_wp2_with fail
      have hs1 : Src w8 A8 (ints ys) := by
        obtain ⟨A1, c1', hv1, hs1, _, _⟩ := own_form HARG.out
        simp only [Value.slice.injEq] at hv1
        rw [hv1.1]
        exact hs1
      have hs3 : Src w8 A3 (ints ys) := by
        obtain ⟨A1, c1', hv1, hs1, _, _⟩ := own_form HO8.out
        simp only [Value.slice.injEq] at hv1
        rw [hv1.1]
        exact hs1
      have hc1 := args_any A8 A3 p8 p3 ys ys w8 hs1 hs3 (by omega)
      refine Calls.mono hc1 ?_
      clear hc1 hs1 hs3
      rintro e w9 ⟨rfl, hx9⟩
      have HA9 := Lib.hid (HA8.out.ext hx9)
      have HO9 := Lib.hid (own_ext HO8.out hx9)
      have HX9 := Lib.hid (HX8.out.tr hx9)
      have HARG9 := Lib.hid (own_ext HARG.out hx9)
      have hcl9 := hx9.at_ hcl
      have hs89 := hx9.size
      have hdec : decide (ys = ys) = true := by simp
      simp only [hdec]
      clear hx9 hcl HA8 HO8 HX8 HARG hdec
      go_wp2_with fail
      go_loopg [10, 67] ys.length (fun kx _ s67 wq => ∃ (kk : Nat) (zs : List Int), kk ≤ ys.length ∧ ys.length - kk ≤ kx ∧ s67 = .int .i64 kk ∧ Hid (wq.ownsRow w7.heap.size 2 1 (.slice A8 ys.length p8) ys.length (ints zs)) ∧ Hid (Keeps (fun g => (Value.slice A8 ys.length p8).ownBlock = some g) w9 wq))
      case atStart => exact ⟨0, ys, Nat.zero_le _, by omega, rfl, HARG9.out, Keeps.refl _ _⟩
      case round =>
        obtain ⟨kk, zs, hkk, hkx, rfl, HR, HK⟩ := hrel
        by_cases hlt : kk < ys.length
        · obtain ⟨gv, cgv, hform, _⟩ := (HR.out).form (by omega)
          simp only [Value.slice.injEq] at hform
          obtain ⟨rfl, _, rfl⟩ := hform
          have hzl : zs.length = ys.length := by have := HR.out.1; simpa using this
          obtain ⟨z, hz⟩ : ∃ z, z = zs[kk]'(by omega) := ⟨_, rfl⟩
          have c0 : wr.cell? ⟨gv, kk, none⟩ = some (.int .i64 z) := by
            rw [HR.out.cellAt kk (by omega), hz]; simp [ints, hzl, hlt]
          have f0 : wr.frozen? ⟨gv, kk, none⟩ = false := HR.out.frozenAt _
          have c6 : wr.cell? ⟨gl, 6, none⟩ = some (.slice (some ⟨gv, 0, none⟩) ys.length p8) := HK.out.at_ hcl9 (fun h => HGL.out _ h rfl)
          clear hz
          go_wp2
          go_roundg (ys.length - (kk + 1))
          case measure => omega
          case rel =>
            have h1 := (HR.out.stored kk (.int .i64 (wrap64 (z - 5)))).1
            have h2 : (ints zs).set kk (.int .i64 (wrap64 (z - 5))) = ints (zs.set kk (wrap64 (z - 5))) := by simp [ints]
            rw [h2] at h1
            exact ⟨kk + 1, zs.set kk (wrap64 (z - 5)), by omega, Nat.le_refl _, by go_num, h1, HK.out.seq ((Keeps.setCell _ ⟨gv, kk, none⟩ _).mono fun g _ hg => by rw [hg]; rfl)⟩
        · obtain rfl : kk = ys.length := by omega
          have HA10 := Lib.hid (HA9.out.keeps HK.out (fun h => by have h1 := HLOW8.out _ h; have h2 := HLT7.out.1; omega) (fun g hg h => by have h1 := HLOW8.out _ h; have h2 := HLT7.out.2.1 g hg; omega) (fun e he g hg h => by have h1 := HLOW8.out _ h; have h2 := HLT7.out.2.2 e he g hg; omega))
          have HX10 := Lib.hid (((Keeps.of_ext HX9.out).seq HK.out).ext (fun i h1 h2 => by have := HLOW8.out _ h2; omega))
          have HO10 := Lib.hid (own_keeps HO9.out HK.out (fun g hg hx => by have h1 := HLOW8.out g hx; have h2 := HGW.out g hg; omega))
          have hs910 := HK.out.size
          clear HA9 HX9 HO9 HK HR HARG9 hkk hkx hcl9
          go_wp2_with fail
          have hc1 := take_any _ a7 v7 _ b 0 _ HA10.out (by omega) (by simp) (by simp [ha7]; omega)
          refine Calls.mono hc1 ?_
          clear hc1
          rintro e w11 ⟨u, M, v11, rfl, hI, hM, hA11, hk11, -⟩
          have hf : [x7].filter (inTake 0 b) = [x7] := by simp [inTake, ht7, hc7]
          rw [hf] at hM
          obtain ⟨m1, rfl, hm1⟩ : ∃ m1, M = [m1] ∧ m1.args = ys := by
            have hl := congrArg List.length hM
            simp at hl
            match M, hl, hM with
            | [m1], _, h =>
              simp only [List.map_cons, List.map_nil, List.cons.injEq, and_true] at h
              exact ⟨m1, rfl, (congrArg En.args h).trans ha7⟩
          have hlow10 := HA10.out.own_low
          have HO11 := Lib.hid (own_keeps HO10.out hk11 (fun g hg hx => by have h1 := hlow10 g hx; have h2 := HGW.out g hg; omega))
          have HX11 := Lib.hid (HA10.out.turned HX10.out (by omega) hk11)
          obtain ⟨gm, cm, hform, hgm⟩ := hI.row.form (by simp)
          subst hform
          have hcm : w11.cell? ⟨gm, 6, none⟩ = some (.slice m1.A m1.args.length m1.cap) := own_range hI.row 6 _ rfl
          have harg : ArgsOk w11 _ m1 := hI.args m1 List.mem_cons_self
          unfold ArgsOk at harg
          rw [hm1] at hcm harg
          have HARG := Lib.hid harg
          clear hI hM hA11 hk11 hf hlow10 harg HA10 HO10 HX10 hgm
          generalize m1.A = A11 at *
          generalize m1.cap = p11 at *
          rw [show [m1].length = 1 from rfl]
          clear hm1 m1
          go_wp2_with fail
          have hs1 : Src w11 A11 (ints ys) := by
            obtain ⟨A1, c1', hv1, hs1, _, _⟩ := own_form HARG.out
            simp only [Value.slice.injEq] at hv1
            rw [hv1.1]
            exact hs1
          have hs3 : Src w11 A3 (ints ys) := by
            obtain ⟨A1, c1', hv1, hs1, _, _⟩ := own_form HO11.out
            simp only [Value.slice.injEq] at hv1
            rw [hv1.1]
            exact hs1
          have hc1 := args_any A11 A3 p11 p3 ys ys w11 hs1 hs3 (by omega)
          refine Calls.mono hc1 ?_
          clear hc1 hs1 hs3
          rintro e w12 ⟨rfl, hx12⟩
          have hdec : decide (ys = ys) = true := by simp
          simp only [hdec]
          go_wp2
          go_ret
          exact ⟨rfl, HX11.out.tr hx12⟩
end Go.Proofs.Ytnamppkicefbjaa
