/- Contract of the reference's Add. Own text. -/
import Derived.Test.YtnamppkicefbjaaP3
namespace Go.Proofs.Ytnamppkicefbjaa
open Go.RowKit Go.Flow Go.Mem

theorem info30 : (Try.prog.info? 30).map (fun i => (i.zero, i.size, i.bytes)) = some (some (.agg #[.int .i64 0, .int .i64 0, .int .i64 0, .int .i64 0, .int .i64 0, .int .i64 0, .int .i64 0, .slice none 0 0]), 8, 80) := by kernel_rfl

def En.rcells (e : En) : List Value := [.int .i64 e.t, .int .i64 e.s, .int .i64 e.c, .int .i64 e.p, .int .i64 e.n, .int .i64 e.k, .int .i64 e.h, .slice e.A e.args.length e.cap]
def rflat (L : List En) : List Value := L.flatMap En.rcells
theorem rflat_length (L : List En) : (rflat L).length = L.length * 8 := by
  unfold rflat
  induction L with
  | nil => rfl
  | cons e L ih => rw [List.flatMap_cons, List.length_append, ih]; simp [En.rcells]; omega
theorem rflat_append (L M : List En) : rflat (L ++ M) = rflat L ++ rflat M := by simp [rflat]
theorem rcells_one (e : En) : ∀ u ∈ e.rcells, u.oneCell' = true := by
  intro u he
  simp only [En.rcells, List.mem_cons, List.not_mem_nil, or_false] at he
  rcases he with rfl | rfl | rfl | rfl | rfl | rfl | rfl | rfl <;> rfl
theorem rflat_drop (L : List En) (k : Nat) : (rflat L).drop (k * 8) = rflat (L.drop k) := by
  by_cases hk : k ≤ L.length
  · conv => lhs; rw [← List.take_append_drop k L, rflat_append]
    have : k * 8 = (rflat (L.take k)).length := by rw [rflat_length, List.length_take]; omega
    rw [this, List.drop_left]
  · rw [List.drop_of_length_le (by rw [rflat_length]; omega), List.drop_of_length_le (by omega)]; rfl
theorem rflat_range {w : World} {g : Nat} {L : List En} (h : w.rangeAt g 0 (rflat L)) {j : Nat} {e : En} (hj : L[j]? = some e) : w.rangeAt g (j * 8) e.rcells := by
  have h1 := range_take (k := 8) (range_drop (off := j * 8) h rfl)
  rw [rflat_drop] at h1
  have hlt : j < L.length := (List.getElem?_eq_some_iff.1 hj).1
  have he : L[j] = e := (List.getElem?_eq_some_iff.1 hj).2
  rw [List.drop_eq_getElem_cons hlt, he] at h1
  have : (rflat (e :: L.drop (j + 1))).take 8 = e.rcells := by
    show (e.rcells ++ rflat (L.drop (j + 1))).take 8 = e.rcells
    rw [List.take_append_of_le_length (by simp [En.rcells])]
    rfl
  rw [this] at h1
  exact h1

/-- A list of the reference in memory. -/
structure RL (w : World) (B : Nat) (v : Value) (l : List En) : Prop where
  row : w.ownsRow B 30 8 v l.length (rflat l)
  args : ∀ e ∈ l, ArgsOk w B e
theorem RL.ext {w w' : World} {B : Nat} {v : Value} {l : List En} (h : RL w B v l) (k : Ext w w') : RL w' B v l := ⟨own_ext h.row k, fun e he => own_ext (h.args e he) k⟩
theorem RL.nil (w : World) (B : Nat) : RL w B (.slice none 0 0) [] := ⟨World.ownsRow_nil _ _ _ _, fun _ he => (List.not_mem_nil he).elim⟩
/-- What an agenda's call turns is none of a row of arguments. -/
theorem ArgsOk.turned {w w' : World} {B B' a : Nat} {v : Value} {L : List En} {e : En} (h : ArgsOk w B e) (hA : Ag w B' a v L) (k : Keeps (own a v) w w') : ArgsOk w' B e := by
  refine own_keeps h k (fun g hg hx => ?_)
  rcases hx with rfl | hx
  · exact own_blk_ne h hA.blk (by decide) hg
  · exact own_type_ne h hA.row (by decide) g hg hx
theorem RL.turned {w w' : World} {B B' a : Nat} {v u : Value} {L l : List En} (h : RL w B u l) (hA : Ag w B' a v L) (k : Keeps (own a v) w w') : RL w' B u l := by
  refine ⟨own_keeps h.row k (fun g hg hx => ?_), fun e he => (h.args e he).turned hA k⟩
  rcases hx with rfl | hx
  · exact own_blk_ne h.row hA.blk (by decide) hg
  · exact own_type_ne h.row hA.row (by decide) g hg hx

def RAddPost (B : Nat) (l : List En) (x : En) (w : World) (e : Ending) (w' : World) : Prop :=
  ∃ v', e = .returned v' ∧ RL w' B v' (insW x l) ∧ Ext w w'

set_option maxHeartbeats 2000000 in
set_option maxRecDepth 100000 in
theorem radd_any (B : Nat) (v : Value) (l : List En) (x : En) (w : World) (hR : RL w B v l) (hxa : ArgsOk w B x) (hB : B ≤ w.heap.size) (hlen : l.length ≤ 100000000) :
    Calls Try.prog 32 #[v, .agg #[.int .i64 x.t, .int .i64 x.s, .int .i64 x.c, .int .i64 x.p, .int .i64 x.n, .int .i64 x.k, .int .i64 x.h, .slice x.A x.args.length x.cap]] w (RAddPost B l x w) := by
  obtain ⟨i0, hi, hz0, hz1, hz2⟩ := info_parts info30
  obtain ⟨Av, capv, hvv, _, hnc, hcm⟩ := own_form hR.row
  subst hvv
  have HR := Lib.hid hR
  have HXA := Lib.hid hxa
  clear hR hxa
  go_enter Try.func32, Try.ntmps32
  go_wp2
  refine wp_named (fun w2 hw2 => ?_)
  obtain ⟨w1, hw1⟩ : ∃ w1, w1 = w.alloc (Obj.cells #[.int .i64 x.t, .int .i64 x.s, .int .i64 x.c, .int .i64 x.p, .int .i64 x.n, .int .i64 x.k, .int .i64 x.h, .slice x.A x.args.length x.cap] 30) := ⟨_, rfl⟩
  rw [← hw1] at hw2
  have hx1 : Ext w w1 := by rw [hw1]; exact Ext.new _ _
  have hbx : w1.heap[w.heap.size]? = some (.cells x.rcells.toArray 30 (0, 0)) := by rw [hw1]; exact heap_alloc_new _ _
  have hz12 : w1.heap.size = w.heap.size + 1 := by rw [hw1]; simp
  have HBX := Lib.hid (range_of_whole hbx)
  have HX1 := Lib.hid hx1
  have hrow2 : w2.ownsRow w1.heap.size 30 8 (.slice (some ⟨w.heap.size + 1, 0, none⟩) 0 0) 0 (rflat []) := by rw [hw2, ← hz12]; exact World.ownsRow_lit w1 #[] 0 (Nat.le_refl _) (by simp [maxLen]) rfl
  have hx12 : Ext w1 w2 := by rw [hw2]; exact Ext.new _ _
  have HROW2 := Lib.hid hrow2
  have HX12 := Lib.hid hx12
  have HZ := Lib.hid hz12
  clear hw1 hw2 hx1 hbx hrow2 hx12 hz12
  go_loopg [5, 6, 8, 12] l.length (fun kx s5 s6 _ s12 wr => ∃ (kk : Nat) (O : List En) (d : Bool), kk ≤ l.length ∧ l.length - kk ≤ kx ∧ s12 = .int .i64 kk ∧ s6 = .bool d ∧ O.length ≤ kk + 1 ∧ Hid (wr.ownsRow w1.heap.size 30 8 s5 O.length (rflat O)) ∧ Hid (Ext w1 wr) ∧ Hid ((d = false → O = l.take kk ∧ ∀ y ∈ l.take kk, bef x y = false) ∧ (d = true → O ++ l.drop kk = insW x l)))
  case atStart => exact ⟨0, [], false, Nat.zero_le _, by omega, rfl, rfl, by simp, HROW2.out, HX12.out, (⟨fun _ => ⟨rfl, by simp⟩, fun h => by cases h⟩ : (false = false → [] = l.take 0 ∧ ∀ y ∈ l.take 0, bef x y = false) ∧ (false = true → [] ++ l.drop 0 = insW x l))⟩
  case round =>
    obtain ⟨kk, O, d, hkk, hkx, rfl, rfl, hOl, HO, HX, HM⟩ := hrel
    have hrx := HX.out.range HBX.out
    have b0 : wr.cell? ⟨w.heap.size, 0, none⟩ = some (.int .i64 x.t) := hrx 0 _ rfl
    have b1 : wr.cell? ⟨w.heap.size, 1, none⟩ = some (.int .i64 x.s) := hrx 1 _ rfl
    have b2 : wr.cell? ⟨w.heap.size, 2, none⟩ = some (.int .i64 x.c) := hrx 2 _ rfl
    have b3 : wr.cell? ⟨w.heap.size, 3, none⟩ = some (.int .i64 x.p) := hrx 3 _ rfl
    have b4 : wr.cell? ⟨w.heap.size, 4, none⟩ = some (.int .i64 x.n) := hrx 4 _ rfl
    have b5 : wr.cell? ⟨w.heap.size, 5, none⟩ = some (.int .i64 x.k) := hrx 5 _ rfl
    have b6 : wr.cell? ⟨w.heap.size, 6, none⟩ = some (.int .i64 x.h) := hrx 6 _ rfl
    have b7 : wr.cell? ⟨w.heap.size, 7, none⟩ = some (.slice x.A x.args.length x.cap) := hrx 7 _ rfl
    have lw : w.heap.size < wr.heap.size := by have := HX.out.size; have := HZ.out; omega
    clear hrx
    by_cases hlt : kk < l.length
    · obtain ⟨g, capg, hform, _⟩ := (HR.out.row).form (by omega)
      simp only [Value.slice.injEq] at hform
      obtain ⟨rfl, _, rfl⟩ := hform
      obtain ⟨y, hy⟩ : ∃ y, y = l[kk] := ⟨_, rfl⟩
      have hr := HX.out.range (HX1.out.range (rflat_range (own_range HR.out.row) (List.getElem?_eq_getElem hlt)))
      rw [← hy] at hr
      have c0 : wr.cell? ⟨g, kk * 8, none⟩ = some (.int .i64 y.t) := hr 0 _ rfl
      have c1 : wr.cell? ⟨g, kk * 8 + 1, none⟩ = some (.int .i64 y.s) := hr 1 _ rfl
      have c2 : wr.cell? ⟨g, kk * 8 + 2, none⟩ = some (.int .i64 y.c) := hr 2 _ rfl
      have c3 : wr.cell? ⟨g, kk * 8 + 3, none⟩ = some (.int .i64 y.p) := hr 3 _ rfl
      have c4 : wr.cell? ⟨g, kk * 8 + 4, none⟩ = some (.int .i64 y.n) := hr 4 _ rfl
      have c5 : wr.cell? ⟨g, kk * 8 + 5, none⟩ = some (.int .i64 y.k) := hr 5 _ rfl
      have c6 : wr.cell? ⟨g, kk * 8 + 6, none⟩ = some (.int .i64 y.h) := hr 6 _ rfl
      have c7 : wr.cell? ⟨g, kk * 8 + 7, none⟩ = some (.slice y.A y.args.length y.cap) := hr 7 _ rfl
      have HYY := Lib.hid hy
      clear hr hy
      have hdrop : l.drop kk = y :: l.drop (kk + 1) := by rw [HYY.out]; exact List.drop_eq_getElem_cons hlt
      have htake : l.take (kk + 1) = l.take kk ++ [y] := by rw [HYY.out]; exact List.take_succ_eq_append_getElem hlt
      have HD := Lib.hid hdrop
      have HT := Lib.hid htake
      clear hdrop htake
      cases d with
      | true =>
        have HINS := Lib.hid (HM.out.2 rfl)
        clear HM
        go_wp2_with (at_builtin; refine wpList_append_from _ rfl rfl w1.heap.size 30 i0 _ 8 80 Try.underlying25 hi hz0 hz1 hz2 rfl (by decide) _ O.length (rflat O) rfl (own_ext (own_ext HO.out (Ext.new _ _)) (Ext.new _ _)) (some ⟨wr.heap.size + 1, 0, none⟩) 1 1 y.rcells rfl (by rfl) ?e1 (rcells_one y) ?e2 ?e3 ?e4 ?_)
        case e1 => exact .inr ⟨wr.heap.size + 1, 0, rfl, by
          have h := range_of_whole (heap_alloc_new (wr.alloc (Obj.cells y.rcells.toArray 30)) (Obj.cells y.rcells.toArray 30))
          have e : (wr.alloc (Obj.cells y.rcells.toArray 30)).heap.size = wr.heap.size + 1 := by simp
          rw [e] at h
          exact h⟩
        case e2 => simp only [maxLen]; omega
        case e3 => omega
        case e4 => have := HX.out.size; simp; omega
        intro v7 w7 hown7 hk7 hat7
        have hx7 : Ext w1 w7 := ((Keeps.of_ext ((HX.out.tr (Ext.new _ _)).tr (Ext.new _ _))).seq hk7).ext (fun b hb e => by have := (HO.out.lt b e).1; omega)
        have HO7 := Lib.hid hown7
        have HX7 := Lib.hid hx7
        clear hown7 hk7 hat7 hx7 b0 b1 b2 b3 b4 b5 b6 b7 c0 c1 c2 c3 c4 c5 c6 c7
        go_wp2
        go_roundg (l.length - (kk + 1))
        case measure => omega
        case rel =>
          refine ⟨kk + 1, O ++ [y], true, by omega, Nat.le_refl _, by go_num, rfl, by simp; omega, ?_, HX7.out, (⟨fun h => by (cases h), fun _ => ?_⟩ : (true = false → _) ∧ (true = true → _))⟩
          · rw [List.length_append, rflat_append, show rflat [y] = y.rcells by simp [rflat]]; exact HO7.out
          · rw [← HINS.out, HD.out]; simp
      | false =>
        obtain ⟨hO, hnb⟩ := HM.out.1 rfl
        have HOO := Lib.hid hO
        have HNB := Lib.hid hnb
        clear hO hnb HM
        have hbf := before_any x.t x.s x.c x.p x.n x.k x.h x.A x.args.length x.cap y.t y.s y.c y.p y.n y.k y.h y.A y.args.length y.cap
        have hbe : rlt5 x.t (rs x.s) (pl0 x.s x.p x.n x.h) (pl1 x.s x.n) (pl2 x.s x.k) y.t (rs y.s) (pl0 y.s y.p y.n y.h) (pl1 y.s y.n) (pl2 y.s y.k) = bef x y := rfl
        rw [hbe] at hbf
        have HBF := Lib.hid hbf
        clear hbf hbe
        go_wp2_with fail
        refine (HBF.out _).mono ?_
        rintro e w6 ⟨rfl, hx6⟩
        have hyb : w6.rangeAt wr.heap.size 0 y.rcells := hx6.range (range_of_whole (heap_alloc_new wr (Obj.cells y.rcells.toArray 30)))
        have hxb : w6.rangeAt w.heap.size 0 x.rcells := hx6.range (Ext.range (Ext.new _ _) (HX.out.range HBX.out))
        have b0 : w6.cell? ⟨w.heap.size, 0, none⟩ = some (.int .i64 x.t) := hxb 0 _ rfl
        have b1 : w6.cell? ⟨w.heap.size, 1, none⟩ = some (.int .i64 x.s) := hxb 1 _ rfl
        have b2 : w6.cell? ⟨w.heap.size, 2, none⟩ = some (.int .i64 x.c) := hxb 2 _ rfl
        have b3 : w6.cell? ⟨w.heap.size, 3, none⟩ = some (.int .i64 x.p) := hxb 3 _ rfl
        have b4 : w6.cell? ⟨w.heap.size, 4, none⟩ = some (.int .i64 x.n) := hxb 4 _ rfl
        have b5 : w6.cell? ⟨w.heap.size, 5, none⟩ = some (.int .i64 x.k) := hxb 5 _ rfl
        have b6 : w6.cell? ⟨w.heap.size, 6, none⟩ = some (.int .i64 x.h) := hxb 6 _ rfl
        have b7 : w6.cell? ⟨w.heap.size, 7, none⟩ = some (.slice x.A x.args.length x.cap) := hxb 7 _ rfl
        have d0 : w6.cell? ⟨wr.heap.size, 0, none⟩ = some (.int .i64 y.t) := hyb 0 _ rfl
        have d1 : w6.cell? ⟨wr.heap.size, 1, none⟩ = some (.int .i64 y.s) := hyb 1 _ rfl
        have d2 : w6.cell? ⟨wr.heap.size, 2, none⟩ = some (.int .i64 y.c) := hyb 2 _ rfl
        have d3 : w6.cell? ⟨wr.heap.size, 3, none⟩ = some (.int .i64 y.p) := hyb 3 _ rfl
        have d4 : w6.cell? ⟨wr.heap.size, 4, none⟩ = some (.int .i64 y.n) := hyb 4 _ rfl
        have d5 : w6.cell? ⟨wr.heap.size, 5, none⟩ = some (.int .i64 y.k) := hyb 5 _ rfl
        have d6 : w6.cell? ⟨wr.heap.size, 6, none⟩ = some (.int .i64 y.h) := hyb 6 _ rfl
        have d7 : w6.cell? ⟨wr.heap.size, 7, none⟩ = some (.slice y.A y.args.length y.cap) := hyb 7 _ rfl
        have HX6 := Lib.hid ((HX.out.tr (Ext.new _ _)).tr hx6)
        have HO6 := Lib.hid (own_ext (own_ext HO.out (Ext.new _ _)) hx6)
        have HYB := Lib.hid hyb
        have lwr : wr.heap.size < w6.heap.size := by have := hx6.size; simp at this; omega
        clear hx6 hyb hxb
        cases hbv : bef x y with
        | true =>
          have HBV := Lib.hid hbv
          clear hbv
          go_wp2_with (at_builtin; refine wpList_append_from _ rfl rfl w1.heap.size 30 i0 _ 8 80 Try.underlying25 hi hz0 hz1 hz2 rfl (by decide) _ O.length (rflat O) rfl (own_ext HO6.out (Ext.new _ _)) (some ⟨w6.heap.size, 0, none⟩) 1 1 x.rcells rfl (by rfl) ?e1 (rcells_one x) ?e2 ?e3 ?e4 ?_)
          case e1 => exact .inr ⟨w6.heap.size, 0, rfl, range_of_whole (heap_alloc_new w6 (Obj.cells x.rcells.toArray 30))⟩
          case e2 => simp only [maxLen]; omega
          case e3 => omega
          case e4 => have := HX6.out.size; simp; omega
          intro v7 w7 hown7 hk7 hat7
          have hx7 : Ext w1 w7 := ((Keeps.of_ext (HX6.out.tr (Ext.new _ _))).seq hk7).ext (fun b hb e => by have := (HO6.out.lt b e).1; omega)
          have hyb7 : w7.rangeAt wr.heap.size 0 y.rcells := ((Keeps.of_ext (Ext.new _ _)).seq hk7).range HYB.out (fun e => by have := (HO.out.lt _ e).2; omega)
          have e0 : w7.cell? ⟨wr.heap.size, 0, none⟩ = some (.int .i64 y.t) := hyb7 0 _ rfl
          have e1 : w7.cell? ⟨wr.heap.size, 1, none⟩ = some (.int .i64 y.s) := hyb7 1 _ rfl
          have e2 : w7.cell? ⟨wr.heap.size, 2, none⟩ = some (.int .i64 y.c) := hyb7 2 _ rfl
          have e3 : w7.cell? ⟨wr.heap.size, 3, none⟩ = some (.int .i64 y.p) := hyb7 3 _ rfl
          have e4 : w7.cell? ⟨wr.heap.size, 4, none⟩ = some (.int .i64 y.n) := hyb7 4 _ rfl
          have e5 : w7.cell? ⟨wr.heap.size, 5, none⟩ = some (.int .i64 y.k) := hyb7 5 _ rfl
          have e6 : w7.cell? ⟨wr.heap.size, 6, none⟩ = some (.int .i64 y.h) := hyb7 6 _ rfl
          have e7 : w7.cell? ⟨wr.heap.size, 7, none⟩ = some (.slice y.A y.args.length y.cap) := hyb7 7 _ rfl
          have hO1 : rflat O ++ x.rcells = rflat (O ++ [x]) := by rw [rflat_append, show rflat [x] = x.rcells by simp [rflat]]
          rw [hO1, show O.length + 1 = (O ++ [x]).length by simp] at hown7
          have HO7 := Lib.hid hown7
          have HX7 := Lib.hid hx7
          have hl7 : (O ++ [x]).length = O.length + 1 := by simp
          generalize hOx : O ++ [x] = O' at *
          have HOX := Lib.hid hOx
          clear hown7 hk7 hat7 hx7 hyb7 hOx hO1 b0 b1 b2 b3 b4 b5 b6 b7 d0 d1 d2 d3 d4 d5 d6 d7 c0 c1 c2 c3 c4 c5 c6 c7
          go_wp2_with (at_builtin; refine wpList_append_from _ rfl rfl w1.heap.size 30 i0 _ 8 80 Try.underlying25 hi hz0 hz1 hz2 rfl (by decide) _ O'.length (rflat O') rfl (own_ext HO7.out (Ext.new _ _)) (some ⟨w7.heap.size, 0, none⟩) 1 1 y.rcells rfl (by rfl) ?g1 (rcells_one y) ?g2 ?g3 ?g4 ?_)
          case g1 => exact .inr ⟨w7.heap.size, 0, rfl, range_of_whole (heap_alloc_new w7 (Obj.cells y.rcells.toArray 30))⟩
          case g2 => simp only [maxLen]; omega
          case g3 => omega
          case g4 => have := HX7.out.size; simp; omega
          intro v8 w8 hown8 hk8 hat8
          have hx8 : Ext w1 w8 := ((Keeps.of_ext (HX7.out.tr (Ext.new _ _))).seq hk8).ext (fun b hb e => by have := (HO7.out.lt b e).1; omega)
          have HO8 := Lib.hid hown8
          have HX8 := Lib.hid hx8
          clear hown8 hk8 hat8 hx8 e0 e1 e2 e3 e4 e5 e6 e7
          go_wp2
          go_roundg (l.length - (kk + 1))
          case measure => omega
          case rel =>
            have hOk : O.length = kk := by rw [HOO.out, List.length_take]; omega
            refine ⟨kk + 1, O' ++ [y], true, by omega, Nat.le_refl _, by go_num, rfl, by simp; omega, ?_, HX8.out, (⟨fun h => by (cases h), fun _ => ?_⟩ : (true = false → _) ∧ (true = true → _))⟩
            · rw [List.length_append, hl7, rflat_append, show rflat [y] = y.rcells by simp [rflat]]; exact HO8.out
            · conv => rhs; rw [← List.take_append_drop kk l, insW_split x _ _ HNB.out, HD.out]
              have : insW x (y :: l.drop (kk + 1)) = x :: y :: l.drop (kk + 1) := by simp [insW, HBV.out]
              rw [this, ← HOX.out, HOO.out]
              simp
        | false =>
          have HBV := Lib.hid hbv
          clear hbv
          go_wp2_with (at_builtin; refine wpList_append_from _ rfl rfl w1.heap.size 30 i0 _ 8 80 Try.underlying25 hi hz0 hz1 hz2 rfl (by decide) _ O.length (rflat O) rfl (own_ext HO6.out (Ext.new _ _)) (some ⟨w6.heap.size, 0, none⟩) 1 1 y.rcells rfl (by rfl) ?e1 (rcells_one y) ?e2 ?e3 ?e4 ?_)
          case e1 => exact .inr ⟨w6.heap.size, 0, rfl, range_of_whole (heap_alloc_new w6 (Obj.cells y.rcells.toArray 30))⟩
          case e2 => simp only [maxLen]; omega
          case e3 => omega
          case e4 => have := HX6.out.size; simp; omega
          intro v7 w7 hown7 hk7 hat7
          have hx7 : Ext w1 w7 := ((Keeps.of_ext (HX6.out.tr (Ext.new _ _))).seq hk7).ext (fun b hb e => by have := (HO6.out.lt b e).1; omega)
          have HO7 := Lib.hid hown7
          have HX7 := Lib.hid hx7
          clear hown7 hk7 hat7 hx7 b0 b1 b2 b3 b4 b5 b6 b7 d0 d1 d2 d3 d4 d5 d6 d7 c0 c1 c2 c3 c4 c5 c6 c7
          go_wp2
          go_roundg (l.length - (kk + 1))
          case measure => omega
          case rel =>
            refine ⟨kk + 1, O ++ [y], false, by omega, Nat.le_refl _, by go_num, rfl, by simp; omega, ?_, HX7.out, (⟨fun _ => ⟨?_, ?_⟩, fun h => by (cases h)⟩ : (false = false → _ ∧ _) ∧ (false = true → _))⟩
            · rw [List.length_append, rflat_append, show rflat [y] = y.rcells by simp [rflat]]; exact HO7.out
            · rw [HT.out, HOO.out]
            · intro z hz
              rw [HT.out] at hz
              rcases List.mem_append.1 hz with h1 | h1
              · exact HNB.out z h1
              · have : z = y := by simpa using h1
                rw [this]; exact HBV.out
    · obtain rfl : kk = l.length := by omega
      have key : ∀ e ∈ insW x l, ∀ W, Ext w W → ArgsOk W B e := fun e he W hW => by
        rcases List.mem_cons.1 ((insW_perm x l).mem_iff.1 he) with rfl | h1
        · exact own_ext HXA.out hW
        · exact own_ext (HR.out.args e h1) hW
      have HKEY := Lib.hid key
      clear key
      cases d with
      | true =>
        have hins := HM.out.2 rfl
        rw [List.drop_length, List.append_nil] at hins
        have HINS := Lib.hid hins
        clear hins HM b0 b1 b2 b3 b4 b5 b6 b7
        go_wp2
        go_ret
        refine ⟨_, rfl, ⟨?_, fun e he => HKEY.out e he _ (HX1.out.tr HX.out)⟩, HX1.out.tr HX.out⟩
        rw [← HINS.out]
        exact World.ownsRow.mono HO.out (by have := HZ.out; omega)
      | false =>
        obtain ⟨hO, hnb⟩ := HM.out.1 rfl
        rw [List.take_length] at hO hnb
        have hins : O ++ [x] = insW x l := by
          have := insW_split x l [] hnb
          rw [List.append_nil] at this
          rw [this, hO]; rfl
        have HINS := Lib.hid hins
        have hOl2 : O.length = l.length := by rw [hO]
        clear hins hO hnb HM
        go_wp2_with (at_builtin; refine wpList_append_from _ rfl rfl w1.heap.size 30 i0 _ 8 80 Try.underlying25 hi hz0 hz1 hz2 rfl (by decide) _ O.length (rflat O) rfl (own_ext HO.out (Ext.new _ _)) (some ⟨wr.heap.size, 0, none⟩) 1 1 x.rcells rfl (by rfl) ?e1 (rcells_one x) ?e2 ?e3 ?e4 ?_)
        case e1 => exact .inr ⟨wr.heap.size, 0, rfl, range_of_whole (heap_alloc_new wr (Obj.cells x.rcells.toArray 30))⟩
        case e2 => simp only [maxLen]; omega
        case e3 => omega
        case e4 => have := HX.out.size; simp; omega
        intro v7 w7 hown7 hk7 hat7
        have hx7 : Ext w1 w7 := ((Keeps.of_ext (HX.out.tr (Ext.new _ _))).seq hk7).ext (fun b hb e => by have := (HO.out.lt b e).1; omega)
        have HO7 := Lib.hid hown7
        have HX7 := Lib.hid hx7
        clear hown7 hk7 hat7 hx7 b0 b1 b2 b3 b4 b5 b6 b7
        go_wp2
        go_ret
        refine ⟨_, rfl, ⟨?_, fun e he => HKEY.out e he _ (HX1.out.tr HX7.out)⟩, HX1.out.tr HX7.out⟩
        rw [← HINS.out, List.length_append, hOl2, rflat_append, show rflat [x] = x.rcells by simp [rflat]]
        exact World.ownsRow.mono HO7.out (by have := HZ.out; omega)
end Go.Proofs.Ytnamppkicefbjaa
