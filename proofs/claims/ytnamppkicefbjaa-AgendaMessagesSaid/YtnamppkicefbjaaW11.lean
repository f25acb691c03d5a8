/- Contract of awake. Own text. -/
import Derived.Test.YtnamppkicefbjaaW10
namespace Go.Proofs.Ytnamppkicefbjaa
open Go.RowKit Go.Flow Go.Mem

theorem filter_both {α : Type} (p : α → Bool) : ∀ L : List α, (L.filter p).length + (L.filter fun y => !p y).length = L.length
  | [] => rfl
  | x :: L => by
    have h := filter_both p L
    cases hp : p x <;> simp [hp] <;> omega
theorem insE_length (x : En) (L : List En) : (insE x L).length = L.length + 1 := by
  unfold insE
  have h := filter_both (fun y => y.le x) L
  simp only [List.length_append, List.length_cons]
  omega
theorem own_after_add {B a : Nat} {v v' : Value} {L : List En} {w : World} (hA : Ag w B a v L) (hB : B ≤ w.heap.size) (h : v'.ownBlock = v.ownBlock ∨ ∃ g, v'.ownBlock = some g ∧ w.heap.size ≤ g) : ∀ g, own a v' g → B ≤ g := by
  intro g hg
  rcases hg with rfl | hg
  · exact hA.low
  · rcases h with h | ⟨g', h1, h2⟩
    · exact (hA.row.lt g (by rw [← h]; exact hg)).1
    · rw [hg] at h1; injection h1 with h1; omega
theorem Ag.own_low {B a : Nat} {v : Value} {L : List En} {w : World} (hA : Ag w B a v L) : ∀ g, own a v g → B ≤ g := by
  intro g hg
  rcases hg with rfl | hg
  · exact hA.low
  · exact (hA.row.lt g hg).1
theorem Ag.turned {B a : Nat} {v : Value} {L : List En} {w0 w w' : World} (hA : Ag w B a v L) (hx : Ext w0 w) (hB : w0.heap.size ≤ B) (k : Keeps (own a v) w w') : Ext w0 w' :=
  ((Keeps.of_ext (X := fun g => B ≤ g) hx).seq (k.mono fun g _ hg => hA.own_low g hg)).ext (fun i hi h => by omega)

set_option maxHeartbeats 2000000 in
set_option maxRecDepth 100000 in
theorem awake_any (w : World) : Calls Try.prog 11 #[] w fun e w' => e = .returned (.bool true) ∧ Ext w w' := by
  go_enter Try.func11, Try.ntmps11
  go_wp2_with fail
  refine (new_any _).mono ?_
  rintro e w1 ⟨rfl, hA1, hx1, -⟩
  have HA1 := Lib.hid hA1
  have HX1 := Lib.hid hx1
  clear hA1 hx1
  go_wp2_with fail
  have hc1 := add_yes w.heap.size w.heap.size (.slice none 0 0) [] ⟨3, 6, 1, 0, 0, 0, 0, [], none, 0⟩ w1 HA1.out HX1.out.size (by simp) (.inl rfl) (by simp) (by decide)
  refine Calls.mono hc1 ?_
  clear hc1
  rintro e w2 ⟨rfl, A1, p1, v1, hA2, hk2, hv1, -⟩
  have HX2 := Lib.hid (HA1.out.turned HX1.out (Nat.le_refl _) hk2)
  have HA2 := Lib.hid hA2
  clear hA2 hk2 hv1 HA1 HX1
  go_wp2_with fail
  have hc1 := add_yes w.heap.size w.heap.size v1 _ ⟨3, 5, 1, 2, 0, 0, 0, [], none, 0⟩ w2 HA2.out HX2.out.size (by simp [insE_length]) (.inl rfl) (by simp) (by decide)
  refine Calls.mono hc1 ?_
  clear hc1
  rintro e w3 ⟨rfl, A2, p2, v2, hA3, hk3, hv2, -⟩
  have HX3 := Lib.hid (HA2.out.turned HX2.out (Nat.le_refl _) hk3)
  have HA3 := Lib.hid hA3
  clear hA3 hk3 hv2 HA2 HX2
  go_wp2_with fail
  have hc1 := add_yes w.heap.size w.heap.size v2 _ ⟨3, 4, 1, 0, 1, 0, 0, [], none, 0⟩ w3 HA3.out HX3.out.size (by simp [insE_length]) (.inl rfl) (by simp) (by decide)
  refine Calls.mono hc1 ?_
  clear hc1
  rintro e w4 ⟨rfl, A3, p3, v3, hA4, hk4, hv3, -⟩
  have HX4 := Lib.hid (HA3.out.turned HX3.out (Nat.le_refl _) hk4)
  have hL : insE ⟨3, 4, 1, 0, 1, 0, 0, [], A3, p3⟩ (insE ⟨3, 5, 1, 2, 0, 0, 0, [], A2, p2⟩ (insE ⟨3, 6, 1, 0, 0, 0, 0, [], A1, p1⟩ [])) = [⟨3, 4, 1, 0, 1, 0, 0, [], A3, p3⟩, ⟨3, 5, 1, 2, 0, 0, 0, [], A2, p2⟩, ⟨3, 6, 1, 0, 0, 0, 0, [], A1, p1⟩] := by rfl
  simp only [hL] at hA4
  have HA4 := Lib.hid hA4
  clear hA4 hk4 hv3 HA3 HX3
  go_wp2_with fail
  have hc1 := take_any w.heap.size w.heap.size v3 _ 3 1 w4 HA4.out HX4.out.size (by simp) (by simp)
  refine Calls.mono hc1 ?_
  clear hc1
  rintro e w5 ⟨u, M, v5, rfl, hI, hM, hA5, hk5, -⟩
  have HX5 := Lib.hid (HA4.out.turned HX4.out (Nat.le_refl _) hk5)
  have hM2 : M.map En.bare = [⟨3, 4, 1, 0, 1, 0, 0, [], none, 0⟩, ⟨3, 5, 1, 2, 0, 0, 0, [], none, 0⟩, ⟨3, 6, 1, 0, 0, 0, 0, [], none, 0⟩] := hM.trans (by rfl)
  clear hM
  obtain ⟨m1, m2, m3, rfl⟩ : ∃ m1 m2 m3, M = [m1, m2, m3] := by
    have hl := congrArg List.length hM2
    simp at hl
    match M, hl with
    | [m1, m2, m3], _ => exact ⟨m1, m2, m3, rfl⟩
  simp only [List.map_cons, List.map_nil, List.cons.injEq, and_true] at hM2
  obtain ⟨e1, e2, e3⟩ := hM2
  have s1 : m1.s = 4 := congrArg En.s e1
  have s2 : m2.p = 2 := congrArg En.p e2
  have s3 : m3.s = 6 := congrArg En.s e3
  obtain ⟨g, cap, rfl, _⟩ := hI.row.form (by simp)
  have hr := own_range hI.row
  have c0 : w5.cell? ⟨g, 0, none⟩ = some (.int .u8 4) := by rw [← s1]; exact hr 0 _ rfl
  have c1 : w5.cell? ⟨g, 9, none⟩ = some (.int .i64 2) := by rw [← s2]; exact hr 9 _ rfl
  have c2 : w5.cell? ⟨g, 14, none⟩ = some (.int .u8 6) := by rw [← s3]; exact hr 14 _ rfl
  have hL2 : ([⟨3, 4, 1, 0, 1, 0, 0, [], A3, p3⟩, ⟨3, 5, 1, 2, 0, 0, 0, [], A2, p2⟩, ⟨3, 6, 1, 0, 0, 0, 0, [], A1, p1⟩] : List En).filter (fun x => !inTake 1 3 x) = [] := by rfl
  rw [hL2] at hA5
  have HA5 := Lib.hid hA5
  clear hA5 hk5 HA4 HX4 hI e1 e2 e3 s1 s2 s3 hr
  go_wp2_with fail
  have hc1 := take_any w.heap.size w.heap.size v5 _ 3 1 w5 HA5.out HX5.out.size (by simp) (by simp)
  refine Calls.mono hc1 ?_
  clear hc1
  rintro e w6 ⟨u, M, v6, rfl, hI, hM, hA6, hk6, -⟩
  have HX6 := Lib.hid (HA5.out.turned HX5.out (Nat.le_refl _) hk6)
  have hM2 : M = [] := by simpa using hM
  subst hM2
  obtain ⟨Av, capv, hvv, _, _, _⟩ := own_form hI.row
  subst hvv
  clear hI hM hA6 hk6 HA5 HX5
  go_wp2
  go_ret
  exact ⟨rfl, HX6.out⟩
end Go.Proofs.Ytnamppkicefbjaa
