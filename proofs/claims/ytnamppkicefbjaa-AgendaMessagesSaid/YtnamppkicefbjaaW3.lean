/- Contracts: clone, check. Own text. -/
import Derived.Test.YtnamppkicefbjaaW2
import Derived.Test.YtnamppkicefbjaaMem
import Derived.Deep.Onto
namespace Go.Proofs.Ytnamppkicefbjaa
open Go.RowKit Go.Flow Go.Mem

abbrev ints (xs : List Int) : List Value := xs.map (Value.int .i64)
theorem ints_one (xs : List Int) : ∀ u ∈ ints xs, u.oneCell' = true := by
  intro u hu
  obtain ⟨x, _, rfl⟩ := List.mem_map.1 hu
  rfl
theorem info2 : (Try.prog.info? 2).map (fun i => (i.zero, i.size, i.bytes)) = some (some (.int .i64 0), 1, 8) := by kernel_rfl

/-- What clone hands back: the item with a slice of its own. -/
def ClonePost (s c p n k h : Int) (xs : List Int) (w : World) (e : Ending) (w' : World) : Prop :=
  ∃ (A : Option Addr) (cap : Nat), e = .returned (.agg #[.int .u8 s, .int .i64 c, .int .i64 p, .int .i64 n, .int .i64 k, .int .i64 h, .slice A xs.length cap]) ∧
    w'.ownsRow w.heap.size 2 1 (.slice A xs.length cap) xs.length (ints xs) ∧ Ext w w'

set_option maxHeartbeats 1000000 in
set_option maxRecDepth 100000 in
theorem clone_any (s c p n k h : Int) (A : Option Addr) (cp : Nat) (xs : List Int) (w : World) (hs : Src w A (ints xs)) (hl : xs.length ≤ 1000000000000) :
    Calls Try.prog 36 #[.agg #[.int .u8 s, .int .i64 c, .int .i64 p, .int .i64 n, .int .i64 k, .int .i64 h, .slice A xs.length cp]] w (ClonePost s c p n k h xs w) := by
  obtain ⟨i0, hi, hz0, hz1, hz2⟩ := info_parts info2
  have HS := Lib.hid hs
  clear hs
  go_enter Try.func36, Try.ntmps36
  go_wp2_with (at_builtin; refine wpList_append_from _ rfl rfl (w.heap.size + 2) 2 i0 (.int .i64 0) 1 8 Try.underlying28 hi hz0 hz1 hz2 rfl (by decide) (.slice none 0 0) 0 [] rfl (World.ownsRow_nil _ _ _ _) A xs.length cp (ints xs) rfl (by simp) ?c1 (ints_one xs) ?c2 ?c3 ?c4 ?_)
  case c1 => exact (HS.out.ext (Ext.new _ _)).ext (Ext.new _ _)
  case c2 => simp only [maxLen]; omega
  case c3 => omega
  case c4 => simp
  intro v1 w1 hown hk _
  have hx := hk.ext (fun _ _ h => by simp [Value.ownBlock] at h)
  try simp only [Nat.zero_add, List.nil_append] at hown
  obtain ⟨A1, cap1, hv, _, _, _⟩ := own_form hown
  rw [hv] at hown ⊢
  have HO := Lib.hid hown
  have HX := Lib.hid hx
  obtain ⟨r1, r2⟩ := Ext.rules hx
  have hz := hx.size
  simp at hz
  have hz1' : w.heap.size < w1.heap.size := by omega
  have hz2' : w.heap.size + 1 < w1.heap.size := by omega
  have c6 : w1.cell? ⟨w.heap.size, 6, none⟩ = some (.slice A xs.length cp) := by rw [r1 _ _ (by simp; omega)]; simp [go_sem]
  have d0 : w1.cell? ⟨w.heap.size + 1, 0, none⟩ = some (.int .u8 0) := by rw [r1 _ _ (by simp)]; simp [go_sem]
  have d1 : w1.cell? ⟨w.heap.size + 1, 1, none⟩ = some (.int .i64 0) := by rw [r1 _ _ (by simp)]; simp [go_sem]
  have d2 : w1.cell? ⟨w.heap.size + 1, 2, none⟩ = some (.int .i64 0) := by rw [r1 _ _ (by simp)]; simp [go_sem]
  have d3 : w1.cell? ⟨w.heap.size + 1, 3, none⟩ = some (.int .i64 0) := by rw [r1 _ _ (by simp)]; simp [go_sem]
  have d4 : w1.cell? ⟨w.heap.size + 1, 4, none⟩ = some (.int .i64 0) := by rw [r1 _ _ (by simp)]; simp [go_sem]
  have d5 : w1.cell? ⟨w.heap.size + 1, 5, none⟩ = some (.int .i64 0) := by rw [r1 _ _ (by simp)]; simp [go_sem]
  have d6 : w1.cell? ⟨w.heap.size + 1, 6, none⟩ = some (.slice none 0 0) := by rw [r1 _ _ (by simp)]; simp [go_sem]
  clear hown hx hk hv HS
  go_wp2
  refine bodyPost_ret (v := .agg #[.int .u8 s, .int .i64 c, .int .i64 p, .int .i64 n, .int .i64 k, .int .i64 h, .slice A1 xs.length cap1]) ?_ rfl ?_
  · simp [results, Try.results36, go_sem, d0, d1, d2, d3, d4, d5, d6]
  refine ⟨A1, cap1, rfl, ?_, ?_⟩
  · refine World.ownsRow.mono (base := w.heap.size + 2) ?_ (by omega)
    iterate 8 (refine ownsRow_setCell_below ?_ (by dsimp only; omega) _)
    exact HO.out
  · have hx2 : Ext w w1 := ((Ext.new _ _).tr (Ext.new _ _)).tr HX.out
    iterate 8 (refine Below.setCell ?_ (by dsimp only; omega) _)
    exact hx2

/-- May an item be added? -/
def validE (t s c p n k h : Int) : Bool := decide (0 ≤ t ∧ 0 ≤ c ∧ 0 ≤ p ∧ 0 ≤ n ∧ 0 ≤ k ∧ 0 ≤ h ∧ (s = 5 ∨ ((s = 4 ∨ s = 6) ∧ p = 0 ∧ k = 0)))
def errE (t s c p n k h : Int) : Int := if validE t s c p n k h = true then 0 else 1
theorem errE_neg {t s c p n k h : Int} (hn : t < 0 ∨ c < 0 ∨ p < 0 ∨ n < 0 ∨ k < 0 ∨ h < 0) : errE t s c p n k h = 1 := by
  unfold errE validE
  rw [if_neg]
  simp only [decide_eq_true_eq]
  omega
theorem errE_no {t s c p n k h : Int} (h5 : s ≠ 5) (hn : (s ≠ 4 ∧ s ≠ 6) ∨ p ≠ 0 ∨ k ≠ 0) : errE t s c p n k h = 1 := by
  unfold errE validE
  rw [if_neg]
  simp only [decide_eq_true_eq]
  omega
theorem errE_yes {t s c p n k h : Int} (hp : 0 ≤ t ∧ 0 ≤ c ∧ 0 ≤ p ∧ 0 ≤ n ∧ 0 ≤ k ∧ 0 ≤ h) (hn : s = 5 ∨ ((s = 4 ∨ s = 6) ∧ p = 0 ∧ k = 0)) : errE t s c p n k h = 0 := by
  unfold errE validE
  rw [if_pos]
  simp only [decide_eq_true_eq]
  omega

set_option maxHeartbeats 1000000 in
set_option maxRecDepth 100000 in
theorem check_any (t s c p n k h : Int) (A : Option Addr) (l cp : Nat) (w : World) :
    Calls Try.prog 39 #[.int .i64 t, .agg #[.int .u8 s, .int .i64 c, .int .i64 p, .int .i64 n, .int .i64 k, .int .i64 h, .slice A l cp]] w fun e w' => e = .returned (.int .i64 (errE t s c p n k h)) ∧ Ext w w' := by
  have i0 : ∀ w, (Instr.index 120 (.agg #[.int .i64 t, .int .i64 c, .int .i64 p, .int .i64 n, .int .i64 k, .int .i64 h]) (.int .i64 0)).run Try.prog w = .ok (.int .i64 t) w := fun _ => by kernel_rfl
  have i1 : ∀ w, (Instr.index 120 (.agg #[.int .i64 t, .int .i64 c, .int .i64 p, .int .i64 n, .int .i64 k, .int .i64 h]) (.int .i64 1)).run Try.prog w = .ok (.int .i64 c) w := fun _ => by kernel_rfl
  have i2 : ∀ w, (Instr.index 120 (.agg #[.int .i64 t, .int .i64 c, .int .i64 p, .int .i64 n, .int .i64 k, .int .i64 h]) (.int .i64 2)).run Try.prog w = .ok (.int .i64 p) w := fun _ => by kernel_rfl
  have i3 : ∀ w, (Instr.index 120 (.agg #[.int .i64 t, .int .i64 c, .int .i64 p, .int .i64 n, .int .i64 k, .int .i64 h]) (.int .i64 3)).run Try.prog w = .ok (.int .i64 n) w := fun _ => by kernel_rfl
  have i4 : ∀ w, (Instr.index 120 (.agg #[.int .i64 t, .int .i64 c, .int .i64 p, .int .i64 n, .int .i64 k, .int .i64 h]) (.int .i64 4)).run Try.prog w = .ok (.int .i64 k) w := fun _ => by kernel_rfl
  have i5 : ∀ w, (Instr.index 120 (.agg #[.int .i64 t, .int .i64 c, .int .i64 p, .int .i64 n, .int .i64 k, .int .i64 h]) (.int .i64 5)).run Try.prog w = .ok (.int .i64 h) w := fun _ => by kernel_rfl
  have e1 : t < 0 ∨ c < 0 ∨ p < 0 ∨ n < 0 ∨ k < 0 ∨ h < 0 → errE t s c p n k h = 1 := errE_neg
  have e2 : s ≠ 5 → (s ≠ 4 ∧ s ≠ 6) ∨ p ≠ 0 ∨ k ≠ 0 → errE t s c p n k h = 1 := errE_no
  have e3 : 0 ≤ t ∧ 0 ≤ c ∧ 0 ≤ p ∧ 0 ≤ n ∧ 0 ≤ k ∧ 0 ≤ h → s = 5 ∨ ((s = 4 ∨ s = 6) ∧ p = 0 ∧ k = 0) → errE t s c p n k h = 0 := errE_yes
  have E1 := Lib.hid e1
  have E2 := Lib.hid e2
  have E3 := Lib.hid e3
  clear e1 e2 e3
  generalize errE t s c p n k h = er at *
  go_enter Try.func39, Try.ntmps39
  go_wp2
  refine wp_loop_rounds 7 ?_
  iterate 6
    rw [rounds_succ]
    go_wp2
    · go_ret
      exact ⟨by rw [E1.out (by omega)]; rfl, Ext.new _ _⟩
  rw [rounds_succ]
  go_wp2
  all_goals (go_ret; refine ⟨?_, Ext.new _ _⟩; simp only [beq_iff_eq, beq_eq_false_iff_ne] at *; first | (rw [E3.out (by omega) (by omega)]; rfl) | (rw [E2.out (by omega) (by omega)]; rfl))
end Go.Proofs.Ytnamppkicefbjaa
