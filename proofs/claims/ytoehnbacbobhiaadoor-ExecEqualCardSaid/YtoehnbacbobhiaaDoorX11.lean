/- The example of the chapter, and instructions that go round without cost. Plain facts. Own text. -/
import Derived.Test.YtoehnbacbobhiaaDoorX10
namespace Go.Proofs.YtoehnbacbobhiaaDoor
open Go.Sep
theorem runV_addr {A : Option Addr} {q : Nat} {l : List Ins} : ∀ (f : Nat) (d : Dv), runV (s0 A q l) f d = runV (s0 none 0 l) f d
  | 0, _ => rfl
  | f + 1, d => by
    unfold runV
    have e : ∀ x d, stepV (s0 A q l) x d = stepV (s0 none 0 l) x d := fun _ _ => rfl
    simp only [e]
    split
    · split
      · rfl
      · exact runV_addr f _
    · rfl
def exC0 : List Ins := [⟨29, 0, 0, 0⟩, ⟨1, 0, 0, 1⟩, ⟨28, 8, 0, 0⟩, ⟨29, 0, 0, 0⟩, ⟨2, 0, 0, 0⟩, ⟨1, 0, 0, 1⟩, ⟨14, 0, 0, 0⟩, ⟨24, 0, 0, 0⟩, ⟨27, 0, 0, 0⟩]
def exC : List Ins := [⟨29, 0, 0, 0⟩, ⟨1, 0, 0, 1⟩, ⟨28, 9, 0, 0⟩, ⟨29, 0, 0, 0⟩, ⟨2, 0, 0, 0⟩, ⟨1, 0, 0, 1⟩, ⟨14, 0, 0, 0⟩, ⟨24, 0, 0, 0⟩, ⟨27, 0, 0, 0⟩]
theorem ex_verify : verifyV 0 2 exC = 0 := by decide +kernel
theorem ex_refers : ∀ x ∈ exC, referB x 1 0 0 = true := by decide +kernel
instance (x : Ins) : Decidable (Simple x) := by unfold Simple; infer_instance
theorem ex_simple : ∀ x ∈ exC, Simple x := by decide +kernel
theorem ex_run : runV (s0 none 0 exC) 1048576 (d0V [5]) = ⟨[105], [], [], [faultE], 200, [], 1, 0, 0, true⟩ := by decide +kernel
/-- Instructions that go round without cost. -/
def loopP (n : Nat) (v : Int) : List Ins := [⟨1, 0, 0, v⟩, ⟨24, 0, 0, 0⟩] ++ (List.replicate n [(⟨1, 0, 0, 1⟩ : Ins), ⟨28, 0, 0, 0⟩]).flatten
def loopC (n : Nat) (v : Int) : List Ins := loopP n v ++ [⟨27, 0, 0, 0⟩]
theorem loopP_succ (n : Nat) (v : Int) : loopP (n + 1) v = loopP n v ++ [⟨1, 0, 0, 1⟩, ⟨28, 0, 0, 0⟩] := by
  unfold loopP
  rw [List.replicate_succ', List.flatten_append]
  simp
theorem loopP_len (n : Nat) (v : Int) : (loopP n v).length = 2 * n + 2 := by
  induction n with
  | zero => rfl
  | succ n ih => rw [loopP_succ, List.length_append, ih]; simp; omega
abbrev atV (v : Int) : Dv := ⟨[v], [], [], [], 0, [], 0, 0, 0, false⟩
theorem again_run {s : Sm} {d : Dv} {m : Nat} (hr : ∀ f, runV s (f + m) d = runV s f d) (r : Nat) : ∀ k, runV s (m * k + r) d = runV s r d
  | 0 => by rw [Nat.mul_zero, Nat.zero_add]
  | k + 1 => by rw [show m * (k + 1) + r = (m * k + r) + m from by rw [Nat.mul_add]; omega, hr, again_run hr r k]
theorem loop_facts (n : Nat) (hn : n < 6) (v : Int) : verifyV 0 1 (loopC n v) = 0 ∧ (∀ x ∈ loopC n v, referB x 1 0 0 = true) ∧ (∀ x ∈ loopC n v, Simple x) := by
  rcases n with _ | _ | _ | _ | _ | _ | n
  · exact ⟨by kernel_rfl, of_decide_eq_true (by kernel_rfl), of_decide_eq_true (by kernel_rfl)⟩
  · exact ⟨by kernel_rfl, of_decide_eq_true (by kernel_rfl), of_decide_eq_true (by kernel_rfl)⟩
  · exact ⟨by kernel_rfl, of_decide_eq_true (by kernel_rfl), of_decide_eq_true (by kernel_rfl)⟩
  · exact ⟨by kernel_rfl, of_decide_eq_true (by kernel_rfl), of_decide_eq_true (by kernel_rfl)⟩
  · exact ⟨by kernel_rfl, of_decide_eq_true (by kernel_rfl), of_decide_eq_true (by kernel_rfl)⟩
  · exact ⟨by kernel_rfl, of_decide_eq_true (by kernel_rfl), of_decide_eq_true (by kernel_rfl)⟩
  · omega
theorem loop_run (n : Nat) (hn : n < 6) (v u : Int) : (runV (s0 none 0 (loopC n v)) 1048576 (d0V [u])).vars = [v] ∧ (runV (s0 none 0 (loopC n v)) 1048576 (d0V [u])).cost = 0 ∧ (runV (s0 none 0 (loopC n v)) 1048576 (d0V [u])).effs = [faultE] := by
  rcases n with _ | _ | _ | _ | _ | _ | n
  · have h1 : ∀ f w, runV (s0 none 0 (loopC 0 v)) (f + 3) (atV w) = runV (s0 none 0 (loopC 0 v)) f (atV v) := fun f w => by kernel_rfl
    have h2 : runV (s0 none 0 (loopC 0 v)) 1048576 (d0V [u]) = runV (s0 none 0 (loopC 0 v)) 1 (atV v) := by
      rw [show 1048576 = (3 * 349524 + 1) + 3 from rfl, h1, again_run (fun f => h1 f v)]
    rw [h2]
    exact ⟨by kernel_rfl, by kernel_rfl, by kernel_rfl⟩
  · have h1 : ∀ f w, runV (s0 none 0 (loopC 1 v)) (f + 5) (atV w) = runV (s0 none 0 (loopC 1 v)) f (atV v) := fun f w => by kernel_rfl
    have h2 : runV (s0 none 0 (loopC 1 v)) 1048576 (d0V [u]) = runV (s0 none 0 (loopC 1 v)) 1 (atV v) := by
      rw [show 1048576 = (5 * 209714 + 1) + 5 from rfl, h1, again_run (fun f => h1 f v)]
    rw [h2]
    exact ⟨by kernel_rfl, by kernel_rfl, by kernel_rfl⟩
  · have h1 : ∀ f w, runV (s0 none 0 (loopC 2 v)) (f + 7) (atV w) = runV (s0 none 0 (loopC 2 v)) f (atV v) := fun f w => by kernel_rfl
    have h2 : runV (s0 none 0 (loopC 2 v)) 1048576 (d0V [u]) = runV (s0 none 0 (loopC 2 v)) 4 (atV v) := by
      rw [show 1048576 = (7 * 149795 + 4) + 7 from rfl, h1, again_run (fun f => h1 f v)]
    rw [h2]
    exact ⟨by kernel_rfl, by kernel_rfl, by kernel_rfl⟩
  · have h1 : ∀ f w, runV (s0 none 0 (loopC 3 v)) (f + 9) (atV w) = runV (s0 none 0 (loopC 3 v)) f (atV v) := fun f w => by kernel_rfl
    have h2 : runV (s0 none 0 (loopC 3 v)) 1048576 (d0V [u]) = runV (s0 none 0 (loopC 3 v)) 4 (atV v) := by
      rw [show 1048576 = (9 * 116507 + 4) + 9 from rfl, h1, again_run (fun f => h1 f v)]
    rw [h2]
    exact ⟨by kernel_rfl, by kernel_rfl, by kernel_rfl⟩
  · have h1 : ∀ f w, runV (s0 none 0 (loopC 4 v)) (f + 11) (atV w) = runV (s0 none 0 (loopC 4 v)) f (atV v) := fun f w => by kernel_rfl
    have h2 : runV (s0 none 0 (loopC 4 v)) 1048576 (d0V [u]) = runV (s0 none 0 (loopC 4 v)) 1 (atV v) := by
      rw [show 1048576 = (11 * 95324 + 1) + 11 from rfl, h1, again_run (fun f => h1 f v)]
    rw [h2]
    exact ⟨by kernel_rfl, by kernel_rfl, by kernel_rfl⟩
  · have h1 : ∀ f w, runV (s0 none 0 (loopC 5 v)) (f + 13) (atV w) = runV (s0 none 0 (loopC 5 v)) f (atV v) := fun f w => by kernel_rfl
    have h2 : runV (s0 none 0 (loopC 5 v)) 1048576 (d0V [u]) = runV (s0 none 0 (loopC 5 v)) 9 (atV v) := by
      rw [show 1048576 = (13 * 80658 + 9) + 13 from rfl, h1, again_run (fun f => h1 f v)]
    rw [h2]
    exact ⟨by kernel_rfl, by kernel_rfl, by kernel_rfl⟩
  · omega
end Go.Proofs.YtoehnbacbobhiaaDoor
