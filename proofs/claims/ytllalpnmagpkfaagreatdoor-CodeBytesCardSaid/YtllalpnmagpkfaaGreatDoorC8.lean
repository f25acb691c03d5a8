/- The reference's verdict is the program's: plain. Own text. -/
import Derived.Test.YtllalpnmagpkfaaGreatDoorC7
set_option linter.unusedVariables false
set_option linter.unusedSimpArgs false
namespace Go.Proofs.YtllalpnmagpkfaaGreatDoor
open Go.RowKit Go.Flow Go.Mem Go.Sep
theorem uses_all : ((List.range 35).all fun o => o == 0 || (usesB o 65 == uA ((o : Nat) : Int) && usesB o 66 == uB ((o : Nat) : Int) && usesB o 78 == uN ((o : Nat) : Int))) = true := by kernel_rfl
theorem uses_eq {o : Nat} (h1 : 1 ≤ o) (h2 : o ≤ 34) : usesB o 65 = uA ((o : Nat) : Int) ∧ usesB o 66 = uB ((o : Nat) : Int) ∧ usesB o 78 = uN ((o : Nat) : Int) := by
 have h := List.all_eq_true.1 uses_all o (List.mem_range.2 (by omega))
 simp only [Bool.or_eq_true, Bool.and_eq_true, beq_iff_eq] at h
 rcases h with h | ⟨⟨ha, hb⟩, hn⟩
 · omega
 · exact ⟨ha, hb, hn⟩
theorem moves_all : ((List.range 35).all fun o => o == 0 || ((o == 31 || (rowOf o).pops == mvP ⟨o, 0, 0, 0⟩) && (rowOf o).pushes == mvQ ⟨o, 0, 0, 0⟩)) = true := by kernel_rfl
theorem row31 : (rowOf 31).pops = 1 := by kernel_rfl
theorem row30 : (rowOf 30).pops = 0 := by kernel_rfl
theorem moves_eq {x : Ins} (h1 : 1 ≤ x.op) (h2 : x.op ≤ 34) : popsN x = mvP x ∧ (rowOf x.op).pushes = mvQ x := by
 have h : (x.op == 0 || ((x.op == 31 || (rowOf x.op).pops == mvP ⟨x.op, 0, 0, 0⟩) && (rowOf x.op).pushes == mvQ ⟨x.op, 0, 0, 0⟩)) = true := List.all_eq_true.1 moves_all x.op (List.mem_range.2 (by omega))
 rw [Bool.or_eq_true, Bool.and_eq_true, Bool.or_eq_true] at h
 rcases h with h | ⟨hp, hq⟩
 · have := eq_of_beq h; omega
 refine ⟨?_, eq_of_beq hq⟩
 unfold popsN
 by_cases h30 : x.op = 30
 · rw [if_pos (by omega), h30, row30]
   unfold mvP
   rw [if_neg (by omega), if_neg (by omega), if_neg (by omega), if_neg (by omega), if_neg (by omega), if_pos (by omega)]
   omega
 by_cases h31 : x.op = 31
 · rw [if_pos (by omega), h31, row31]
   unfold mvP
   rw [if_neg (by omega), if_neg (by omega), if_neg (by omega), if_neg (by omega), if_neg (by omega), if_neg (by omega), if_pos (by omega)]
   omega
 rw [if_neg (by omega)]
 rcases hp with hp | hp
 · exact absurd (eq_of_beq hp) h31
 rw [eq_of_beq hp]
 have e30 : ¬ ((x.op : Nat) : Int) = 30 := by omega
 have e31 : ¬ ((x.op : Nat) : Int) = 31 := by omega
 simp only [mvP, if_neg e30, if_neg e31]
theorem tgt_jR {x : Ins} : ((tgt x).isSome = true → (tgt x).getD 0 = jR x) ∧ ((tgt x).isSome = false → jR x = -1) ∧ ((tgt x).isSome = decide (((x.op : Nat) : Int) = 27 ∨ ((x.op : Nat) : Int) = 28 ∨ ((x.op : Nat) : Int) = 32 ∨ ((x.op : Nat) : Int) = 33)) := by
 unfold tgt jR
 by_cases h1 : ((x.op : Nat) : Int) = 27 ∨ ((x.op : Nat) : Int) = 28
 · rw [if_pos h1, if_pos h1]; refine ⟨fun _ => rfl, (by simp), ?_⟩
   exact (decide_eq_true (by omega)).symm
 · rw [if_neg h1, if_neg h1]
   by_cases h2 : ((x.op : Nat) : Int) = 32 ∨ ((x.op : Nat) : Int) = 33
   · rw [if_pos h2, if_pos h2]; refine ⟨fun _ => rfl, (by simp), ?_⟩
     exact (decide_eq_true (by omega)).symm
   · rw [if_neg h2, if_neg h2]; refine ⟨(by simp), fun _ => rfl, ?_⟩
     exact (decide_eq_false (by omega)).symm
theorem form_eq {pr : Int} {nc : Nat} {x : Ins} (hp : 0 ≤ pr ∧ pr ≤ 4) : formR pr nc x = formedB pr nc x := by
 obtain ⟨o, a, b, n⟩ := x
 by_cases ho : 1 ≤ o ∧ o ≤ 34
 · obtain ⟨ea, eb, en⟩ := uses_eq ho.1 ho.2
   rw [Bool.eq_iff_iff]
   unfold formR formedB
   rw [ea, eb, en]
   clear ea eb en
   rcases (by omega : o = 1 ∨ o = 2 ∨ o = 3 ∨ o = 4 ∨ o = 5 ∨ o = 6 ∨ o = 7 ∨ o = 8 ∨ o = 9 ∨ o = 10 ∨ o = 11 ∨ o = 12 ∨ o = 13 ∨ o = 14 ∨ o = 15 ∨ o = 16 ∨ o = 17 ∨ o = 18 ∨ o = 19 ∨ o = 20 ∨ o = 21 ∨ o = 22 ∨ o = 23 ∨ o = 24 ∨ o = 25 ∨ o = 26 ∨ o = 27 ∨ o = 28 ∨ o = 29 ∨ o = 30 ∨ o = 31 ∨ o = 32 ∨ o = 33 ∨ o = 34) with rfl | rfl | rfl | rfl | rfl | rfl | rfl | rfl | rfl | rfl | rfl | rfl | rfl | rfl | rfl | rfl | rfl | rfl | rfl | rfl | rfl | rfl | rfl | rfl | rfl | rfl | rfl | rfl | rfl | rfl | rfl | rfl | rfl | rfl <;> simp [uA, uB, uN, tgt, jR] <;> omega
 · rw [Bool.eq_iff_iff]
   unfold formR formedB
   simp only [Bool.and_eq_true, Bool.or_eq_true, decide_eq_true_eq, Bool.not_eq_true', Bool.or_eq_false_iff, decide_eq_false_iff_not]
   constructor <;> intro h <;> omega
theorem set_same (h : List Int) (i : Nat) : h.set i (h.getD i 0) = h := by
 by_cases hi : i < h.length
 · rw [List.getD_eq_getElem?_getD, gge hi]; exact List.set_getElem_self hi
 · exact List.set_eq_of_length_le (by omega)
theorem put_ok {v : Int} {h : List Int} {ok : Bool} {k : Int} (hk : okH (h.getD k.toNat 0) v) : putR1 v (h, ok) k = (h.set k.toNat v, ok) := by
 unfold putR1
 have e : decide (0 ≤ h.getD k.toNat 0 ∧ h.getD k.toNat 0 ≠ v) = false := decide_eq_false (by unfold okH at hk; omega)
 simp only [e, Bool.not_false, Bool.and_true]
 by_cases hn : h.getD k.toNat 0 < 0
 · rw [if_pos hn]
 · rw [if_neg hn]
   have : h.getD k.toNat 0 = v := by unfold okH at hk; omega
   rw [← this, set_same]
theorem put_bad {v : Int} {h : List Int} {ok : Bool} {k : Int} (hk : ¬ okH (h.getD k.toNat 0) v) : (putR1 v (h, ok) k).2 = false := by
 unfold putR1
 have e : decide (0 ≤ h.getD k.toNat 0 ∧ h.getD k.toNat 0 ≠ v) = true := decide_eq_true (by unfold okH at hk; omega)
 simp only [e, Bool.not_true, Bool.and_false]
theorem put_false {v : Int} {s : List Int × Bool} {k : Int} (h : s.2 = false) : (putR1 v s k).2 = false := by
 unfold putR1; simp only [h, Bool.false_and]
theorem fold_false {v : Int} : ∀ (l : List Int) (s : List Int × Bool), s.2 = false → (l.foldl (putR1 v) s).2 = false
 | [], _, h => h
 | _ :: r, _, h => fold_false r _ (put_false h)
theorem stepR_false {h : List Int} {most : Int} {i : Nat} {x : Ins} {p : List Int × Int × Bool} (hp : stepR h most false i x = some p) : p.2.2 = false := by
 unfold stepR at hp
 simp only at hp
 split at hp
 · cases hp
 · rw [← Option.some.inj hp]; exact fold_false _ _ rfl
theorem goR_false : ∀ (l : List Ins) (i : Nat) (h : List Int) (most : Int), (goR i l h most false).2 = false
 | [], i, h, most => by simp [goR]
 | x :: r, i, h, most => by
   rw [goR]
   cases hs : stepR h most false i x with
   | none => rfl
   | some p =>
     obtain ⟨h', m', o'⟩ := p
     have : o' = false := stepR_false hs
     subst this
     exact goR_false r _ _ _
theorem step_eq {pr : Int} {nc : Nat} {h : List Int} {top : Int} {i : Nat} {x : Ins} (hf : formedB pr nc x = true) :
    (∀ p, stepH h top i x = some p → stepR h top true i x = some (p.1, p.2, true)) ∧
    (stepH h top i x = none → ∀ p, stepR h top true i x = some p → p.2.2 = false) := by
 have hff := form_facts hf
 have ho : 1 ≤ x.op ∧ x.op ≤ 34 := by
  unfold formedB at hf
  simp only [Bool.and_eq_true, decide_eq_true_eq] at hf
  omega
 obtain ⟨ep, eq⟩ := moves_eq ho.1 ho.2
 obtain ⟨ht1, ht2, ht3⟩ := tgt_jR (x := x)
 have em : mR (h.getD i 0) = max (h.getD i 0) 0 := by unfold mR; split <;> omega
 have e1 : (if h.getD i 0 < 0 then h.set i 0 else h) = h.set i (max (h.getD i 0) 0) := by
  by_cases hn : h.getD i 0 < 0
  · rw [if_pos hn, show max (h.getD i 0) 0 = 0 from by omega]
  · rw [if_neg hn, show max (h.getD i 0) 0 = h.getD i 0 from by omega, set_same]
 have ev : ∀ m, vR m x = aftH m x := fun m => by rw [vR, aftH, ep, eq]
 unfold stepR stepH
 simp only [em, e1, ev, ep]
 generalize max (h.getD i 0) 0 = m
 by_cases hc : m < mvP x ∨ (((x.op : Nat) : Int) = 34 ∧ m ≠ 0)
 · rw [if_pos hc, if_pos hc]
   exact ⟨fun p hp => (by cases hp), fun _ p hp => (by cases hp)⟩
 · rw [if_neg hc, if_neg hc]
   generalize h.set i m = h1
   generalize aftH m x = v
   have key : (∀ h3, ((nextH h1 i x v).bind fun h2 => jumpH h2 x v) = some h3 → (goesR x i).foldl (putR1 v) (h1, true) = (h3, true)) ∧
       (((nextH h1 i x v).bind fun h2 => jumpH h2 x v) = none → ((goesR x i).foldl (putR1 v) (h1, true)).2 = false) := by
    have jmp : ∀ h2 : List Int, (∀ h3, jumpH h2 x v = some h3 → (if 0 ≤ jR x then [jR x] else []).foldl (putR1 v) (h2, true) = (h3, true)) ∧
        (jumpH h2 x v = none → ((if 0 ≤ jR x then [jR x] else []).foldl (putR1 v) (h2, true)).2 = false) := by
     intro h2
     unfold jumpH
     by_cases hs : (tgt x).isSome = true
     · rw [if_pos hs, ht1 hs, if_pos (show 0 ≤ jR x by have := ht1 hs; omega)]
       by_cases hk : okH (h2.getD (jR x).toNat 0) v
       · rw [if_pos hk]
         exact ⟨fun h3 e => by rw [← Option.some.inj e]; exact put_ok hk, fun e => by cases e⟩
       · rw [if_neg hk]
         exact ⟨fun h3 e => (by cases e), fun _ => put_bad hk⟩
     · have hs' : (tgt x).isSome = false := by simpa using hs
       rw [if_neg hs, if_neg (show ¬ 0 ≤ jR x by have := ht2 hs'; omega)]
       exact ⟨fun h3 e => by rw [← Option.some.inj e]; rfl, fun e => by cases e⟩
    unfold goesR nextH
    by_cases hn : ((x.op : Nat) : Int) ≠ 27 ∧ ((x.op : Nat) : Int) ≠ 34
    · rw [if_pos hn, if_pos hn]
      have et : (((i + 1 : Nat) : Int)).toNat = i + 1 := Int.toNat_natCast _
      by_cases hk : okH (h1.getD (i + 1) 0) v
      · rw [if_pos hk, List.foldl_append]
        simp only [List.foldl_cons, List.foldl_nil, Option.bind_some]
        rw [put_ok (by rw [et]; exact hk), et]
        exact jmp _
      · rw [if_neg hk, List.foldl_append]
        simp only [List.foldl_cons, List.foldl_nil, Option.bind_none]
        exact ⟨fun h3 e => (by cases e), fun _ => fold_false _ _ (put_bad (by rw [et]; exact hk))⟩
    · rw [if_neg hn, if_neg hn, List.nil_append]
      simp only [Option.bind_some]
      exact jmp _
   constructor
   · intro p hp
     cases hb : (nextH h1 i x v).bind fun h2 => jumpH h2 x v with
     | none =>
       cases hn : nextH h1 i x v with
       | none => rw [hn] at hp; cases hp
       | some h2 =>
         rw [hn] at hp hb
         simp only [Option.bind_some] at hp hb
         rw [hb] at hp; cases hp
     | some h3 =>
       rw [key.1 h3 hb]
       cases hn : nextH h1 i x v with
       | none => rw [hn] at hb; cases hb
       | some h2 =>
         rw [hn] at hp hb
         simp only [Option.bind_some] at hp hb
         rw [hb] at hp
         rw [← Option.some.inj hp]
   · intro hp p hr
     rw [← Option.some.inj hr]
     refine key.2 ?_
     cases hn : nextH h1 i x v with
     | none => rfl
     | some h2 =>
       rw [hn] at hp
       simp only [Option.bind_some, Option.map_eq_none_iff] at hp ⊢
       exact hp
theorem go_eq {pr : Int} {nc n : Nat} : ∀ (l : List Ins) (i : Nat) (h : List Int) (top : Int), (∀ x ∈ l, formedB pr nc x = true) → i + l.length = n →
    (∀ p, goH i l h top = some p → goR i l h top true = (p.2, decide (p.1.getD n 0 ≤ 0))) ∧ (goH i l h top = none → (goR i l h top true).2 = false)
 | [], i, h, top, _, hn => ⟨fun p hp => by rw [← Option.some.inj hp, goR, Bool.true_and, ← hn]; rfl, fun hp => by cases hp⟩
 | x :: r, i, h, top, hf, hn => by
   have hs := step_eq (h := h) (top := top) (i := i) (hf x (List.mem_cons_self ..))
   rw [goH, goR]
   cases hh : stepH h top i x with
   | none =>
     refine ⟨fun p hp => (by cases hp), fun _ => ?_⟩
     cases hr : stepR h top true i x with
     | none => rfl
     | some p =>
       obtain ⟨h', m', o'⟩ := p
       have : o' = false := hs.2 hh _ hr
       subst this
       exact goR_false r _ _ _
   | some p =>
     rw [hs.1 p hh]
     exact go_eq r (i + 1) p.1 p.2 (fun y hy => hf y (List.mem_cons_of_mem _ hy)) (by rw [← hn, lc1]; omega)
theorem height_eq {pr : Int} {l : List Ins} (hf : ∀ x ∈ l, formedB pr l.length x = true) : heightR l = heightsV l ∨ ((heightR l).2 = false ∧ (heightsV l).2 = false) := by
 have h := go_eq (n := l.length) l 0 (List.replicate (l.length + 1) (-1)) 0 hf (by omega)
 cases hh : goH 0 l (List.replicate (l.length + 1) (-1)) 0 with
 | none => refine .inr ⟨h.2 hh, ?_⟩; rw [heights_none hh]
 | some p => refine .inl ?_; rw [heightR, h.1 p hh, heightsV, hh]
end Go.Proofs.YtllalpnmagpkfaaGreatDoor
