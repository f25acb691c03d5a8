/- Own text. -/
import Derived.Test.YtllalpnmagpkfaaGreatDoorDb
import Derived.Test.YtllalpnmagpkfaaGreatDoorRe
set_option linter.unusedVariables false
set_option linter.unusedSimpArgs false
set_option maxHeartbeats 2000000
set_option maxRecDepth 100000
namespace Go.Proofs.YtllalpnmagpkfaaGreatDoor
open Go.RowKit Go.Flow Go.Mem Go.Sep
def putV (v : Nat) : List Nat := if v < 128 then [v] else (v % 128 + 128) :: putV (v / 128)
 termination_by v
 decreasing_by omega
theorem putV_low {v : Nat} (h : v < 128) : putV v = [v] := by rw [putV, if_pos h]
theorem putV_high {v : Nat} (h : ¬ v < 128) : putV v = (v % 128 + 128) :: putV (v / 128) := by rw [putV, if_neg h]
theorem putV_lt (b : Nat) : ∀ v : Nat, b ∈ putV v → b < 256 := fun v => by
 induction v using Nat.strongRecOn with
 | ind v ih =>
   intro h
   by_cases h1 : v < 128
   · rw [putV_low h1, List.mem_singleton] at h; omega
   · rw [putV_high h1] at h
     rcases List.mem_cons.1 h with h | h
     · omega
     · exact ih (v / 128) (by omega) h
theorem putV_len : ∀ (k v : Nat), v < 128 ^ (k + 1) → 1 ≤ (putV v).length ∧ (putV v).length ≤ k + 1
 | 0, v, h => by rw [putV_low (by omega)]; exact ⟨Nat.le_refl _, Nat.le_refl _⟩
 | k + 1, v, h => by
   by_cases h1 : v < 128
   · rw [putV_low h1]; exact ⟨Nat.le_refl _, Nat.succ_le_succ (Nat.zero_le _)⟩
   · rw [putV_high h1, lc1]
     have := putV_len k (v / 128) (by rw [Nat.pow_succ] at h; omega)
     omega
theorem putV_10 {v : Nat} (h : v < 18446744073709551616) : 1 ≤ (putV v).length ∧ (putV v).length ≤ 10 := putV_len 9 v (Nat.lt_of_lt_of_le h (by decide))
theorem uGo_put (more : List Nat) : ∀ (u i v : Nat), i ≤ 9 → (i = 0 ∨ 0 < u) → u * 2 ^ (7 * i) < 18446744073709551616 → uGo i v (putV u ++ more) = some (v + u * 2 ^ (7 * i), i + (putV u).length) := fun u => by
 induction u using Nat.strongRecOn with
 | ind u ih =>
   intro i v hi h0 hu
   have h9 : i = 9 → u < 2 := fun e => by subst e; have e2 : (2 : Nat) ^ (7 * 9) = 9223372036854775808 := by decide
                                          rw [e2] at hu; omega
   by_cases h1 : u < 128
   · rw [putV_low h1]
     show (if (i = 9 ∧ 1 < u) ∨ (0 < i ∧ u = 0) then none else if u < 128 then some (v + u % 128 * 2 ^ (7 * i), i + 1) else _) = _
     rw [if_neg (by rcases h0 with h0 | h0 <;> omega), if_pos h1, Nat.mod_eq_of_lt h1]; rfl
   · rw [putV_high h1]
     show (if (i = 9 ∧ 1 < u % 128 + 128) ∨ (0 < i ∧ u % 128 + 128 = 0) then none else if u % 128 + 128 < 128 then _ else uGo (i + 1) (v + (u % 128 + 128) % 128 * 2 ^ (7 * i)) (putV (u / 128) ++ more)) = _
     have e : 2 ^ (7 * (i + 1)) = 128 * 2 ^ (7 * i) := by rw [Nat.mul_add, Nat.pow_add, Nat.mul_comm]
     have e2 : u / 128 * (128 * 2 ^ (7 * i)) + u % 128 * 2 ^ (7 * i) = u * 2 ^ (7 * i) := by rw [← Nat.mul_assoc, ← Nat.add_mul]; congr 1; omega
     rw [if_neg (by omega), if_neg (by omega), ih (u / 128) (by omega) (i + 1) _ (by omega) (.inr (by omega)) (by rw [e]; omega), e, lc1, show (u % 128 + 128) % 128 = u % 128 by omega]
     simp only [Option.some.injEq, Prod.mk.injEq]
     omega
theorem uintV_put {u : Nat} (h : u < 18446744073709551616) (more : List Nat) : uintV (putV u ++ more) = some (u, (putV u).length) := by
 have := uGo_put more u 0 0 (by decide) (.inl rfl) (by simpa using h)
 unfold uintV
 rw [this]; simp
theorem uGo_cut : ∀ (u i v : Nat) (s r : List Nat), putV u = s ++ r → r ≠ [] → uGo i v s = none := fun u => by
 induction u using Nat.strongRecOn with
 | ind u ih =>
   intro i v s r h hr
   cases s with
   | nil => rfl
   | cons b s =>
     by_cases h1 : u < 128
     · rw [putV_low h1, List.cons_append] at h
       have h2 : [] = s ++ r := (List.cons.inj h).2
       exact absurd (List.append_eq_nil_iff.1 h2.symm).2 hr
     · rw [putV_high h1, List.cons_append] at h
       obtain ⟨e1, e2⟩ := List.cons.inj h
       show (if (i = 9 ∧ 1 < b) ∨ (0 < i ∧ b = 0) then none else if b < 128 then _ else uGo (i + 1) _ s) = none
       rw [ih (u / 128) (by omega) (i + 1) _ s r e2 hr, if_neg (show ¬ b < 128 by omega)]
       split <;> rfl
theorem uintV_cut {u : Nat} {s r : List Nat} (h : putV u = s ++ r) (hr : r ≠ []) : uintV s = none := uGo_cut u 0 0 s r h hr
theorem natV_put {u : Nat} (h : u < 18446744073709551616) (more : List Nat) : natV (putV u ++ more) = some (u, more) := by
 unfold natV; rw [uintV_put h]; show some (u, (putV u ++ more).drop _) = _; rw [List.drop_left]
def zigV (n : Int) : Nat := if n < 0 then (-2 * n - 1).toNat else (2 * n).toNat
theorem zigV_lt {n : Int} (h0 : -9223372036854775808 ≤ n) (h1 : n ≤ 9223372036854775807) : zigV n < 18446744073709551616 := by unfold zigV; split <;> omega
theorem zz_zig (n : Int) : zzV (zigV n) = n := by
 unfold zzV zigV
 by_cases h : n < 0
 · rw [if_pos h, if_pos (by omega)]; omega
 · rw [if_neg h, if_neg (by omega)]; omega
theorem intV_put {n : Int} (h0 : -9223372036854775808 ≤ n) (h1 : n ≤ 9223372036854775807) (more : List Nat) : intV (putV (zigV n) ++ more) = some (n, more) := by
 unfold intV; rw [uintV_put (zigV_lt h0 h1)]; show some (zzV (zigV n), (putV (zigV n) ++ more).drop _) = _; rw [List.drop_left, zz_zig]
theorem smallV_put {n : Int} (h0 : LO ≤ n) (h1 : n ≤ HI) (more : List Nat) : smallV (putV (zigV n) ++ more) = some (n, more) := by
 have h0' : (-2147483648 : Int) ≤ n := h0
 have h1' : n ≤ (2147483647 : Int) := h1
 unfold smallV; rw [uintV_put (zigV_lt (by omega) (by omega))]
 show (if zzV (zigV n) < LO ∨ HI < zzV (zigV n) then none else some (zzV (zigV n), (putV (zigV n) ++ more).drop _)) = _
 rw [zz_zig, if_neg (by show ¬ (n < -2147483648 ∨ 2147483647 < n); omega), List.drop_left]
structure InS (x : Ins) : Prop where
 o1 : 1 ≤ x.op
 o2 : x.op ≤ 34
 a1 : LO ≤ x.a
 a2 : x.a ≤ HI
 b1 : LO ≤ x.b
 b2 : x.b ≤ HI
 n1 : -9223372036854775808 ≤ x.n
 n2 : x.n ≤ 9223372036854775807
def inB (x : Ins) : List Nat := x.op :: (putV (zigV x.a) ++ (putV (zigV x.b) ++ putV (zigV x.n)))
theorem inB_app (x : Ins) (more : List Nat) : inB x ++ more = x.op :: (putV (zigV x.a) ++ (putV (zigV x.b) ++ (putV (zigV x.n) ++ more))) := by
 unfold inB; rw [List.cons_append, List.append_assoc, List.append_assoc]
theorem inB_read {x : Ins} (h : InS x) (more : List Nat) : instrV (inB x ++ more) = some (x, more) := by
 rw [inB_app]
 show (if x.op < 1 ∨ 34 < x.op then none else (smallV _).bind _) = _
 rw [if_neg (by have := h.o1; have := h.o2; omega), smallV_put h.a1 h.a2]
 show (smallV _).bind _ = _
 rw [smallV_put h.b1 h.b2]
 show (intV _).map _ = _
 rw [intV_put h.n1 h.n2]; rfl
theorem insB_read (more : List Nat) : ∀ (l : List Ins), (∀ x ∈ l, InS x) → instrsV l.length (l.flatMap inB ++ more) = some (l, more)
 | [], _ => rfl
 | x :: r, h => by
   rw [List.flatMap_cons, List.append_assoc, lc1, instrs_step (inB_read (h x (List.mem_cons_self ..)) _), insB_read more r fun y hy => h y (List.mem_cons_of_mem _ hy)]; rfl
def bytesV (pr st : Nat) (l : List Ins) : List Nat := putV pr ++ (putV st ++ (putV l.length ++ l.flatMap inB))
theorem bytesV_head {pr st : Nat} {l : List Ins} (h1 : pr ≤ 255) (h2 : st ≤ 255) (h3 : l.length ≤ 4000) (s : List Nat) : headV (putV pr ++ (putV st ++ (putV l.length ++ s))) = some (pr, st, l.length, s) :=
 headV_4 (natV_put (by omega) _) (natV_put (by omega) _) (natV_put (by omega) _)
theorem readV_bytes {pr st : Nat} {l : List Ins} (h1 : pr ≤ 255) (h2 : st ≤ 255) (h3 : l.length ≤ 4000) (h : ∀ x ∈ l, InS x) (more : List Nat) : readV (bytesV pr st l ++ more) = ((pr, st, l), (bytesV pr st l).length, 0) := by
 have e : bytesV pr st l ++ more = putV pr ++ (putV st ++ (putV l.length ++ (l.flatMap inB ++ more))) := by unfold bytesV; simp only [List.append_assoc]
 have := readV_ok (p := bytesV pr st l ++ more) (by rw [e]; exact bytesV_head h1 h2 h3 _) (by omega) (insB_read more l h)
 rw [this, lap, Nat.add_sub_cancel]
theorem instrs_cut {l : List Ins} {x : Ins} (h : ∀ y ∈ l, InS y) {s : List Nat} (hs : instrV s = none) : instrsV (l ++ [x]).length (l.flatMap inB ++ s) = none := by
 induction l with
 | nil => exact instrs_bad hs
 | cons y r ih =>
   rw [List.flatMap_cons, List.append_assoc, List.cons_append, lc1, instrs_step (inB_read (h y (List.mem_cons_self ..)) _), ih fun z hz => h z (List.mem_cons_of_mem _ hz)]; rfl
theorem inB_cut {x : Ins} (h : InS x) {s r : List Nat} (he : putV (zigV x.n) = s ++ r) (hr : r ≠ []) : instrV (x.op :: (putV (zigV x.a) ++ (putV (zigV x.b) ++ s))) = none := by
 show (if x.op < 1 ∨ 34 < x.op then none else (smallV _).bind _) = _
 rw [if_neg (by have := h.o1; have := h.o2; omega), smallV_put h.a1 h.a2]
 show (smallV _).bind _ = _
 rw [smallV_put h.b1 h.b2]
 show (intV _).map _ = _
 unfold intV
 rw [uintV_cut he hr]; rfl
theorem putV_last (v : Nat) : ∃ s b, putV v = s ++ [b] := by
 have h : putV v ≠ [] := by
  by_cases h1 : v < 128
  · rw [putV_low h1]; exact List.cons_ne_nil _ _
  · rw [putV_high h1]; exact List.cons_ne_nil _ _
 exact ⟨_, _, (List.dropLast_concat_getLast h).symm⟩
theorem take_last (s : List Nat) (b : Nat) : (s ++ [b]).take ((s ++ [b]).length - 1) = s := by
 rw [lap, List.length_singleton, Nat.add_sub_cancel, List.take_left]
theorem readV_cut {pr st : Nat} {l : List Ins} (h1 : pr ≤ 255) (h2 : st ≤ 255) (h3 : l.length ≤ 4000) (h : ∀ x ∈ l, InS x) : readV ((bytesV pr st l).take ((bytesV pr st l).length - 1)) = ((0, 0, []), 0, 6) := by
 rcases List.eq_nil_or_concat l with rfl | ⟨l', x, rfl⟩
 · have e : bytesV pr st [] = (putV pr ++ putV st) ++ [0] := by show putV pr ++ (putV st ++ (putV 0 ++ [])) = _; rw [putV_low (v := 0) (by decide)]; simp
   rw [e, take_last]
   refine readV_head (headV_3 (s := putV st) (s2 := []) (b := st) (natV_put (by omega) _) ?_ rfl)
   have := natV_put (u := st) (by omega) []
   rwa [List.append_nil] at this
 · rw [List.concat_eq_append] at *
   obtain ⟨s, b, hs⟩ := putV_last (zigV x.n)
   have e : bytesV pr st (l' ++ [x]) = (putV pr ++ (putV st ++ (putV (l' ++ [x]).length ++ (l'.flatMap inB ++ (x.op :: (putV (zigV x.a) ++ (putV (zigV x.b) ++ s))))))) ++ [b] := by
    unfold bytesV
    rw [List.flatMap_append, List.flatMap_singleton]
    unfold inB
    rw [hs]; simp only [List.append_assoc, List.cons_append]
   rw [e, take_last]
   exact readV_bad (bytesV_head h1 h2 h3 _) (by omega) (instrs_cut (fun y hy => h y (List.mem_append_left _ hy)) (inB_cut (h x (List.mem_append_right _ (List.mem_singleton_self _))) hs (List.cons_ne_nil _ _)))
theorem inB_mem {x : Ins} (h : InS x) {b : Nat} (hb : b ∈ inB x) : b < 256 := by
 unfold inB at hb
 have := h.o2
 rcases List.mem_cons.1 hb with rfl | hb
 · omega
 · rcases List.mem_append.1 hb with hb | hb
   · exact putV_lt _ _ hb
   · rcases List.mem_append.1 hb with hb | hb <;> exact putV_lt _ _ hb
theorem bytesV_mem {pr st : Nat} {l : List Ins} (h : ∀ x ∈ l, InS x) {b : Nat} (hb : b ∈ bytesV pr st l) : b < 256 := by
 unfold bytesV at hb
 rcases List.mem_append.1 hb with hb | hb
 · exact putV_lt _ _ hb
 · rcases List.mem_append.1 hb with hb | hb
   · exact putV_lt _ _ hb
   · rcases List.mem_append.1 hb with hb | hb
     · exact putV_lt _ _ hb
     · obtain ⟨x, hx, hb⟩ := List.mem_flatMap.1 hb
       exact inB_mem (h x hx) hb
theorem inB_len {x : Ins} (h : InS x) : (inB x).length ≤ 31 := by
 unfold inB
 have ha1 : (-2147483648 : Int) ≤ x.a := h.a1
 have ha2 : x.a ≤ (2147483647 : Int) := h.a2
 have hb1 : (-2147483648 : Int) ≤ x.b := h.b1
 have hb2 : x.b ≤ (2147483647 : Int) := h.b2
 have h1 := putV_10 (zigV_lt (n := x.a) (by omega) (by omega))
 have h2 := putV_10 (zigV_lt (n := x.b) (by omega) (by omega))
 have h3 := putV_10 (zigV_lt h.n1 h.n2)
 rw [lc1, lap, lap]; omega
theorem insB_len : ∀ (l : List Ins), (∀ x ∈ l, InS x) → (l.flatMap inB).length ≤ 31 * l.length
 | [], _ => Nat.zero_le _
 | x :: r, h => by
   have h1 := inB_len (h x (List.mem_cons_self ..))
   have h2 := insB_len r fun y hy => h y (List.mem_cons_of_mem _ hy)
   rw [List.flatMap_cons, lap, lc1]; omega
theorem bytesV_len {pr st : Nat} {l : List Ins} (h1 : pr ≤ 255) (h2 : st ≤ 255) (h3 : l.length ≤ 4000) (h : ∀ x ∈ l, InS x) : 3 ≤ (bytesV pr st l).length ∧ (bytesV pr st l).length ≤ 200000 := by
 have e1 := putV_10 (v := pr) (by omega)
 have e2 := putV_10 (v := st) (by omega)
 have e3 := putV_10 (v := l.length) (by omega)
 have e4 := insB_len l h
 unfold bytesV
 rw [lap, lap, lap]; omega
open Go.RowKit Go.Flow Go.Mem Go.Sep Go.In
theorem num_each {c : Ct} (hok : c.Ok) {np n : Nat} : Each c np (fun x => 0 ≤ x.n ∧ x.n < 9) ∧ EachJ n c.ints (fun x => 0 ≤ x.n ∧ x.n < 9) := by
 refine ⟨⟨fun k h1 h2 => ⟨h1, h2⟩, fun op ho => ?_, fun k hk => ?_, fun k hk => ?_, fun k hk => ?_, fun k hk => ?_, fun op ho => ?_, fun to h k h1 h2 h3 => ?_, fun h k h1 h2 => ?_⟩, ⟨fun op t ho ht => ?_, fun t ht => ?_, fun k t hk ht => ?_⟩⟩ <;> dsimp only <;> omega
theorem good_num {F : Fl} (h : GoodF F.pure) {ci : Nat} {c : Cm} (hc : F.comps[ci]? = some c) {v : Vs} (hv : v ∈ c.vers) {x : Hd} (hx : x ∈ v.l) : ∀ i ∈ codeR F c x, 0 ≤ i.n ∧ i.n < 9 := by
 obtain ⟨ct, ar, ok⟩ := h.okC (pure_comp hc)
 have hgv := ok.vers v.pure (List.mem_map.2 ⟨v, hv, rfl⟩)
 obtain ⟨k, hk⟩ := List.getElem?_of_mem hx
 have gh := hgv.2.2 k x.pure (by show (v.l.map Hd.pure)[k]? = _; rw [List.getElem?_map, hk]; rfl)
 obtain ⟨np, hnp, hps, hst⟩ := gh.ps
 have hnp2 : np ≤ 2 := (ok.ok.each ar (mog ok.arr)).2.2 np (mog hnp)
 have hps : x.ps = nms 112 np := hps
 have hst : ∀ s ∈ St.pL x.body, StE ct np 3 s := hst
 have his : (ccR F.pure c.name c.vars (nms 112 np)).Is ct np := ok.isR hnp2
 have fe := num_each ok.ok (np := np) (n := (codeR F c x).length)
 have e1 : codeR F c x = cB (ccR F.pure c.name c.vars (nms 112 np)) (St.pL x.body) 0 := by show cB (ccR F.pure c.name c.vars x.ps) _ _ = _; rw [hps]
 have := cB_all (Q := fun i => 0 ≤ i.n ∧ i.n < 9) (n := (codeR F c x).length) (St.pL x.body) 0 (cc := ccR F.pure c.name c.vars (nms 112 np)) (fun s hs p hp => (hst s hs).all ok.ok fe.1 fe.2 his p hp) (by rw [← e1]; omega)
 rw [← e1] at this
 exact this
theorem inS_of {pr : Int} {nc : Nat} {x : Ins} (h : formR pr nc x = true) (hc : nc ≤ 4000) (hn : 0 ≤ x.n ∧ x.n < 9) : InS x := by
 have ho := formR_op h
 unfold formR uA uB uN jR at h
 simp only [Bool.and_eq_true, Bool.not_eq_true', Bool.or_eq_false_iff, Bool.and_eq_false_iff, Bool.not_eq_false', decide_eq_false_iff_not, decide_eq_true_eq, Bool.or_eq_true] at h
 have ha : -2147483648 ≤ x.a ∧ x.a ≤ 2147483647 ∧ -2147483648 ≤ x.b ∧ x.b ≤ 2147483647 := by
  by_cases h27 : ((x.op : Nat) : Int) = 27 ∨ ((x.op : Nat) : Int) = 28
  · rw [if_pos h27] at h; omega
  · rw [if_neg h27] at h
    by_cases h32 : ((x.op : Nat) : Int) = 32 ∨ ((x.op : Nat) : Int) = 33
    · rw [if_pos h32] at h; omega
    · rw [if_neg h32] at h; omega
 exact ⟨ho.1, ho.2, ha.1, ha.2.1, ha.2.2.1, ha.2.2.2, by omega, by omega⟩
theorem code_st {F : Fl} (h : GoodF F.pure) {ci : Nat} {c : Cm} (hc : F.comps[ci]? = some c) {v : Vs} (hv : v ∈ c.vers) {x : Hd} (hx : x ∈ v.l) : 0 ≤ (heightR (codeR F c x)).1 ∧ (heightR (codeR F c x)).1 ≤ 10 := by
 have g := good_code h hc hv hx
 obtain ⟨ct, ar, ok⟩ := h.okC (pure_comp hc)
 have hgv := ok.vers v.pure (List.mem_map.2 ⟨v, hv, rfl⟩)
 obtain ⟨k, hk⟩ := List.getElem?_of_mem hx
 have gh := hgv.2.2 k x.pure (by show (v.l.map Hd.pure)[k]? = _; rw [List.getElem?_map, hk]; rfl)
 obtain ⟨np, hnp, hps, hst⟩ := gh.ps
 have hst : ∀ s ∈ St.pL x.body, StE ct np 3 s := hst
 have hwf : ∀ s ∈ St.pL x.body, WfS s := fun s hs => (hst s hs).wf ok.ok
 obtain ⟨t, ht, h0, h1⟩ := body_heights (ccR_loads _ _ _ _) hwf
 have hps := g.ps
 have e : (heightR (codeR F c x)).1 = t := by
  rcases height_eq (pr := ((x.ps.length : Nat) : Int)) (l := codeR F c x) (fun i hi => by rw [← form_eq ⟨by omega, by omega⟩]; exact g.form i hi) with h | h
  · rw [h]; show (heightsV (codeR F c x)).1 = t; rw [ht]
  · have h2 : (heightsV (codeR F c x)).2 = false := h.2
    rw [ht] at h2; cases h2
 rw [e]; exact ⟨h0, h1⟩
theorem rU_byt {F : Fl} (h : GoodF F.pure) {ci : Nat} {c : Cm} (hc : F.comps[ci]? = some c) (vn : Nat) (s : ByteArray) : (∀ x ∈ (rU F c vn s).l, InS x) ∧ 0 ≤ (rU F c vn s).st ∧ (rU F c vn s).st ≤ 10 := by
 have hf := rU_len h hc vn s
 cases ho : fndV s none (c.vers.take vn) with
 | none =>
   have e : rU F c vn s = ⟨false, 0, 0, []⟩ := by unfold rU; rw [ho]
   rw [e]; exact ⟨fun x hx => (by cases hx), Int.le_refl _, (show (0 : Int) ≤ 10 by decide)⟩
 | some x =>
   have e : rU F c vn s = ⟨true, x.ps.length, (heightR (codeR F c x)).1, codeR F c x⟩ := by unfold rU; rw [ho]
   obtain ⟨v, hv, hx⟩ := fnd_good h hc ho
   have g := good_num h hc hv hx
   have k := code_st h hc hv hx
   refine ⟨fun i hi => inS_of (hf.2.2 i hi) (by omega) (g i (by rw [e] at hi; exact hi)), ?_, ?_⟩
   · rw [e]; exact k.1
   · rw [e]; exact k.2
open Go.RowKit Go.Flow Go.Mem Go.Sep
theorem u64w (m : Int) : IntKind.u64.wrap m = m % 18446744073709551616 := by simp [IntKind.wrap, IntKind.bits, IntKind.signed]
theorem u8m (m : Int) : IntKind.u8.wrap m = m % 256 := by simp [IntKind.wrap, IntKind.bits, IntKind.signed]
section
variable {P : Program} {o : Oper} {ρ : Slots} {Γ : List Chunk} {x y : Operand} {t t' : TypeId} {a b j : Nat}
theorem Rd.shlC (ho : o.op = .binOp .shl t x y t') (hx : ev ρ x = some (.int .u64 (a : Int))) (hy : ev ρ y = some (.int .u64 (j : Int))) (hj : j < 64) : Rd P o ρ Γ (.int .u64 ((a * 2 ^ j % 18446744073709551616 : Nat) : Int)) := Rd.bin ho hx hy fun w => by
 have h1 : ¬ ((j : Int) < 0) := by omega
 have h2 : Min.min j IntKind.u64.bits = j := Nat.min_eq_left (by show j ≤ 64; omega)
 have e : (a : Int) * 2 ^ j = ((a * 2 ^ j : Nat) : Int) := by simp
 have e2 : IntKind.u64.wrap ((a * 2 ^ j : Nat) : Int) = ((a * 2 ^ j % 18446744073709551616 : Nat) : Int) := by rw [u64w, Int.natCast_emod]; rfl
 simp only [eqGuard, binOp, Op.shift, h1, if_false, Int.toNat_natCast, h2, e, e2]
 simp
theorem Rd.notU (ho : o.op = .unOp .xor t x) (hx : ev ρ x = some (.int .u64 (a : Int))) (h : a < 18446744073709551616) : Rd P o ρ Γ (.int .u64 ((18446744073709551615 - a : Nat) : Int)) := fun ac w ha _ => by
 have e : (BitVec.ofInt 64 (-1) ^^^ BitVec.ofInt 64 (a : Int)).toNat = 18446744073709551615 - a := by
  rw [ofIntM, BitVec.xor_comm, BitVec.xor_allOnes, BitVec.toNat_not, show (BitVec.ofInt 64 (a : Int)).toNat = a from ofIntU h]
 have e2 : IntKind.u64.wrap ((18446744073709551615 - a : Nat) : Int) = ((18446744073709551615 - a : Nat) : Int) := by rw [u64w]; omega
 have hm : (IntKind.u64.max % 18446744073709551616).toNat = 18446744073709551615 := by decide
 have e5 : 18446744073709551615 ^^^ a = 18446744073709551615 - a := by
  have h1 := BitVec.toNat_xor (BitVec.ofInt 64 (-1)) (BitVec.ofInt 64 (a : Int))
  rw [e, show (BitVec.ofInt 64 (a : Int)).toNat = a from ofIntU h, show (BitVec.ofInt 64 (-1)).toNat = 18446744073709551615 by decide] at h1
  exact h1.symm
 unfold execOp
 have e3 : IntKind.u64.bits = 64 := rfl
 simp [ho, ha.eval hx, Op.unary, Op.intBits, IntKind.signed, e3]
 rw [hm, Nat.mod_eq_of_lt h, e5]
 exact e2
theorem Rd.or128 (ho : o.op = .binOp .or t x y t') (hx : ev ρ x = some (.int .u8 (a : Int))) (hy : ev ρ y = some (.int .u8 128)) (h : a < 256) : Rd P o ρ Γ (.int .u8 ((a % 128 + 128 : Nat) : Int)) := Rd.bin ho hx hy fun w => by
 have all : ∀ a : Nat, a < 256 → IntKind.u8.wrap (((BitVec.ofInt IntKind.u8.bits (a : Int)) ||| (BitVec.ofInt IntKind.u8.bits 128)).toNat : Int) = ((a % 128 + 128 : Nat) : Int) := by decide +kernel
 have e := all a h
 simp only [eqGuard, binOp, Op.intBits, e]
 simp
theorem Mk.make0R {α : Type} (enc : α → List Value) {e : TypeId} {size bytes c : Nat} {zs : List Value} {kl kc : IntKind} (ho : o.op = .makeSlice t x y) (ht : SliceTy P t e size bytes zs) (hx : ev ρ x = some (.int kl 0)) (hy : ev ρ y = some (.int kc (c : Int))) (hb : bytes * c ≤ 281474976710656) (hc : c ≤ maxLen) :
    Mk P o ρ Γ (fun v N => ∃ b, v = .slice (some ⟨b, 0, none⟩) ([] : List α).length c ∧ N = [rows enc e size (some ⟨b, 0, none⟩) c ([] : List α)]) := Mk.make0 ho ht hx hy hb hc
end
open Go.RowKit Go.Flow Go.Mem Go.Sep Go.In
theorem nzig_fn (n : Int) (h0 : -9223372036854775808 ≤ n) (h1 : n ≤ 9223372036854775807) :
    Does Tryz.prog 137 [.int .i64 n] [] (fun r _ => r = .int .u64 ((zigV n : Nat) : Int)) := by
 refine Does.enter Tryz.func137 rfl Tryz.ntmps137 rfl (fun w0 => ?_)
 refine To.s (To.g (To.a (To.n (To.t (To.s (To.s (To.g ?_)))))))
 refine To.m ?_
 refine To.lt ?_
 refine To.n (To.t (To.cp rfl (fun c4 => ?_) (fun c4 => ?_)))
 refine To.s (To.g (To.m ?_))
 refine To.r (Rd.as (v' := .int .u64 (((n + 18446744073709551616).toNat : Nat) : Int)) (congrArg (Value.int .u64) (by rw [u64w]; omega)) (Rd.convW rfl rfl Tryz.underlying2 Tryz.underlying227)) ?_
 refine To.r (Rd.shlC (a := (n + 18446744073709551616).toNat) (j := 1) rfl rfl rfl (by omega)) ?_
 refine To.r (Rd.notU (a := (n + 18446744073709551616).toNat * 2 ^ 1 % 18446744073709551616) rfl rfl (by omega)) ?_
 refine To.a (To.n (To.t (To.rt (To.tr ?_))))
 refine To.end1 (.inl rfl) Tryz.results137 rfl ?_
 refine congrArg (fun z : Nat => Value.int .u64 (z : Int)) ?_
 unfold zigV
 rw [if_pos (by omega)]
 omega
 refine To.sp (To.t (To.s (To.g (To.m ?_))))
 refine To.r (Rd.as (v' := .int .u64 ((n.toNat : Nat) : Int)) (congrArg (Value.int .u64) (by rw [u64w]; omega)) (Rd.convW rfl rfl Tryz.underlying2 Tryz.underlying227)) ?_
 refine To.r (Rd.shlC (a := n.toNat) (j := 1) rfl rfl rfl (by omega)) ?_
 refine To.a (To.n (To.t (To.rt ?_)))
 refine To.end1 (.inl rfl) Tryz.results137 rfl ?_
 refine congrArg (fun z : Nat => Value.int .u64 (z : Int)) ?_
 unfold zigV
 rw [if_neg (by omega)]
 omega
theorem rzig_fn (n : Int) (h0 : -9223372036854775808 ≤ n) (h1 : n ≤ 9223372036854775807) :
    Does Tryz.prog 85 [.int .i64 n] [] (fun r _ => r = .int .u64 ((zigV n : Nat) : Int)) := by
 refine Does.enter Tryz.func85 rfl Tryz.ntmps85 rfl (fun w0 => ?_)
 refine To.s (To.g (To.a (To.n (To.t (To.s (To.s (To.g ?_)))))))
 refine To.m ?_
 refine To.lt ?_
 refine To.n (To.t (To.cp rfl (fun c4 => ?_) (fun c4 => ?_)))
 refine To.s (To.g (To.m ?_))
 refine To.r (Rd.add64 rfl rfl rfl (by omega)) ?_
 refine To.r (Rd.as (v' := .int .i64 (-(n + 1))) (congrArg (Value.int .i64) (IntWalk.i64_in _ (by omega))) (Rd.negW rfl rfl)) ?_
 refine To.r (Rd.as (v' := .int .u64 (((-(n + 1)).toNat : Nat) : Int)) (congrArg (Value.int .u64) (by rw [u64w]; omega)) (Rd.convW rfl rfl Tryz.underlying2 Tryz.underlying227)) ?_
 refine To.r (Rd.mulU (a := 2) (b := (-(n + 1)).toNat) rfl rfl rfl (by omega)) ?_
 refine To.r (Rd.addU (a := 2 * (-(n + 1)).toNat) (b := 1) rfl rfl rfl) ?_
 refine To.a (To.n (To.t (To.rt (To.tr ?_))))
 refine To.end1 (.inl rfl) Tryz.results85 rfl ?_
 refine congrArg (fun z : Nat => Value.int .u64 (z : Int)) ?_
 unfold zigV
 rw [if_pos (by omega)]
 omega
 refine To.sp (To.t (To.s (To.g (To.m ?_))))
 refine To.r (Rd.as (v' := .int .u64 ((n.toNat : Nat) : Int)) (congrArg (Value.int .u64) (by rw [u64w]; omega)) (Rd.convW rfl rfl Tryz.underlying2 Tryz.underlying227)) ?_
 refine To.r (Rd.mulU (a := 2) (b := n.toNat) rfl rfl rfl (by omega)) ?_
 refine To.a (To.n (To.t (To.rt ?_)))
 refine To.end1 (.inl rfl) Tryz.results85 rfl ?_
 refine congrArg (fun z : Nat => Value.int .u64 (z : Int)) ?_
 unfold zigV
 rw [if_neg (by omega)]
 omega
theorem nput_fn (A : Option Addr) (q : Nat) (l : List Nat) (hl : l.length ≤ 1000000) (v : Nat) (hv : v < 18446744073709551616) :
    Does Tryz.prog 136 [.slice A l.length q, .int .u64 ((v : Nat) : Int)] [rows encY 5 1 A q l] (fun r Γ' => ∃ (A' : Option Addr) (q' : Nat), r = .slice A' (l ++ putV v).length q' ∧ Γ' = [rows encY 5 1 A' q' (l ++ putV v)]) := by
 refine Does.enter Tryz.func136 rfl Tryz.ntmps136 rfl (fun w0 => ?_)
 refine To.s (To.g (To.a (To.n (To.t (To.s (To.b ?_))))))
 refine To.loopS (fun mz ρ Γ => ∃ (Ap : Option Addr) (qp : Nat) (O : List Nat) (u : Nat), ρ = [(0, .slice Ap O.length qp), (1, .int .u64 ((u : Nat) : Int))] ∧ Γ = [rows encY 5 1 Ap qp O] ∧ mz = u + 1 ∧ (u < 18446744073709551616) ∧ (l ++ putV v = O ++ putV u)) (v + 1) ⟨⟨A, q, l, v, rfl, rfl, rfl, hv, rfl⟩, ⟨rfl, rfl, trivial⟩⟩ ?_
 rintro mz _ _ ⟨Ap, qp, O, u, rfl, rfl, rfl, hu, hO⟩
 have hOl : O.length ≤ 2000000 := by have h1 := congrArg List.length hO; rw [lap, lap] at h1; have := putV_10 hv; have := putV_10 hu; omega
 refine To.s (To.s (To.g (To.m ?_)))
 refine To.gq ?_
 refine To.n (To.t (To.cp rfl (fun c6 => ?_) (fun c6 => ?_)))
 refine To.sp (To.t (To.b (To.s (To.g (To.m ?_)))))
 refine To.m ?_
 refine To.r (Rd.as (v' := .int .u8 ((u % 256 : Nat) : Int)) (congrArg (Value.int .u8) (by rw [u8m]; omega)) (Rd.convW rfl rfl Tryz.underlying227 Tryz.underlying5)) ?_
 refine To.r (Rd.as (v' := .int .u8 ((u % 128 + 128 : Nat) : Int)) (congrArg (fun z : Nat => Value.int .u8 (z : Int)) (show u % 256 % 128 + 128 = u % 128 + 128 by omega)) (Rd.or128 (a := u % 256) rfl rfl rfl (by omega))) ?_
 refine To.mk rfl rfl rfl (Mk.sN (us := [.int .u8 ((u % 128 + 128 : Nat) : Int)]) rfl s22 rfl rfl rfl rfl rfl rfl) ?_
 rintro _ _ ⟨b11, rfl, rfl⟩
 refine To.ge rfl rfl rfl (Ge.append1 encY_ok (i := 1) (j := 0) (el := (u % 128 + 128)) rfl s22 rfl rfl rfl rfl rfl (by first | omega | (simp; done) | (simp; omega)) (by first | omega | (simp; done) | (simp; omega))) ?_
 rintro _ _ ⟨A12, q12, rfl, rfl⟩
 refine To.a (To.n (To.t (To.g ?_)))
 refine To.m ?_
 refine To.r (Rd.as (v' := .int .u64 ((u / 128 : Nat) : Int)) (rfl) (Rd.shrK (a := u) (j := 7) rfl rfl rfl (by simp only [IntKind.bits]; omega))) ?_
 refine To.a (To.n (To.bn (To.t ?_)))
 refine To.del0 (To.agS ((u / 128) + 1) (by omega) ⟨⟨A12, q12, (O ++ [(u % 128 + 128)]), u / 128, rfl, rfl, rfl, (by omega), (by rw [hO, putV_high (by omega), List.append_assoc]; rfl)⟩, ⟨rfl, rfl, trivial⟩⟩)
 refine To.ex (To.tx (To.tx (To.bx (To.t (To.s (To.g (To.m ?_)))))))
 refine To.m ?_
 refine To.r (Rd.conv rfl rfl Tryz.underlying227 Tryz.underlying5 (IntWalk.u8_in _ (by omega))) ?_
 refine To.mk rfl rfl rfl (Mk.sN (us := [.int .u8 ((u : Nat) : Int)]) rfl s22 rfl rfl rfl rfl rfl rfl) ?_
 rintro _ _ ⟨b18, rfl, rfl⟩
 refine To.ge rfl rfl rfl (Ge.append1 encY_ok (i := 1) (j := 0) (el := u) rfl s22 rfl rfl rfl rfl rfl (by first | omega | (simp; done) | (simp; omega)) (by first | omega | (simp; done) | (simp; omega))) ?_
 rintro _ _ ⟨A19, q19, rfl, rfl⟩
 refine To.a (To.n (To.t (To.rt (To.del0 ?_))))
 refine To.end1 (.inl rfl) Tryz.results136 rfl ?_
 rw [hO, putV_low (by omega)]
 exact ⟨_, _, rfl, rfl⟩
theorem rput_fn (v : Nat) (hv : v < 18446744073709551616) :
    Does Tryz.prog 84 [.int .u64 ((v : Nat) : Int)] [] (fun r Γ' => ∃ (A' : Option Addr) (q' : Nat), r = .slice A' (putV v).length q' ∧ Γ' = [rows encY 5 1 A' q' (putV v)]) := by
 refine Does.enter Tryz.func84 rfl Tryz.ntmps84 rfl (fun w0 => ?_)
 refine To.s (To.g (To.a (To.n (To.t (To.s (To.g ?_))))))
 refine To.a (To.n (To.t (To.s (To.b ?_))))
 refine To.nilRow (encY) 5 1 (To.loopS (fun mz ρ Γ => ∃ (Ap : Option Addr) (qp : Nat) (O : List Nat) (u : Nat), ρ = [(3, .slice Ap O.length qp), (0, .int .u64 ((u : Nat) : Int))] ∧ Γ = [rows encY 5 1 Ap qp O] ∧ mz = u + 1 ∧ (u < 18446744073709551616) ∧ (putV v = O ++ putV u)) (v + 1) ⟨⟨none, 0, ([] : List Nat), v, rfl, rfl, rfl, hv, rfl⟩, ⟨rfl, rfl, trivial⟩⟩ ?_)
 rintro mz _ _ ⟨Ap, qp, O, u, rfl, rfl, rfl, hu, hO⟩
 have hOl : O.length ≤ 2000000 := by have h1 := congrArg List.length hO; rw [lap] at h1; have := putV_10 hv; have := putV_10 hu; omega
 refine To.s (To.s (To.g (To.m ?_)))
 refine To.gq ?_
 refine To.n (To.t (To.cp rfl (fun c5 => ?_) (fun c5 => ?_)))
 refine To.sp (To.t (To.b (To.s (To.g (To.m ?_)))))
 refine To.m ?_
 refine To.r (Rd.remN (a := u) (b := 128) rfl rfl rfl (by omega)) ?_
 refine To.r (Rd.conv rfl rfl Tryz.underlying227 Tryz.underlying5 (IntWalk.u8_in _ (by omega))) ?_
 refine To.r (Rd.as (v' := .int .u8 ((u % 128 + 128 : Nat) : Int)) (congrArg (Value.int .u8) (by omega)) (Rd.add (m := ((u % 128 : Nat) : Int)) (n := 128) rfl rfl rfl (IntWalk.u8_in _ (by omega)))) ?_
 refine To.mk rfl rfl rfl (Mk.sN (us := [.int .u8 ((u % 128 + 128 : Nat) : Int)]) rfl s22 rfl rfl rfl rfl rfl rfl) ?_
 rintro _ _ ⟨b11, rfl, rfl⟩
 refine To.ge rfl rfl rfl (Ge.append1 encY_ok (i := 1) (j := 0) (el := (u % 128 + 128)) rfl s22 rfl rfl rfl rfl rfl (by first | omega | (simp; done) | (simp; omega)) (by first | omega | (simp; done) | (simp; omega))) ?_
 rintro _ _ ⟨A12, q12, rfl, rfl⟩
 refine To.a (To.n (To.t (To.g ?_)))
 refine To.m ?_
 refine To.r (Rd.quoU (a := u) (b := 128) rfl rfl rfl (by omega) (by omega)) ?_
 refine To.a (To.n (To.bn (To.t ?_)))
 refine To.del0 (To.agS ((u / 128) + 1) (by omega) ⟨⟨A12, q12, (O ++ [(u % 128 + 128)]), u / 128, rfl, rfl, rfl, (by omega), (by rw [hO, putV_high (by omega), List.append_assoc]; rfl)⟩, ⟨rfl, rfl, trivial⟩⟩)
 refine To.ex (To.tx (To.tx (To.bx (To.t (To.s (To.g (To.m ?_)))))))
 refine To.m ?_
 refine To.r (Rd.conv rfl rfl Tryz.underlying227 Tryz.underlying5 (IntWalk.u8_in _ (by omega))) ?_
 refine To.mk rfl rfl rfl (Mk.sN (us := [.int .u8 ((u : Nat) : Int)]) rfl s22 rfl rfl rfl rfl rfl rfl) ?_
 rintro _ _ ⟨b18, rfl, rfl⟩
 refine To.ge rfl rfl rfl (Ge.append1 encY_ok (i := 1) (j := 0) (el := u) rfl s22 rfl rfl rfl rfl rfl (by first | omega | (simp; done) | (simp; omega)) (by first | omega | (simp; done) | (simp; omega))) ?_
 rintro _ _ ⟨A19, q19, rfl, rfl⟩
 refine To.a (To.n (To.t (To.rt (To.del0 ?_))))
 refine To.end1 (.inl rfl) Tryz.results84 rfl ?_
 rw [hO, putV_low (by omega)]
 exact ⟨_, _, rfl, rfl⟩
theorem nputu_fn (v : Nat) (hv : v < 18446744073709551616) :
    Does Tryz.prog 75 [.slice none 0 0, .int .u64 ((v : Nat) : Int)] [] (fun r Γ' => ∃ (A' : Option Addr) (q' : Nat), r = .slice A' (putV v).length q' ∧ Γ' = [rows encY 5 1 A' q' (putV v)]) := by
 refine Does.enter Tryz.func75 rfl Tryz.ntmps75 rfl (fun w0 => ?_)
 refine To.s (To.g (To.a (To.n (To.t (To.s (To.g ?_))))))
 refine To.m ?_
 refine To.r (Rd.len rfl rfl Tryz.underlying22) ?_
 refine To.r (Rd.add64 rfl rfl rfl (by omega)) ?_
 refine To.mk rfl rfl rfl (Mk.make0R (α := Nat) encY (c := 10) rfl s22 rfl rfl (by omega) (by simp only [maxLen]; omega)) ?_
 rintro _ _ ⟨b9, rfl, rfl⟩
 refine To.a (To.n (To.t (To.s (To.g ?_))))
 refine To.m ?_
 refine To.m ?_
 refine To.r (Rd.append0 rfl s22 rfl rfl rfl (by simp only [ln0]; omega)) ?_
 refine To.m ?_
 refine To.cl [0] rfl rfl rfl (Ent.fn rfl rfl ca136) rfl (nput_fn (some ⟨b9, 0, none⟩) 10 ([] : List Nat) (by simp only [ln0]; omega) v hv) ?_
 rintro _ _ ⟨A14, q14, rfl, rfl⟩
 refine To.a (To.n (To.t (To.rt ?_)))
 refine To.only [0] rfl (To.end1 (.inl rfl) Tryz.results75 rfl ?_)
 exact ⟨_, _, rfl, rfl⟩
theorem nputi_fn (n : Int) (h0 : -9223372036854775808 ≤ n) (h1 : n ≤ 9223372036854775807) :
    Does Tryz.prog 76 [.slice none 0 0, .int .i64 n] [] (fun r Γ' => ∃ (A' : Option Addr) (q' : Nat), r = .slice A' (putV (zigV n)).length q' ∧ Γ' = [rows encY 5 1 A' q' (putV (zigV n))]) := by
 refine Does.enter Tryz.func76 rfl Tryz.ntmps76 rfl (fun w0 => ?_)
 refine To.s (To.g (To.a (To.n (To.t (To.s (To.g ?_))))))
 refine To.m ?_
 refine To.m ?_
 refine To.cV rfl rfl rfl (Ent.fn rfl rfl ca137) (nzig_fn n h0 h1) rfl (ocn _) (To.cQ rfl rfl rfl (Ent.fn rfl rfl ca75) (nputu_fn (zigV n) (zigV_lt h0 h1)) rfl (ocn _) ?_)
 rintro _ _ ⟨A8, q8, rfl, rfl⟩
 refine ⟨rfl, ?_⟩
 refine To.a (To.n (To.t (To.rt ?_)))
 refine To.only [0] rfl (To.end1 (.inl rfl) Tryz.results76 rfl ?_)
 exact ⟨_, _, rfl, rfl⟩
theorem inB_eq (x : Ins) : [x.op] ++ (([x.a, x.b, x.n] : List Int).flatMap fun n => putV (zigV n)) = inB x := by unfold inB; simp
theorem hds_eq (a b c : Nat) : ([a, b, c] : List Nat).flatMap putV = putV a ++ (putV b ++ putV c) := by simp
theorem inS_i64 {x : Ins} (h : InS x) : ∀ n ∈ ([x.a, x.b, x.n] : List Int), -9223372036854775808 ≤ n ∧ n ≤ 9223372036854775807 := fun n hn => by
 have ha1 : (-2147483648 : Int) ≤ x.a := h.a1
 have ha2 : x.a ≤ (2147483647 : Int) := h.a2
 have hb1 : (-2147483648 : Int) ≤ x.b := h.b1
 have hb2 : x.b ≤ (2147483647 : Int) := h.b2
 have hn1 := h.n1
 have hn2 := h.n2
 simp only [List.mem_cons, List.not_mem_nil, or_false] at hn
 omega
set_option maxHeartbeats 8000000 in
theorem bytes_fn (pr st : Nat) (A : Option Addr) (q : Nat) (l : List Ins) (hpr : pr ≤ 255) (hst : st ≤ 255) (hll : l.length ≤ 4000) (hl : ∀ x ∈ l, InS x) :
    Does Tryz.prog 32 [.agg #[nv pr, nv st, .slice A l.length q]] [ros Ins.cells A l] (fun r Γ' => ∃ (A' : Option Addr) (q' : Nat), r = .slice A' (bytesV pr st l).length q' ∧ Γ' = [rows encY 5 1 A' q' (bytesV pr st l)]) := by
 refine Does.enter Tryz.func32 rfl Tryz.ntmps32 rfl (fun w0 => ?_)
 refine To.s (To.g (To.boxed rfl rfl rfl rfl rfl rfl (fun b1 => ?_)))
 refine To.a (To.n (To.t (To.s (To.g ?_))))
 refine To.a (To.n (To.t (To.s (To.s (To.g ?_)))))
 refine To.f fl42_0 ?_
 refine To.lo 0 c3 ?_
 refine To.f fl42_1 ?_
 refine To.lo 0 c3 ?_
 refine To.f fl42_2 ?_
 refine To.lo 0 c40 ?_
 refine To.r (Rd.len rfl rfl Tryz.underlying40) ?_
 refine To.mk rfl rfl rfl (Mk.sN (us := [nv pr, nv st, nv l.length]) rfl s203 rfl rfl rfl rfl rfl rfl) ?_
 rintro _ _ ⟨b17, rfl, rfl⟩
 refine To.r (Rd.len rfl rfl Tryz.underlying203) ?_
 refine To.m (To.n (To.t (To.b ?_)))
 refine To.nilRow (encY) 5 1 (To.up1 (To.up3 (To.up3 (To.loopS (fun mz ρ Γ => ∃ (HS : List Nat) (Ah : Option Addr) (Ap : Option Addr) (qp : Nat) (P : List Nat) (k : Nat), ρ = [(1, pv b1), (3, .slice Ap P.length qp), (17, .slice Ah HS.length 3), (18, nv HS.length), (19, nv k)] ∧ Γ = [box b1 [nv pr, nv st, .slice A l.length q] 42, ros Ins.cells A l, rows encN 3 1 Ah 3 HS, rows encY 5 1 Ap qp P] ∧ mz = HS.length - k ∧ (HS = [pr, st, l.length]) ∧ (k ≤ HS.length) ∧ (P = (HS.take k).flatMap putV) ∧ (P.length ≤ 10 * k)) ([pr, st, l.length].length - 0) ⟨⟨[pr, st, l.length], (some ⟨b17, 0, none⟩), none, 0, ([] : List Nat), 0, rfl, rfl, rfl, rfl, (Nat.zero_le _), rfl, (Nat.zero_le _)⟩, ⟨rfl, rfl, rfl, rfl, rfl, trivial⟩⟩ ?_))))
 rintro mz _ _ ⟨HS, Ah, Ap, qp, P, k, rfl, rfl, rfl, hHS, hk, hP, hPl⟩
 have hHl : HS.length = 3 := by rw [hHS]; rfl
 refine To.s (To.g (To.lt ?_))
 refine To.n (To.t (To.s (To.cp rfl (fun c20 => ?_) (fun c20 => ?_))))
 obtain ⟨y, hy⟩ : ∃ z0, HS[k]? = some z0 := ⟨HS[k]'(by omega), gge _⟩
 have hyb : y ≤ 4000 := by
  have h := mog hy
  rw [hHS] at h
  simp only [List.mem_cons, List.not_mem_nil, or_false] at h
  omega
 have hy10 := putV_10 (v := y) (by omega)
 refine To.sp (To.t (To.s (To.b (To.s (To.g (To.r (Rd.ixr (i := 2) (j := k) rfl rfl rfl s203 rfl hy) ?_))))))
 refine To.r (Rd.ld (i := 2) rfl rfl c3 rfl (gives_1 (rwg encN_ok hy) rfl)) ?_
 refine To.a (To.n (To.t (To.g ?_)))
 refine To.m ?_
 refine To.m ?_
 refine To.r (Rd.conv rfl rfl Tryz.underlying3 Tryz.underlying227 (wrapU (by omega))) ?_
 refine To.cQ rfl rfl rfl (Ent.fn rfl rfl ca75) (nputu_fn y (by omega)) rfl (ocn _) ?_
 rintro _ _ ⟨Ac, qc, rfl, rfl⟩
 refine ⟨rfl, ?_⟩
 refine To.ge rfl rfl rfl (Ge.appendL encY_ok (i := 4) (m := (putV y)) rfl s22 rfl rfl rfl (src_row (i := 0) rfl) (by first | omega | (simp; done) | (simp; omega)) (by first | omega | (simp; done) | (simp; omega))) ?_
 rintro _ _ ⟨Ap27_, qp27_, rfl, rfl⟩
 refine To.a (To.n (To.bn (To.t (To.g ?_))))
 refine To.r (Rd.inc rfl rfl rfl (by omega)) ?_
 refine To.m (To.n (To.t ?_))
 refine To.del0 (To.agS (HS.length - (k + 1)) (by omega) ⟨⟨HS, Ah, Ap27_, qp27_, (P ++ (putV y)), k + 1, rfl, rfl, rfl, hHS, (by omega), (by rw [take_of_get hy, List.flatMap_append, List.flatMap_singleton, ← hP]), (by rw [lap]; have := putV_10 (v := y) (by omega); omega)⟩, ⟨rfl, rfl, rfl, rfl, rfl, trivial⟩⟩)
 refine To.ex (To.tx (To.tx (To.bx (To.t (To.s (To.s (To.g (To.f fl42_2 ?_))))))))
 refine To.lo 0 c40 ?_
 refine To.r (Rd.len rfl rfl Tryz.underlying40) ?_
 refine To.m (To.n (To.t (To.b ?_)))
 refine To.del2 (To.del0 (To.loopS (fun mz ρ Γ => ∃ (Ap : Option Addr) (qp : Nat) (P : List Nat) (i : Nat), ρ = [(3, .slice Ap P.length qp), (30, .slice A l.length q), (31, nv l.length), (32, nv i)] ∧ Γ = [ros Ins.cells A l, rows encY 5 1 Ap qp P] ∧ mz = l.length - i ∧ (i ≤ l.length) ∧ (P = putV pr ++ (putV st ++ (putV l.length ++ (l.take i).flatMap inB))) ∧ (P.length ≤ 30 + 31 * i)) (l.length - 0) ⟨⟨Ap, qp, P, 0, rfl, rfl, rfl, (Nat.zero_le _), (by rw [hP, List.take_of_length_le (by omega), hHS, hds_eq]; simp), (by omega)⟩, ⟨rfl, rfl, rfl, rfl, trivial⟩⟩ ?_))
 rintro mz _ _ ⟨Ap, qp, P, i, rfl, rfl, rfl, hi, hP, hPl⟩
 refine To.s (To.g (To.lt ?_))
 refine To.n (To.t (To.s (To.cp rfl (fun c33 => ?_) (fun c33 => ?_))))
 obtain ⟨x, hx⟩ : ∃ z0, l[i]? = some z0 := ⟨l[i]'(by omega), gge _⟩
 have hxs := hl x (mog hx)
 have hxi := inS_i64 hxs
 have ho1 := hxs.o1
 have ho2 := hxs.o2
 refine To.sp (To.t (To.s (To.b (To.s (To.g (To.r (Rd.ixo encIn (i := 0) (j := i) rfl rfl rfl s40 rfl hx) ?_))))))
 refine To.r (Rd.lS (i := 0) rfl rfl r109 rfl (rsg encIn hx) (encIn.len _)) ?_
 refine To.alloc rfl rfl rfl rfl z109 (fun b7 => ?_)
 refine To.u (Up.storeS (i := 0) rfl rfl rfl r109 rfl rfl rfl (bta rfl)) ?_
 refine To.n (To.t (To.s (To.g (To.m ?_))))
 refine To.f fl109_0 ?_
 refine To.lo 0 c107 ?_
 refine To.mk rfl rfl rfl (Mk.sN (us := [.int .u8 ((x.op : Nat) : Int)]) rfl s22 rfl rfl rfl rfl rfl rfl) ?_
 rintro _ _ ⟨b39, rfl, rfl⟩
 refine To.ge rfl rfl rfl (Ge.append1 encY_ok (i := 3) (j := 0) (el := x.op) rfl s22 rfl rfl rfl rfl rfl (by first | omega | (simp; done) | (simp; omega)) (by first | omega | (simp; done) | (simp; omega))) ?_
 rintro _ _ ⟨A40, q40, rfl, rfl⟩
 refine To.a (To.n (To.t (To.s (To.g ?_))))
 refine To.f fl109_1 ?_
 refine To.lo 1 c3 ?_
 refine To.f fl109_2 ?_
 refine To.lo 1 c3 ?_
 refine To.f fl109_3 ?_
 refine To.lo 1 c2 ?_
 refine To.mk rfl rfl rfl (Mk.sN (us := [.int .i64 x.a, .int .i64 x.b, .int .i64 x.n]) rfl s136 rfl rfl rfl rfl rfl rfl) ?_
 rintro _ _ ⟨b47, rfl, rfl⟩
 refine To.r (Rd.len rfl rfl Tryz.underlying136) ?_
 refine To.m (To.n (To.t (To.b ?_)))
 refine To.del2 (To.del1 (To.up1 (To.loopS (fun mz ρ Γ => ∃ (NS : List Int) (An : Option Addr) (Ap2 : Option Addr) (qp2 : Nat) (P2 : List Nat) (j : Nat), ρ = [(3, .slice Ap2 P2.length qp2), (30, .slice A l.length q), (31, nv l.length), (32, nv i), (47, .slice An NS.length 3), (48, nv NS.length), (49, nv j)] ∧ Γ = [ros Ins.cells A l, rows encI 2 1 An 3 NS, rows encY 5 1 Ap2 qp2 P2] ∧ mz = NS.length - j ∧ (NS = [x.a, x.b, x.n]) ∧ (j ≤ NS.length) ∧ (P2 = (P ++ [x.op]) ++ (NS.take j).flatMap fun n => putV (zigV n)) ∧ (P2.length ≤ P.length + 1 + 10 * j)) ([x.a, x.b, x.n].length - 0) ⟨⟨[x.a, x.b, x.n], (some ⟨b47, 0, none⟩), A40, q40, (P ++ [x.op]), 0, rfl, rfl, rfl, rfl, (Nat.zero_le _), (by simp), (by rw [lap]; simp only [lc1, ln0]; omega)⟩, ⟨rfl, rfl, rfl, rfl, rfl, rfl, rfl, trivial⟩⟩ ?_)))
 rintro mz _ _ ⟨NS, An, Ap2, qp2, P2, j, rfl, rfl, rfl, hNS, hj, hP2, hPl2⟩
 have hNl : NS.length = 3 := by rw [hNS]; rfl
 refine To.s (To.g (To.lt ?_))
 refine To.n (To.t (To.s (To.cp rfl (fun c50 => ?_) (fun c50 => ?_))))
 obtain ⟨z, hz⟩ : ∃ z0, NS[j]? = some z0 := ⟨NS[j]'(by omega), gge _⟩
 have hzb := hxi z (by rw [← hNS]; exact mog hz)
 have hz10 := putV_10 (zigV_lt hzb.1 hzb.2)
 refine To.sp (To.t (To.s (To.b (To.s (To.g (To.r (Rd.ixr (i := 1) (j := j) rfl rfl rfl s136 rfl hz) ?_))))))
 refine To.r (Rd.ld (i := 1) rfl rfl c2 rfl (gives_1 (rwg encI_ok hz) rfl)) ?_
 refine To.a (To.n (To.t (To.g ?_)))
 refine To.m ?_
 refine To.m ?_
 refine To.cQ rfl rfl rfl (Ent.fn rfl rfl ca76) (nputi_fn z hzb.1 hzb.2) rfl (ocn _) ?_
 rintro _ _ ⟨Ac_2, qc_2, rfl, rfl⟩
 refine ⟨rfl, ?_⟩
 refine To.ge rfl rfl rfl (Ge.appendL encY_ok (i := 3) (m := (putV (zigV z))) rfl s22 rfl rfl rfl (src_row (i := 0) rfl) (by first | omega | (simp; done) | (simp; omega)) (by first | omega | (simp; done) | (simp; omega))) ?_
 rintro _ _ ⟨Ap56_, qp56_, rfl, rfl⟩
 refine To.a (To.n (To.bn (To.t (To.g ?_))))
 refine To.r (Rd.inc rfl rfl rfl (by omega)) ?_
 refine To.m (To.n (To.t ?_))
 refine To.del0 (To.agS (NS.length - (j + 1)) (by omega) ⟨⟨NS, An, Ap56_, qp56_, (P2 ++ (putV (zigV z))), j + 1, rfl, rfl, rfl, hNS, (by omega), (by rw [take_of_get hz, List.flatMap_append, List.flatMap_singleton, ← List.append_assoc, ← hP2]), (by rw [lap]; have := putV_10 (zigV_lt hzb.1 hzb.2); omega)⟩, ⟨rfl, rfl, rfl, rfl, rfl, rfl, rfl, trivial⟩⟩)
 refine To.ex (To.tx (To.tx (To.bx (To.bn (To.t (To.g (To.r (Rd.inc rfl rfl rfl (by omega)) ?_)))))))
 refine To.m (To.n (To.t ?_))
 refine To.del1 (To.agS (l.length - (i + 1)) (by omega) ⟨⟨Ap2, qp2, P2, i + 1, rfl, rfl, rfl, (by omega), (by rw [take_of_get hx, List.flatMap_append, List.flatMap_singleton, hP2, List.take_of_length_le (by omega), hNS, List.append_assoc, inB_eq, hP]; simp only [List.append_assoc]), (by omega)⟩, ⟨rfl, rfl, rfl, rfl, trivial⟩⟩)
 refine To.ex (To.tx (To.tx (To.bx (To.t (To.s (To.g (To.m ?_)))))))
 refine To.a (To.n (To.t (To.rt (To.del0 ?_))))
 refine To.end1 (.inl rfl) Tryz.results32 rfl ?_
 have hB : P = bytesV pr st l := by rw [hP, List.take_of_length_le (by omega)]; rfl
 rw [hB]
 exact ⟨_, _, rfl, rfl⟩
set_option maxHeartbeats 8000000 in
theorem rbytes_fn (pr st : Nat) (A : Option Addr) (q : Nat) (l : List Ins) (hpr : pr ≤ 255) (hst : st ≤ 255) (hll : l.length ≤ 4000) (hl : ∀ x ∈ l, InS x) :
    Does Tryz.prog 34 [.agg #[nv pr, nv st, .slice A l.length q]] [ros Ins.rc A l] (fun r Γ' => ∃ (A' : Option Addr) (q' : Nat), r = .slice A' (bytesV pr st l).length q' ∧ Γ' = [rows encY 5 1 A' q' (bytesV pr st l)]) := by
 have e1 := putV_10 (v := pr) (by omega)
 have e2 := putV_10 (v := st) (by omega)
 have e3 := putV_10 (v := l.length) (by omega)
 refine Does.enter Tryz.func34 rfl Tryz.ntmps34 rfl (fun w0 => ?_)
 refine To.s (To.g (To.boxed rfl rfl rfl rfl rfl rfl (fun b1 => ?_)))
 refine To.a (To.n (To.t (To.s ?_)))
 refine To.flow [box b1 [nv pr, nv st, .slice A l.length q] 37] [⟨0, [], 0⟩, ⟨1, [], 0⟩, ⟨2, [], 0⟩, ⟨4, [], 0⟩, ⟨5, [], 0⟩, ⟨6, [], 0⟩, ⟨3, [], 4⟩, ⟨7, [3], 4⟩, ⟨8, [3, 7], 5⟩, ⟨9, [], 0⟩] mixed (by kernel_rfl) (ocs (oca 0 rfl) (ocn _)) (W.fi fl37_0 ?_)
 refine W.th 0 c3 ?_
 refine W.f rfl (Rd.conv rfl rfl Tryz.underlying3 Tryz.underlying227 (wrapU (by omega))) ?_
 refine W.fi fl37_1 ?_
 refine W.th 0 c3 ?_
 refine W.f rfl (Rd.conv rfl rfl Tryz.underlying3 Tryz.underlying227 (wrapU (by omega))) ?_
 refine W.callM rfl rfl rfl rfl rfl (Ent.fn rfl rfl ca84) (rput_fn pr (by omega)) rfl (ocn _) ?_
 rintro _ _ ⟨Ac, qc, rfl, rfl⟩
 refine ⟨rfl, ?_⟩
 refine W.callM rfl rfl rfl rfl rfl (Ent.fn rfl rfl ca84) (rput_fn st (by omega)) rfl (ocn _) ?_
 rintro _ _ ⟨Ac_2, qc_2, rfl, rfl⟩
 refine ⟨rfl, ?_⟩
 refine W.ge rfl rfl rfl rfl (Ge.appendL encY_ok (i := 1) (m := (putV st)) rfl s22 rfl rfl rfl (src_row (i := 0) rfl) (by first | omega | (simp; done) | (simp; omega)) (by first | omega | (simp; done) | (simp; omega))) ?_
 rintro _ _ ⟨Ap14_, qp14_, rfl, rfl⟩
 refine ⟨ocs (oca 2 rfl) (ocn _), ?_⟩
 refine W.f rfl (Rd.assign rfl rfl) ?_
 refine W.fin ?_
 refine To.t (To.s (To.g (To.m ?_)))
 refine To.f fl37_2 ?_
 refine To.lo 2 c35 ?_
 refine To.r (Rd.len rfl rfl Tryz.underlying35) ?_
 refine To.r (Rd.conv rfl rfl Tryz.underlying3 Tryz.underlying227 (wrapU (by omega))) ?_
 refine To.cQ rfl rfl rfl (Ent.fn rfl rfl ca84) (rput_fn l.length (by omega)) rfl (ocn _) ?_
 rintro _ _ ⟨Ac_3, qc_3, rfl, rfl⟩
 refine ⟨rfl, ?_⟩
 refine To.ge rfl rfl rfl (Ge.appendL encY_ok (i := 2) (m := (putV l.length)) rfl s22 rfl rfl rfl (src_row (i := 0) rfl) (by first | omega | (simp; done) | (simp; omega)) (by first | omega | (simp; done) | (simp; omega))) ?_
 rintro _ _ ⟨Ap21_, qp21_, rfl, rfl⟩
 refine To.a (To.n (To.t (To.s (To.s (To.g ?_)))))
 refine To.f fl37_2 ?_
 refine To.lo 3 c35 ?_
 refine To.r (Rd.len rfl rfl Tryz.underlying35) ?_
 refine To.m (To.n (To.t (To.b ?_)))
 refine To.del1 (To.del0 (To.up2 (To.up2 (To.loopS (fun mz ρ Γ => ∃ (Ap : Option Addr) (qp : Nat) (P : List Nat) (i : Nat), ρ = [(1, pv b1), (3, .slice Ap P.length qp), (23, .slice A l.length q), (24, nv l.length), (25, nv i)] ∧ Γ = [box b1 [nv pr, nv st, .slice A l.length q] 37, ros Ins.rc A l, rows encY 5 1 Ap qp P] ∧ mz = l.length - i ∧ (i ≤ l.length) ∧ (P = putV pr ++ (putV st ++ (putV l.length ++ (l.take i).flatMap inB))) ∧ (P.length ≤ 30 + 31 * i)) (l.length - 0) ⟨⟨Ap21_, qp21_, (((putV pr) ++ (putV st)) ++ (putV l.length)), 0, rfl, rfl, rfl, (Nat.zero_le _), (by simp), (by simp only [lap]; omega)⟩, ⟨rfl, rfl, rfl, rfl, rfl, trivial⟩⟩ ?_))))
 rintro mz _ _ ⟨Ap, qp, P, i, rfl, rfl, rfl, hi, hP, hPl⟩
 refine To.s (To.g (To.lt ?_))
 refine To.n (To.t (To.s (To.cp rfl (fun c26 => ?_) (fun c26 => ?_))))
 obtain ⟨x, hx⟩ : ∃ z0, l[i]? = some z0 := ⟨l[i]'(by omega), gge _⟩
 have hxs := hl x (mog hx)
 have hxi := inS_i64 hxs
 have hxa := hxi x.a (by simp)
 have hxb := hxi x.b (by simp)
 have hxn := hxi x.n (by simp)
 have ho1 := hxs.o1
 have ho2 := hxs.o2
 have h1 := putV_10 (zigV_lt hxa.1 hxa.2)
 have h2 := putV_10 (zigV_lt hxb.1 hxb.2)
 have h3 := putV_10 (zigV_lt hxn.1 hxn.2)
 refine To.sp (To.t (To.s (To.b (To.s (To.g (To.r (Rd.ixo encRi (i := 1) (j := i) rfl rfl rfl s35 rfl hx) ?_))))))
 refine To.r (Rd.lS (i := 1) rfl rfl r54 rfl (rsg encRi hx) (encRi.len _)) ?_
 refine To.alloc rfl rfl rfl rfl z54 (fun b5 => ?_)
 refine To.u (Up.storeS (i := 0) rfl rfl rfl r54 rfl rfl rfl (bta rfl)) ?_
 refine To.n (To.t (To.s (To.g (To.m ?_))))
 refine To.f fl54_0 ?_
 refine To.lo 0 c3 ?_
 refine To.r (Rd.conv rfl rfl Tryz.underlying3 Tryz.underlying5 (IntWalk.u8_in _ (by omega))) ?_
 refine To.mk rfl rfl rfl (Mk.sN (us := [.int .u8 ((x.op : Nat) : Int)]) rfl s22 rfl rfl rfl rfl rfl rfl) ?_
 rintro _ _ ⟨b33, rfl, rfl⟩
 refine To.ge rfl rfl rfl (Ge.append1 encY_ok (i := 4) (j := 0) (el := x.op) rfl s22 rfl rfl rfl rfl rfl (by first | omega | (simp; done) | (simp; omega)) (by first | omega | (simp; done) | (simp; omega))) ?_
 rintro _ _ ⟨A34, q34, rfl, rfl⟩
 refine To.a (To.n (To.t (To.s (To.g ?_))))
 refine To.m ?_
 refine To.f fl54_1 ?_
 refine To.lo 1 c3 ?_
 refine To.cV rfl rfl rfl (Ent.fn rfl rfl ca85) (rzig_fn x.a hxa.1 hxa.2) rfl (ocn _) (To.cQ rfl rfl rfl (Ent.fn rfl rfl ca84) (rput_fn (zigV x.a) (zigV_lt hxa.1 hxa.2)) rfl (ocn _) ?_)
 rintro _ _ ⟨Ac_4, qc_4, rfl, rfl⟩
 refine ⟨rfl, ?_⟩
 refine To.ge rfl rfl rfl (Ge.appendL encY_ok (i := 5) (m := (putV (zigV x.a))) rfl s22 rfl rfl rfl (src_row (i := 0) rfl) (by first | omega | (simp; done) | (simp; omega)) (by first | omega | (simp; done) | (simp; omega))) ?_
 rintro _ _ ⟨Ap40_, qp40_, rfl, rfl⟩
 refine To.a (To.n (To.t (To.s (To.g ?_))))
 refine To.m ?_
 refine To.f fl54_2 ?_
 refine To.lo 2 c3 ?_
 refine To.cV rfl rfl rfl (Ent.fn rfl rfl ca85) (rzig_fn x.b hxb.1 hxb.2) rfl (ocn _) (To.cQ rfl rfl rfl (Ent.fn rfl rfl ca84) (rput_fn (zigV x.b) (zigV_lt hxb.1 hxb.2)) rfl (ocn _) ?_)
 rintro _ _ ⟨Ac_5, qc_5, rfl, rfl⟩
 refine ⟨rfl, ?_⟩
 refine To.ge rfl rfl rfl (Ge.appendL encY_ok (i := 6) (m := (putV (zigV x.b))) rfl s22 rfl rfl rfl (src_row (i := 0) rfl) (by first | omega | (simp; done) | (simp; omega)) (by first | omega | (simp; done) | (simp; omega))) ?_
 rintro _ _ ⟨Ap46_, qp46_, rfl, rfl⟩
 refine To.a (To.n (To.t (To.g ?_)))
 refine To.m ?_
 refine To.f fl54_3 ?_
 refine To.lo 3 c2 ?_
 refine To.cV rfl rfl rfl (Ent.fn rfl rfl ca85) (rzig_fn x.n hxn.1 hxn.2) rfl (ocn _) (To.cQ rfl rfl rfl (Ent.fn rfl rfl ca84) (rput_fn (zigV x.n) (zigV_lt hxn.1 hxn.2)) rfl (ocn _) ?_)
 rintro _ _ ⟨Ac_6, qc_6, rfl, rfl⟩
 refine ⟨rfl, ?_⟩
 refine To.ge rfl rfl rfl (Ge.appendL encY_ok (i := 7) (m := (putV (zigV x.n))) rfl s22 rfl rfl rfl (src_row (i := 0) rfl) (by first | omega | (simp; done) | (simp; omega)) (by first | omega | (simp; done) | (simp; omega))) ?_
 rintro _ _ ⟨Ap52_, qp52_, rfl, rfl⟩
 refine To.a (To.n (To.bn (To.t (To.g ?_))))
 refine To.r (Rd.inc rfl rfl rfl (by omega)) ?_
 refine To.m (To.n (To.t ?_))
 refine To.del4 (To.del3 (To.del2 (To.del1 (To.del0 (To.agS (l.length - (i + 1)) (by omega) ⟨⟨Ap52_, qp52_, ((((P ++ [x.op]) ++ (putV (zigV x.a))) ++ (putV (zigV x.b))) ++ (putV (zigV x.n))), i + 1, rfl, rfl, rfl, (by omega), (by rw [take_of_get hx, List.flatMap_append, List.flatMap_singleton, hP]; unfold inB; simp only [List.append_assoc, List.cons_append, List.nil_append]), (by simp only [lap, lc1, ln0]; have := putV_10 (zigV_lt hxa.1 hxa.2); have := putV_10 (zigV_lt hxb.1 hxb.2); have := putV_10 (zigV_lt hxn.1 hxn.2); omega)⟩, ⟨rfl, rfl, rfl, rfl, rfl, trivial⟩⟩)))))
 refine To.ex (To.tx (To.tx (To.bx (To.t (To.s (To.g (To.m ?_)))))))
 refine To.a (To.n (To.t (To.rt (To.del1 (To.del0 ?_)))))
 refine To.end1 (.inl rfl) Tryz.results34 rfl ?_
 have hB : P = bytesV pr st l := by rw [hP, List.take_of_length_le (by omega)]; rfl
 rw [hB]
 exact ⟨_, _, rfl, rfl⟩
end Go.Proofs.YtllalpnmagpkfaaGreatDoor
