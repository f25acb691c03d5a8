/- What a unit that is verified keeps to, in general. Plain facts. Own text. -/
import Derived.Test.YtoehnbacbobhiaaGreatDoorX32
set_option linter.unusedVariables false
set_option linter.unusedSimpArgs false
namespace Go.Proofs.YtoehnbacbobhiaaGreatDoor
open Go.Sep
theorem pushes_more (i : Ins) : ((i.op : Int) = 6 ∨ (i.op : Int) = 7 ∨ (i.op : Int) = 8 → (rowOf i.op).pushes = 1) ∧ ((i.op : Int) = 8 → popsN i = 0) ∧ ((i.op : Int) = 25 ∨ (i.op : Int) = 26 ∨ ((30 : Int) ≤ i.op ∧ (i.op : Int) ≤ 33) → (rowOf i.op).pushes = 0) := by
  have key : ∀ o : Nat, o < 35 → (o = 6 ∨ o = 7 ∨ o = 8 → (rowOf o).pushes = 1) ∧ (o = 8 → (rowOf o).pops = 0) ∧ (o = 25 ∨ o = 26 ∨ (30 ≤ o ∧ o ≤ 33) → (rowOf o).pushes = 0) := by decide
  have h := key i.op
  unfold popsN
  refine ⟨fun h1 => (h (by omega)).1 (by omega), fun h1 => ?_, fun h1 => (h (by omega)).2.2 (by omega)⟩
  rw [if_neg (by omega)]; exact (h (by omega)).2.1 (by omega)
structure Shape (x : Ins) (d e : Dv) : Prop where
  stack : (e.stack.length : Int) = aftH d.stack.length x
  vars : e.vars.length = d.vars.length
  cost : 0 ≤ d.cost ∧ d.cost ≤ 200 → 0 ≤ e.cost ∧ e.cost ≤ 200
  tabs : e.tabs.length = d.tabs.length
  good : (∀ t ∈ d.tabs, Good t) → ∀ t ∈ e.tabs, Good t
  disk : Good d.disk → Good e.disk
  sends : 0 ≤ d.sends ∧ d.sends ≤ 8 → 0 ≤ e.sends ∧ e.sends ≤ 8
  disks : d.disks ≤ e.disks ∧ e.disks ≤ d.disks + 1
  effs : e.effs.length ≤ d.effs.length + 1
theorem good_set {l : List (List (Int × Int))} {t : List (Int × Int)} {j : Nat} (h : ∀ t ∈ l, Good t) (ht : Good t) : ∀ u ∈ l.set j t, Good u := fun u hu => by
  rcases List.mem_or_eq_of_mem_set hu with h1 | h1
  · exact h u h1
  · rw [h1]; exact ht
theorem good_get {l : List (List (Int × Int))} {j : Nat} (h : ∀ t ∈ l, Good t) : Good (l.getD j []) := by
  rw [List.getD_eq_getElem?_getD]
  cases e : l[j]? with
  | none => exact ⟨List.Pairwise.nil, Nat.zero_le _⟩
  | some t => exact h t (List.mem_of_getElem? e)
theorem sendV_31 {x : Ins} {d : Dv} (hs : d.sends ≠ 8) (h : ((x.op : Nat) : Int) = 31) : sendV x d = { d with sends := d.sends + 1, stack := (d.stack.take (d.stack.length - x.n.toNat)).dropLast, effs := d.effs ++ [⟨2, x.a, x.b, (d.stack.take (d.stack.length - x.n.toNat)).getLastD 0, 0, 0, false, d.stack.drop (d.stack.length - x.n.toNat)⟩] } := by
  unfold sendV
  rw [if_neg hs]
  exact if_pos h
theorem sendV_30 {x : Ins} {d : Dv} (hs : d.sends ≠ 8) (h : ¬ ((x.op : Nat) : Int) = 31) : sendV x d = { d with sends := d.sends + 1, stack := d.stack.take (d.stack.length - x.n.toNat), effs := d.effs ++ [⟨1, x.a, x.b, 0, 0, 0, false, d.stack.drop (d.stack.length - x.n.toNat)⟩] } := by
  unfold sendV
  rw [if_neg hs]
  exact if_neg h
theorem sendV_8 {x : Ins} {d : Dv} (hs : d.sends = 8) : sendV x d = { d with fault := true } := by
  unfold sendV
  exact if_pos hs
theorem diskV_32 {s : Sm} {x : Ins} {d : Dv} (h : ((x.op : Nat) : Int) = 32) : diskV s x d = { d with disks := d.disks + 1, stack := d.stack.dropLast.dropLast, next := if decide (s.dsk + d.disks ∈ s.fail) = true then x.b else d.next, disk := if decide (s.dsk + d.disks ∈ s.fail) = true then d.disk else putR d.disk (d.stack.dropLast.getLastD 0) (d.stack.getLastD 0), effs := d.effs ++ [⟨3, 0, 0, 0, d.stack.dropLast.getLastD 0, d.stack.getLastD 0, decide (s.dsk + d.disks ∈ s.fail), []⟩] } := by
  unfold diskV
  exact if_pos h
theorem diskV_33b {s : Sm} {x : Ins} {d : Dv} (h : ¬ ((x.op : Nat) : Int) = 32) (hb : s.dsk + d.disks ∈ s.fail) : diskV s x d = { d with disks := d.disks + 1, stack := d.stack.dropLast, next := x.b, effs := d.effs ++ [⟨4, 0, 0, 0, d.stack.getLastD 0, 0, true, []⟩] } := by
  unfold diskV
  exact (if_neg h).trans (if_pos (decide_eq_true hb))
theorem diskV_33g {s : Sm} {x : Ins} {d : Dv} (h : ¬ ((x.op : Nat) : Int) = 32) (hb : ¬ s.dsk + d.disks ∈ s.fail) : diskV s x d = { d with disks := d.disks + 1, stack := d.stack.dropLast, vars := d.vars.set x.a.toNat ((getT d.disk (d.stack.getLastD 0)).getD 0), effs := d.effs ++ [⟨4, 0, 0, 0, d.stack.getLastD 0, (getT d.disk (d.stack.getLastD 0)).getD 0, false, []⟩] } := by
  unfold diskV
  exact (if_neg h).trans (if_neg (by rw [decide_eq_false hb]; decide))
theorem shape_send {x : Ins} {d : Dv} (hop : ((x.op : Nat) : Int) = 30 ∨ ((x.op : Nat) : Int) = 31) (hn : 0 ≤ x.n ∧ x.n ≤ 4) (hp : popsN x ≤ d.stack.length) (hf : (sendV x d).fault = false) : Shape x d (sendV x d) ∧ (sendV x d).next = d.next := by
  have hpo := pops_of x
  have hpu := pushes_more x
  have hs : d.sends ≠ 8 := fun h => by rw [sendV_8 h] at hf; cases hf
  obtain ⟨kn, hkn⟩ : ∃ kn : Nat, x.n = ((kn : Nat) : Int) := ⟨x.n.toNat, by omega⟩
  have e1 : x.n.toNat = kn := by omega
  have hd : d.disks ≤ d.disks + 1 := by omega
  have hsd : 0 ≤ d.sends ∧ d.sends ≤ 8 → 0 ≤ d.sends + 1 ∧ d.sends + 1 ≤ 8 := by omega
  have hl : ∀ e : EfV, (d.effs ++ [e]).length ≤ d.effs.length + 1 := fun e => by simp
  by_cases h31 : ((x.op : Nat) : Int) = 31
  · have h1 : (((d.stack.take (d.stack.length - x.n.toNat)).dropLast.length : Nat) : Int) = aftH d.stack.length x := by
      unfold aftH
      rw [List.length_dropLast, List.length_take]; omega
    rw [sendV_31 hs h31]
    exact ⟨⟨h1, rfl, fun h => h, rfl, fun h => h, fun h => h, hsd, ⟨Int.le_refl _, hd⟩, hl _⟩, rfl⟩
  · have h30 : ((x.op : Nat) : Int) = 30 := by clear hpo hpu; omega
    have h2 : popsN x = x.n := hpo.2.2.1 h30
    have h3 : (rowOf x.op).pushes = 0 := hpu.2.2 (by rw [h30]; decide)
    have h1 : (((d.stack.take (d.stack.length - x.n.toNat)).length : Nat) : Int) = aftH d.stack.length x := by
      clear hpo hpu
      rw [h2] at hp
      unfold aftH
      rw [List.length_take, h2, h3, hkn, Int.toNat_natCast]; omega
    rw [sendV_30 hs h31]
    exact ⟨⟨h1, rfl, fun h => h, rfl, fun h => h, fun h => h, hsd, ⟨Int.le_refl _, hd⟩, hl _⟩, rfl⟩
theorem shape_disk {s : Sm} {x : Ins} {d : Dv} (hop : ((x.op : Nat) : Int) = 32 ∨ ((x.op : Nat) : Int) = 33) (hp : popsN x ≤ d.stack.length) : Shape x d (diskV s x d) ∧ ((diskV s x d).next = x.b ∨ (diskV s x d).next = d.next) := by
  have hpo := pops_of x
  have hpu := pushes_more x
  have hd : d.disks ≤ d.disks + 1 := by omega
  have hl : ∀ e : EfV, (d.effs ++ [e]).length ≤ d.effs.length + 1 := fun e => by simp
  by_cases h32 : ((x.op : Nat) : Int) = 32
  · have h1 : ((d.stack.dropLast.dropLast.length : Nat) : Int) = aftH d.stack.length x := by
      unfold aftH
      rw [List.length_dropLast, List.length_dropLast]; omega
    rw [diskV_32 h32]
    by_cases hb : s.dsk + d.disks ∈ s.fail
    · rw [decide_eq_true hb]
      exact ⟨⟨h1, rfl, fun h => h, rfl, fun h => h, fun h => h, fun h => h, ⟨hd, Int.le_refl _⟩, hl _⟩, .inl rfl⟩
    · rw [decide_eq_false hb]
      exact ⟨⟨h1, rfl, fun h => h, rfl, fun h => h, fun h => h.put _ _, fun h => h, ⟨hd, Int.le_refl _⟩, hl _⟩, .inr rfl⟩
  · have h1 : ((d.stack.dropLast.length : Nat) : Int) = aftH d.stack.length x := by
      unfold aftH
      rw [List.length_dropLast]; omega
    by_cases hb : s.dsk + d.disks ∈ s.fail
    · rw [diskV_33b h32 hb]
      exact ⟨⟨h1, rfl, fun h => h, rfl, fun h => h, fun h => h, fun h => h, ⟨hd, Int.le_refl _⟩, hl _⟩, .inl rfl⟩
    · rw [diskV_33g h32 hb]
      exact ⟨⟨h1, List.length_set, fun h => h, rfl, fun h => h, fun h => h, fun h => h, ⟨hd, Int.le_refl _⟩, hl _⟩, .inr rfl⟩
theorem shape_table {x : Ins} {d : Dv} (hop : ((x.op : Nat) : Int) = 6 ∨ ((x.op : Nat) : Int) = 7 ∨ ((x.op : Nat) : Int) = 8 ∨ ((x.op : Nat) : Int) = 25 ∨ ((x.op : Nat) : Int) = 26) (hp : popsN x ≤ d.stack.length) : Shape x d (tableV x d) ∧ (tableV x d).next = d.next := by
  have hpo := pops_of x
  have hpu := pushes_more x
  unfold tableV
  simp only []
  have hd : d.disks ≤ d.disks + 1 := by omega
  by_cases h6 : ((x.op : Nat) : Int) = 6
  · rw [if_pos h6]
    refine ⟨⟨?_, rfl, fun h => h, rfl, fun h => h, fun h => h, fun h => h, ⟨Int.le_refl _, hd⟩, Nat.le_succ _⟩, rfl⟩
    simp only [aftH, List.length_append, List.length_dropLast, List.length_cons, List.length_nil]; omega
  rw [if_neg h6]
  by_cases h7 : ((x.op : Nat) : Int) = 7
  · rw [if_pos h7]
    refine ⟨⟨?_, rfl, fun h => h, rfl, fun h => h, fun h => h, fun h => h, ⟨Int.le_refl _, hd⟩, Nat.le_succ _⟩, rfl⟩
    simp only [aftH, List.length_append, List.length_dropLast, List.length_cons, List.length_nil]; omega
  rw [if_neg h7]
  by_cases h8 : ((x.op : Nat) : Int) = 8
  · rw [if_pos h8]
    refine ⟨⟨?_, rfl, fun h => h, rfl, fun h => h, fun h => h, fun h => h, ⟨Int.le_refl _, hd⟩, Nat.le_succ _⟩, rfl⟩
    simp only [aftH, List.length_append, List.length_cons, List.length_nil]; omega
  rw [if_neg h8]
  by_cases h25 : ((x.op : Nat) : Int) = 25
  · rw [if_pos h25]
    refine ⟨⟨?_, rfl, fun h => h, List.length_set, fun h => good_set h ((good_get h).put _ _), fun h => h, fun h => h, ⟨Int.le_refl _, hd⟩, Nat.le_succ _⟩, rfl⟩
    simp only [aftH, List.length_dropLast]; omega
  · rw [if_neg h25]
    refine ⟨⟨?_, rfl, fun h => h, List.length_set, fun h => good_set h ((good_get h).del _), fun h => h, fun h => h, ⟨Int.le_refl _, hd⟩, Nat.le_succ _⟩, rfl⟩
    simp only [aftH, List.length_dropLast]; omega
theorem ite_keeps {p : Prop} [Decidable p] {a b d : Dv} (h1 : a.tabs = d.tabs ∧ a.disk = d.disk ∧ a.sends = d.sends ∧ a.disks = d.disks) (h2 : b.tabs = d.tabs ∧ b.disk = d.disk ∧ b.sends = d.sends ∧ b.disks = d.disks) : (if p then a else b).tabs = d.tabs ∧ (if p then a else b).disk = d.disk ∧ (if p then a else b).sends = d.sends ∧ (if p then a else b).disks = d.disks := by split <;> assumption
theorem simple_keeps {s : Sm} {x : Ins} {d : Dv} (hs : Simple x) : (stepV s x d).tabs = d.tabs ∧ (stepV s x d).disk = d.disk ∧ (stepV s x d).sends = d.sends ∧ (stepV s x d).disks = d.disks := by
  obtain ⟨s1, s2, s3, s4, s5, s6, s7, s8, s9⟩ := hs
  unfold stepV
  rw [if_neg (show ¬ (((x.op : Nat) : Int) = 30 ∨ ((x.op : Nat) : Int) = 31) by omega), if_neg (show ¬ (((x.op : Nat) : Int) = 32 ∨ ((x.op : Nat) : Int) = 33) by omega), if_neg (show ¬ (((x.op : Nat) : Int) = 6 ∨ ((x.op : Nat) : Int) = 7 ∨ ((x.op : Nat) : Int) = 8 ∨ ((x.op : Nat) : Int) = 25 ∨ ((x.op : Nat) : Int) = 26) by omega)]
  repeat (refine ite_keeps ⟨rfl, rfl, rfl, rfl⟩ ?_)
  exact ⟨rfl, rfl, rfl, rfl⟩
theorem step_shape2 {s : Sm} {x : Ins} {d : Dv} (hops : 1 ≤ (x.op : Int) ∧ (x.op : Int) ≤ 34) (hn : ((x.op : Nat) : Int) = 30 ∨ ((x.op : Nat) : Int) = 31 → 0 ≤ x.n ∧ x.n ≤ 4) (hp : popsN x ≤ d.stack.length) (hf : (stepV s x d).fault = false) : Shape x d (stepV s x d) ∧
    (((x.op : Int) = 27 ∧ (stepV s x d).next = x.a) ∨ ((x.op : Int) = 28 ∧ ((stepV s x d).next = x.a ∨ (stepV s x d).next = d.next)) ∨ ((x.op : Int) = 34 ∧ (stepV s x d).next = s.code.length) ∨ (((x.op : Int) = 32 ∨ (x.op : Int) = 33) ∧ (stepV s x d).next = x.b) ∨ ((x.op : Int) ≠ 27 ∧ (x.op : Int) ≠ 34 ∧ (stepV s x d).next = d.next)) := by
  by_cases h1 : ((x.op : Nat) : Int) = 30 ∨ ((x.op : Nat) : Int) = 31
  · rw [stepV_send h1] at hf ⊢
    obtain ⟨a, b⟩ := shape_send h1 (hn h1) hp hf
    exact ⟨a, .inr (.inr (.inr (.inr ⟨by omega, by omega, b⟩)))⟩
  by_cases h2 : ((x.op : Nat) : Int) = 32 ∨ ((x.op : Nat) : Int) = 33
  · rw [stepV_disk h2] at hf ⊢
    obtain ⟨a, b⟩ := shape_disk (s := s) h2 hp
    refine ⟨a, ?_⟩
    rcases b with b | b
    · exact .inr (.inr (.inr (.inl ⟨h2, b⟩)))
    · exact .inr (.inr (.inr (.inr ⟨by omega, by omega, b⟩)))
  by_cases h3 : ((x.op : Nat) : Int) = 6 ∨ ((x.op : Nat) : Int) = 7 ∨ ((x.op : Nat) : Int) = 8 ∨ ((x.op : Nat) : Int) = 25 ∨ ((x.op : Nat) : Int) = 26
  · rw [stepV_table h3] at hf ⊢
    obtain ⟨a, b⟩ := shape_table h3 hp
    exact ⟨a, .inr (.inr (.inr (.inr ⟨by omega, by omega, b⟩)))⟩
  have hs : Simple x := by unfold Simple; omega
  obtain ⟨p1, p2, p3, p4, p5⟩ := step_shape (s := s) (d := d) hs hops hp
  obtain ⟨k1, k2, k3, k4⟩ := simple_keeps (s := s) (d := d) hs
  refine ⟨⟨p1, p2, p4, by rw [k1], fun h => by rw [k1]; exact h, fun h => by rw [k2]; exact h, fun h => by rw [k3]; exact h, by rw [k4]; omega, by rw [p3]; omega⟩, ?_⟩
  rcases p5 with h | h | h | h
  · exact .inl h
  · exact .inr (.inl h)
  · exact .inr (.inr (.inl h))
  · exact .inr (.inr (.inr (.inr h)))
structure InvG (T : List Int) (n nv nt k : Nat) (d : Dv) : Prop where
  next : 0 ≤ d.next ∧ d.next ≤ n
  here : d.next < n → T[d.next.toNat]? = some (d.stack.length : Int)
  vars : d.vars.length = nv
  cost : 0 ≤ d.cost ∧ d.cost ≤ 200
  tabs : d.tabs.length = nt
  good : ∀ t ∈ d.tabs, Good t
  disk : Good d.disk
  sends : 0 ≤ d.sends ∧ d.sends ≤ 8
  disks : 0 ≤ d.disks ∧ d.disks ≤ k
  effs : d.effs.length ≤ k
  few : k ≤ 1048576
theorem formed_bn {pr : Int} {nc : Nat} {x : Ins} (h : formedB pr nc x = true) (h1 : (x.op : Int) = 30 ∨ (x.op : Int) = 31) : 0 ≤ x.n ∧ x.n ≤ 4 := by
  unfold formedB at h
  simp only [Bool.and_eq_true] at h
  obtain ⟨_, hr⟩ := h
  rw [if_neg (by omega), if_neg (by omega)] at hr
  by_cases hb : ((x.op : Int) = 30 ∨ (x.op : Int) = 31) ∧ (x.b < 0 ∨ 63 < x.b ∨ x.n < 0 ∨ 4 < x.n)
  · rw [if_pos hb] at hr; cases hr
  · omega
theorem runs_all {s : Sm} {pr st : Int} {nv nt : Nat} {T : List Int} (hst : st ≤ 64) (hform : ∀ x ∈ s.code, formedB pr s.code.length x = true) (hT : ∀ k x, s.code[k]? = some x → ∃ m, OkAt T st k x m) (href : ∀ x ∈ s.code, referB x nv nt s.flags.length = true) (hpr : (s.args.length : Int) = pr)
    (hasc : AscI s.fail) (hfl : s.fail.length ≤ 1000000) (hds : 0 ≤ s.dsk ∧ s.dsk ≤ 1000000000) : Runs2 s (InvG T s.code.length nv nt) where
  next k d h := h.next.1
  effs k d h := by have := h.effs; have := h.few; omega
  fit k d x h hx := by
    have hxm := List.mem_of_getElem? hx
    have hlt : d.next < s.code.length := by have := (List.getElem?_eq_some_iff.1 hx).1; have := h.next; omega
    obtain ⟨m, hm⟩ := hT _ x hx
    have e1 := h.here hlt
    have hmm : m = (d.stack.length : Int) := by have := hm.here; rw [e1] at this; exact (Option.some.inj this).symm
    have hf := hform x hxm
    have hr := href x hxm
    have hfo := formed_ops hf
    have hfa := @formed_a _ _ _ hf
    have hmt := hm.top
    have hmp := hm.pops
    have hdk := h.disks
    have hef := h.effs
    have hfw := h.few
    refine ⟨⟨fun ho => ?_, fun ho => ?_, fun ho => ?_, fun ho => ?_, fun ho => formed_bn hf ho, hfo, ?_, ?_, h.cost⟩, ⟨h.good, h.disk, hasc, hfl, ?_, h.sends, ?_, hds⟩⟩
    · unfold referB at hr
      rw [if_pos ho] at hr
      have a2 := of_decide_eq_true hr
      have a3 := (hfa (by omega)).1 (by omega)
      exact ⟨a3.1, by show x.a < (d.vars.length : Int); rw [h.vars]; exact a2⟩
    · have := (hfa (by omega)).2 ho; omega
    · unfold referB at hr
      rw [if_neg (by omega), if_pos ho] at hr
      have a2 := of_decide_eq_true hr
      have a3 := (hfa (by omega)).1 (by omega)
      omega
    · unfold referB at hr
      rw [if_neg (by omega), if_neg (by omega), if_pos ho] at hr
      have a2 := of_decide_eq_true hr
      have a3 := (hfa (by omega)).1 (by omega)
      exact ⟨a3.1, by show x.a < (d.tabs.length : Int); rw [h.tabs]; exact a2⟩
    · show popsN x ≤ (d.stack.length : Int); omega
    · show d.stack.length ≤ 4001; omega
    · show d.effs.length ≤ 2000000; omega
    · show 0 ≤ d.disks ∧ d.disks ≤ 2000000; omega
  step k d x h hk hx hflt := by
    have hxm := List.mem_of_getElem? hx
    have hlt : d.next < s.code.length := by have := (List.getElem?_eq_some_iff.1 hx).1; have := h.next; omega
    obtain ⟨m, hm⟩ := hT _ x hx
    have e1 := h.here hlt
    have hmm : m = (d.stack.length : Int) := by have := hm.here; rw [e1] at this; exact (Option.some.inj this).symm
    have hf := hform x hxm
    have hfo := formed_ops hf
    have hff := form_facts hf
    have hnx := h.next
    have hdk := h.disks
    have hef := h.effs
    obtain ⟨P, p5⟩ := step_shape2 (s := s) (d := { d with next := d.next + 1 }) hfo (fun ho => formed_bn hf ho) (by show popsN x ≤ (d.stack.length : Int); have := hm.pops; omega) hflt
    have p1 : ((stepV s x { d with next := d.next + 1 }).stack.length : Int) = aftH m x := by rw [P.stack, hmm]
    have hn1 : ((x.op : Nat) : Int) ≠ 27 → ((x.op : Nat) : Int) ≠ 34 → T[(d.next + 1).toNat]? = some (aftH m x) := fun a b => by rw [show (d.next + 1).toNat = d.next.toNat + 1 from by omega]; exact hm.next a b
    have htg : ((x.op : Nat) : Int) = 27 ∨ ((x.op : Nat) : Int) = 28 → tgt x = some x.a := fun a => by unfold tgt; rw [if_pos a]
    have htg2 : ((x.op : Nat) : Int) = 32 ∨ ((x.op : Nat) : Int) = 33 → tgt x = some x.b := fun a => by unfold tgt; rw [if_neg (by omega), if_pos a]
    have pd : d.disks ≤ (stepV s x { d with next := d.next + 1 }).disks ∧ (stepV s x { d with next := d.next + 1 }).disks ≤ d.disks + 1 := P.disks
    have pe : (stepV s x { d with next := d.next + 1 }).effs.length ≤ d.effs.length + 1 := P.effs
    refine ⟨?_, ?_, P.vars.trans h.vars, P.cost h.cost, P.tabs.trans h.tabs, P.good h.good, P.disk h.disk, P.sends h.sends, by omega, by omega, by omega⟩
    · rcases p5 with ⟨a, b⟩ | ⟨a, b | b⟩ | ⟨a, b⟩ | ⟨a, b⟩ | ⟨a, b, c⟩
      · rw [htg (.inl a)] at hff; simp only [Option.getD_some] at hff; rw [b]; omega
      · rw [htg (.inr a)] at hff; simp only [Option.getD_some] at hff; rw [b]; omega
      · rw [b]; show 0 ≤ d.next + 1 ∧ d.next + 1 ≤ (s.code.length : Int); omega
      · rw [b]; omega
      · rw [htg2 a] at hff; simp only [Option.getD_some] at hff; rw [b]; omega
      · rw [c]; show 0 ≤ d.next + 1 ∧ d.next + 1 ≤ (s.code.length : Int); omega
    · intro hlt2
      rw [p1]
      rcases p5 with ⟨a, b⟩ | ⟨a, b | b⟩ | ⟨a, b⟩ | ⟨a, b⟩ | ⟨a, b, c⟩
      · rw [b]; exact hm.jump _ (htg (.inl a))
      · rw [b]; exact hm.jump _ (htg (.inr a))
      · rw [b]; exact hn1 (by omega) (by omega)
      · rw [b] at hlt2; exact absurd hlt2 (Int.lt_irrefl _)
      · rw [b]; exact hm.jump _ (htg2 a)
      · rw [c]; exact hn1 a b
abbrev d0G (V : List Int) (tb : List (List (Int × Int))) (dk : List (Int × Int)) : Dv := ⟨V, tb, dk, [], 0, [], 0, 0, 0, false⟩
theorem all_run {s : Sm} {pr st : Int} {V : List Int} {tb : List (List (Int × Int))} {dk : List (Int × Int)} (hv : verifyV pr st s.code = 0) (href : ∀ x ∈ s.code, referB x V.length tb.length s.flags.length = true) (hpr : (s.args.length : Int) = pr)
    (hasc : AscI s.fail) (hfl : s.fail.length ≤ 1000000) (hds : 0 ≤ s.dsk ∧ s.dsk ≤ 1000000000) (hgt : ∀ t ∈ tb, Good t) (hgd : Good dk) : ∃ I : Nat → Dv → Prop, Runs2 s I ∧ I 0 (d0G V tb dk) := by
  obtain ⟨h1, h2, h3, h4, T, h5, h6, h7⟩ := verified hv
  refine ⟨InvG T s.code.length V.length tb.length, runs_all h1 h4 h5 href hpr hasc hfl hds, ⟨⟨Int.le_refl _, Int.natCast_nonneg _⟩, fun hlt => ?_, rfl, (show (0 : Int) ≤ 0 ∧ (0 : Int) ≤ 200 by decide), rfl, hgt, hgd, (show (0 : Int) ≤ 0 ∧ (0 : Int) ≤ 8 by decide), (show (0 : Int) ≤ 0 ∧ (0 : Int) ≤ ((0 : Nat) : Int) by decide), Nat.le_refl _, Nat.zero_le _⟩⟩
  rcases h7 with h7 | h7
  · rw [h7] at hlt; simp at hlt
  · exact h7
end Go.Proofs.YtoehnbacbobhiaaGreatDoor
