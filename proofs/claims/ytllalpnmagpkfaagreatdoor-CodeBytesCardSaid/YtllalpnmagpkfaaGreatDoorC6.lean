/- The reference: the heights of the stack. Own text (walks printed by sx.py). -/
import Derived.Test.YtllalpnmagpkfaaGreatDoorC5
set_option linter.unusedVariables false
set_option linter.unusedSimpArgs false
set_option maxHeartbeats 2000000
set_option maxRecDepth 100000
namespace Go.Proofs.YtllalpnmagpkfaaGreatDoor
open Go.RowKit Go.Flow Go.Mem Go.Sep
def mR (y : Int) : Int := if y < 0 then 0 else y
def goesR (x : Ins) (i : Nat) : List Int := (if ((x.op : Nat) : Int) ≠ 27 ∧ ((x.op : Nat) : Int) ≠ 34 then [((i + 1 : Nat) : Int)] else []) ++ (if 0 ≤ jR x then [jR x] else [])
def putR1 (v : Int) (s : List Int × Bool) (k : Int) : List Int × Bool := (if s.1.getD k.toNat 0 < 0 then s.1.set k.toNat v else s.1, s.2 && !(decide (0 ≤ s.1.getD k.toNat 0 ∧ s.1.getD k.toNat 0 ≠ v)))
def vR (m : Int) (x : Ins) : Int := m - mvP x + mvQ x
def stepR (h : List Int) (most : Int) (ok : Bool) (i : Nat) (x : Ins) : Option (List Int × Int × Bool) :=
 let m := mR (h.getD i 0)
 if m < mvP x ∨ (((x.op : Nat) : Int) = 34 ∧ m ≠ 0) then none else
 let r := (goesR x i).foldl (putR1 (vR m x)) (if h.getD i 0 < 0 then h.set i 0 else h, ok)
 some (r.1, max (max most m) (vR m x), r.2)
def goR : Nat → List Ins → List Int → Int → Bool → Int × Bool
 | i, [], h, most, ok => (most, ok && decide (h.getD i 0 ≤ 0))
 | i, x :: r, h, most, ok => match stepR h most ok i x with
   | none => (most, false)
   | some p => goR (i + 1) r p.1 p.2.1 p.2.2
def heightR (l : List Ins) : Int × Bool := goR 0 l (List.replicate (l.length + 1) (-1)) 0 true
theorem goR_none {l : List Ins} {i : Nat} {x : Ins} {h : List Int} {most : Int} {ok : Bool} (hx : l[i]? = some x) (hs : stepR h most ok i x = none) : goR i (l.drop i) h most ok = (most, false) := by
 rw [dog hx, goR, hs]
theorem goR_some {l : List Ins} {i : Nat} {x : Ins} {h h' : List Int} {most most' : Int} {ok ok' : Bool} (hx : l[i]? = some x) (hs : stepR h most ok i x = some (h', most', ok')) : goR i (l.drop i) h most ok = goR (i + 1) (l.drop (i + 1)) h' most' ok' := by
 rw [dog hx, goR, hs]
theorem goR_end {l : List Ins} {i : Nat} {h : List Int} {most : Int} {ok : Bool} (hi : i = l.length) : goR i (l.drop i) h most ok = (most, ok && decide (h.getD l.length 0 ≤ 0)) := by
 subst hi; rw [List.drop_eq_nil_of_le (Nat.le_refl _), goR]
theorem rform_facts {pr : Int} {nc : Nat} {x : Ins} (h : formR pr nc x = true) : (((x.op : Nat) : Int) = 30 ∨ ((x.op : Nat) : Int) = 31 → 0 ≤ x.n ∧ x.n ≤ 4) ∧ jR x ≤ nc := by
 unfold formR at h
 simp only [Bool.and_eq_true, Bool.or_eq_true, decide_eq_true_eq, Bool.not_eq_true', Bool.and_eq_false_iff, Bool.or_eq_false_iff, decide_eq_false_iff_not] at h
 obtain ⟨_, _, _, h9, h11⟩ := h
 constructor
 · omega
 · unfold jR
   unfold jR at h11
   split <;> omega
theorem mv_bound {x : Ins} (h : ((x.op : Nat) : Int) = 30 ∨ ((x.op : Nat) : Int) = 31 → 0 ≤ x.n ∧ x.n ≤ 4) : 0 ≤ mvP x ∧ mvP x ≤ 5 ∧ 0 ≤ mvQ x ∧ mvQ x ≤ 1 := by
 unfold mvP mvQ
 refine ⟨?_, ?_, ?_, ?_⟩ <;> (repeat' split) <;> omega
theorem goes_len (x : Ins) (i : Nat) : (goesR x i).length ≤ 2 := by
 unfold goesR
 rw [lap]
 split <;> split <;> simp
theorem goes_mem {x : Ins} {i n : Nat} (hi : i < n) (hj : jR x ≤ n) : ∀ k ∈ goesR x i, 0 ≤ k ∧ k ≤ ((n : Nat) : Int) := by
 intro k hk
 unfold goesR at hk
 rcases List.mem_append.1 hk with h | h
 · split at h
   · rw [List.mem_singleton.1 h]; omega
   · cases h
 · split at h
   · rw [List.mem_singleton.1 h]; omega
   · cases h
theorem rheight_fn (pr st : Int) (A : Option Addr) (q : Nat) (l : List Ins) (hl : l.length ≤ 4000) (hform : ∀ x ∈ l, formR pr l.length x = true) :
    Does Tryz.prog 45 [.agg #[.int .i64 pr, .int .i64 st, .slice A l.length q]] [ros Ins.rc A l] (fun v _ => v = .tuple #[.int .i64 (heightR l).1, .bool (heightR l).2]) := by
 refine Does.enter Tryz.func45 rfl Tryz.ntmps45 rfl (fun w0 => ?_)
 refine To.s (To.g (To.boxed rfl rfl rfl rfl rfl rfl (fun b1 => ?_)))
 refine To.a ?_
 refine To.a (To.n (To.t (To.s (To.g ?_))))
 refine To.mk rfl rfl rfl (Mk.slice0R (α := Int) (enc := encI) rfl s203) ?_
 rintro _ _ ⟨A0, rfl, rfl⟩
 refine To.a (To.n (To.t (To.s (To.s (To.g ?_)))))
 refine To.a (To.n (To.t (To.b ?_)))
 refine To.only [1, 0, 0] rfl (To.loopS (fun mz ρ Γ => ∃ (Ah : Option Addr) (qh : Nat) (h : List Int) (k : Nat), ρ = [(1, pv b1), (4, .slice Ah h.length qh), (5, nv k)] ∧ Γ = [box b1 [.int .i64 pr, .int .i64 st, .slice A l.length q] 37, rows encI 3 1 Ah qh h, ros Ins.rc A l] ∧ mz = l.length + 1 - k ∧ (k ≤ l.length + 1) ∧ (h = List.replicate k (-1))) (l.length + 1 - 0) ⟨⟨A0, 0, ([] : List Int), 0, rfl, rfl, rfl, (Nat.zero_le _), rfl⟩, ⟨rfl, rfl, rfl, trivial⟩⟩ ?_)
 rintro mz _ _ ⟨Ah, qh, h, k, rfl, rfl, rfl, hk, hh⟩
 have hhl : h.length = k := by rw [hh, List.length_replicate]
 refine To.s (To.s (To.g (To.m ?_)))
 refine To.f fl37_2 ?_
 refine To.lo 0 c35 ?_
 refine To.r (Rd.len rfl rfl Tryz.underlying35) ?_
 refine To.le ?_
 refine To.n (To.t (To.cp rfl (fun c22 => ?_) (fun c22 => ?_)))
 refine To.sp (To.t (To.s (To.b (To.g (To.m ?_)))))
 refine To.mk rfl rfl rfl (Mk.sN (us := [.int .i64 (-1)]) rfl s203 rfl rfl rfl rfl rfl rfl) ?_
 rintro _ _ ⟨b26, rfl, rfl⟩
 refine To.ge rfl rfl rfl (Ge.append1 encI_ok (i := 2) (j := 0) (el := (-1)) rfl s203 rfl rfl rfl rfl rfl (by first | omega | (simp; done) | (simp; omega)) (by first | omega | (simp; done) | (simp; omega))) ?_
 rintro _ _ ⟨A27, q27, rfl, rfl⟩
 refine To.a (To.n (To.bn (To.t (To.g ?_))))
 refine To.m ?_
 refine To.r (Rd.inc rfl rfl rfl (by omega)) ?_
 refine To.a (To.n (To.t ?_))
 refine To.only [1, 1, 1] rfl (To.agS (l.length + 1 - (k + 1)) (by omega) ⟨⟨A27, q27, (h ++ [-1]), k + 1, rfl, rfl, rfl, (by omega), (by rw [hh, List.replicate_succ'])⟩, ⟨rfl, rfl, rfl, trivial⟩⟩)
 refine To.ex (To.tx (To.tx (To.bx (To.t (To.s (To.g (To.a (To.n (To.t (To.s (To.g ?_)))))))))))
 refine To.a (To.n (To.t (To.s (To.s (To.g ?_)))))
 refine To.f fl37_2 ?_
 refine To.lo 0 c35 ?_
 refine To.r (Rd.len rfl rfl Tryz.underlying35) ?_
 refine To.m (To.n (To.t (To.b ?_)))
 have hh0 : h = List.replicate (l.length + 1) (-1) := by rw [hh, show k = l.length + 1 from by omega]
 subst hh0
 refine To.only [0, 0, 0] rfl (To.loopS (fun mz ρ Γ => ∃ (h : List Int) (most : Int) (ok : Bool) (i : Nat), ρ = [(1, pv b1), (4, .slice Ah h.length qh), (6, .int .i64 most), (7, .bool ok), (29, .slice A l.length q), (30, nv l.length), (31, nv i)] ∧ Γ = [box b1 [.int .i64 pr, .int .i64 st, .slice A l.length q] 37, rows encI 3 1 Ah qh h, ros Ins.rc A l] ∧ mz = l.length - i ∧ (i ≤ l.length) ∧ (h.length = l.length + 1) ∧ (∀ y0 ∈ h, (-1 : Int) ≤ y0 ∧ y0 ≤ ((i : Nat) : Int)) ∧ (heightR l = goR i (l.drop i) h most ok)) (l.length - 0) ⟨⟨(List.replicate (l.length + 1) (-1)), 0, true, 0, rfl, rfl, rfl, (Nat.zero_le _), (by simp), (fun y0 hy0 => by rw [List.eq_of_mem_replicate hy0]; omega), rfl⟩, ⟨rfl, rfl, rfl, rfl, rfl, rfl, rfl, trivial⟩⟩ ?_)
 rintro mz _ _ ⟨h, most, ok, i, rfl, rfl, rfl, hi, hhl, hB, hI⟩
 refine To.s (To.g (To.lt ?_))
 refine To.n (To.t (To.s (To.cp rfl (fun c32 => ?_) (fun c32 => ?_))))
 obtain ⟨x, hx⟩ : ∃ z0, l[i]? = some z0 := ⟨l[i]'(by omega), gge _⟩
 obtain ⟨y, hy⟩ : ∃ z0, h[i]? = some z0 := ⟨h[i]'(by omega), gge _⟩
 have hyb := hB y (mog hy)
 have hix : i < h.length := by omega
 refine To.sp (To.t (To.s (To.b (To.s (To.g (To.m ?_))))))
 refine To.r (Rd.ixo encRi (i := 2) (j := i) rfl rfl rfl s35 rfl hx) ?_
 refine To.r (Rd.lS (i := 2) rfl rfl r54 rfl (rsg encRi hx) (encRi.len _)) ?_
 refine To.alloc rfl rfl rfl rfl z54 (fun b9 => ?_)
 refine To.a ?_
 refine To.u (Up.storeS (i := 0) rfl rfl rfl r54 rfl rfl rfl (bta rfl)) ?_
 refine To.n (To.t (To.s (To.s (To.g (To.m ?_)))))
 refine To.m ?_
 refine To.r (Rd.ixr (i := 2) (j := i) rfl rfl rfl s203 rfl hy) ?_
 refine To.r (Rd.ld (i := 2) rfl rfl c3 rfl (gives_1 (rwg encI_ok hy) rfl)) ?_
 refine To.lt ?_
 refine To.n (To.t (To.meetC (T := (List Int) × (Int)) (fun t => ([(1, pv b1), (6, .int .i64 most), (7, .bool ok), (9, pv b9), (29, .slice A l.length q), (30, nv l.length), (31, nv i), (4, .slice Ah (t.1).length qh), (8, nv i)], [box b9 [nv x.op, .int .i64 x.a, .int .i64 x.b, .int .i64 x.n] 54, box b1 [.int .i64 pr, .int .i64 st, .slice A l.length q] 37, rows encI 3 1 Ah qh (t.1), ros Ins.rc A l])) (fun t => ((t.1) = if h.getD i 0 < 0 then h.set i 0 else h) ∧ ((t.1).length = l.length + 1) ∧ ((t.1)[i]? = some (t.2)) ∧ (∀ y0 ∈ (t.1), (-1 : Int) ≤ y0 ∧ y0 ≤ ((i : Nat) : Int)) ∧ (mR (h.getD i 0) = (t.2)) ∧ (0 ≤ (t.2) ∧ (t.2) ≤ ((i : Nat) : Int))) ?_ ?_))
 refine To.cp rfl (fun c40 => ?_) (fun c40 => ?_)
 refine To.g (To.m ?_)
 refine To.m ?_
 refine To.r (Rd.ixr (i := 2) (j := i) rfl rfl rfl s203 rfl hy) ?_
 refine To.u (Up.store (i := 2) rfl rfl rfl c3 rfl rfl (rows_takes encI_ok (y := 0) (by decide) (by omega))) ?_
 refine To.n (To.t (To.only [0, 0, 0, 0] rfl (To.he ((h.set i 0), mR y) ⟨(by rw [getD_of hy]; exact (if_pos (by omega)).symm), (by rw [List.length_set]; exact hhl), (by rw [show mR y = 0 from if_pos (by omega)]; exact List.getElem?_set_self hix), (all_set hB (by omega)), (by rw [getD_of hy]), (by unfold mR; split <;> omega)⟩ ⟨rfl, rfl, rfl, rfl, rfl, rfl, rfl, (congrArg (fun n : Nat => some (Value.slice Ah n qh)) List.length_set.symm), rfl, trivial⟩ rfl)))
 refine To.sp (To.t (To.only [0, 0, 0, 0] rfl (To.he (h, mR y) ⟨(by rw [getD_of hy]; exact (if_neg (by omega)).symm), hhl, (by rw [show mR y = y from if_neg (by omega)]; exact hy), hB, (by rw [getD_of hy]), (by unfold mR; split <;> omega)⟩ ⟨rfl, rfl, rfl, rfl, rfl, rfl, rfl, rfl, rfl, trivial⟩ rfl)))
 rintro ⟨h1, m⟩ ⟨hh2, hl1, hy1, hB1, hm2, hmb⟩
 replace hh2 : h1 = if h.getD i 0 < 0 then h.set i 0 else h := hh2
 replace hl1 : h1.length = l.length + 1 := hl1
 replace hy1 : h1[i]? = some m := hy1
 replace hB1 : ∀ y0 ∈ h1, (-1 : Int) ≤ y0 ∧ y0 ≤ ((i : Nat) : Int) := hB1
 replace hm2 : mR (h.getD i 0) = m := hm2
 replace hmb : 0 ≤ m ∧ m ≤ ((i : Nat) : Int) := hmb
 dsimp only
 have hxf := rform_facts (hform x (mog hx))
 have hpb := mv_bound hxf.1
 have hmv : ((x.op : Nat) : Int) = 31 → 0 ≤ x.n ∧ x.n ≤ 4 := fun h31 => hxf.1 (.inr h31)
 refine To.s (To.g (To.r (Rd.lS (i := 0) rfl rfl r54 rfl box_whole rfl) ?_))
 refine To.cV rfl rfl rfl (Ent.fn rfl rfl ca104) (rmoves_fn x hmv) rfl (ocn _) (To.m ?_)
 refine To.r (Rd.extract rfl rfl rfl) ?_
 refine To.r (Rd.extract rfl rfl rfl) ?_
 refine To.a ?_
 refine To.a (To.n (To.t (To.s (To.s (To.g ?_)))))
 refine To.meet (T := Bool) (fun t => ([(1, pv b1), (6, .int .i64 most), (7, .bool ok), (9, pv b9), (29, .slice A l.length q), (30, nv l.length), (31, nv i), (4, .slice Ah h1.length qh), (8, nv i), (10, .int .i64 (mvP x)), (11, .int .i64 (mvQ x)), (66, .bool t)], [box b9 [nv x.op, .int .i64 x.a, .int .i64 x.b, .int .i64 x.n] 54, box b1 [.int .i64 pr, .int .i64 st, .slice A l.length q] 37, rows encI 3 1 Ah qh h1, ros Ins.rc A l])) (fun t => t = ((decide (m < mvP x)) || ((decide (((x.op : Nat) : Int) = 34)) && (decide (m ≠ 0))))) ?_ (fun t ht => ?_)
 refine To.m ?_
 refine To.m ?_
 refine To.r (Rd.ixr (i := 2) (j := i) rfl rfl rfl s203 rfl hy1) ?_
 refine To.r (Rd.ld (i := 2) rfl rfl c3 rfl (gives_1 (rwg encI_ok hy1) rfl)) ?_
 refine To.m ?_
 refine To.lt ?_
 refine To.rdP rfl rfl rfl (Rd.move rfl rfl) (fun g55 => ?_) (fun g55 => ?_)
 refine To.k ?_
 refine To.k ?_
 refine To.k ?_
 refine To.k ?_
 refine To.k ?_
 refine To.k ?_
 refine To.k ?_
 refine To.k ?_
 refine To.k ?_
 refine To.k ?_
 refine To.pT ?_
 refine To.n (To.t (To.only [0, 0, 0, 0] rfl (To.he true (by simp [g55]) ⟨rfl, rfl, rfl, rfl, rfl, rfl, rfl, rfl, rfl, rfl, rfl, rfl, trivial⟩ rfl)))
 refine To.f fl54_0 ?_
 refine To.lo 0 c3 ?_
 refine To.eq ?_
 refine To.rdP rfl rfl rfl (Rd.move rfl rfl) (fun g59 => ?_) (fun g59 => ?_)
 refine To.m ?_
 refine To.m ?_
 refine To.r (Rd.ixr (i := 2) (j := i) rfl rfl rfl s203 rfl hy1) ?_
 refine To.r (Rd.ld (i := 2) rfl rfl c3 rfl (gives_1 (rwg encI_ok hy1) rfl)) ?_
 refine To.ne ?_
 refine To.pT ?_
 refine To.pF ?_
 refine To.n (To.t (To.only [0, 0, 0, 0] rfl (To.he (decide (m ≠ 0)) (by simp [g55, g59]) ⟨rfl, rfl, rfl, rfl, rfl, rfl, rfl, rfl, rfl, rfl, rfl, rfl, trivial⟩ rfl)))
 refine To.k ?_
 refine To.k ?_
 refine To.k ?_
 refine To.k ?_
 refine To.k ?_
 refine To.pF ?_
 refine To.pF ?_
 refine To.n (To.t (To.only [0, 0, 0, 0] rfl (To.he false (by simp [g55, g59]) ⟨rfl, rfl, rfl, rfl, rfl, rfl, rfl, rfl, rfl, rfl, rfl, rfl, trivial⟩ rfl)))
 subst ht
 dsimp only
 refine To.cond rfl (fun c66 => ?_) (fun c66 => ?_)
 simp only [Bool.or_eq_true, Bool.and_eq_true, decide_eq_true_eq] at c66
 refine To.s (To.g (To.m ?_))
 refine To.a ?_
 refine To.a (To.n (To.t (To.rt (To.tr (To.br (To.tr (To.tr (To.br (To.tr ?_)))))))))
 refine To.end2 (.inl rfl) Tryz.results45 rfl rfl ?_
 rw [show heightR l = (most, false) from by rw [hI]; exact goR_none hx (by unfold stepR; simp only [hm2]; rw [if_pos (by omega)])]
 simp only [Bool.or_eq_false_iff, Bool.and_eq_false_iff, decide_eq_false_iff_not] at c66
 refine To.sp (To.t (To.s (To.g (To.m ?_))))
 refine To.m ?_
 refine To.r (Rd.ixr (i := 2) (j := i) rfl rfl rfl s203 rfl hy1) ?_
 refine To.r (Rd.ld (i := 2) rfl rfl c3 rfl (gives_1 (rwg encI_ok hy1) rfl)) ?_
 refine To.m ?_
 refine To.r (Rd.sub64 rfl rfl rfl (by omega)) ?_
 refine To.m ?_
 refine To.r (Rd.add64 rfl rfl rfl (by omega)) ?_
 refine To.a (To.n (To.t (To.s ?_)))
 refine To.as [box b9 [nv x.op, .int .i64 x.a, .int .i64 x.b, .int .i64 x.n] 54, box b1 [.int .i64 pr, .int .i64 st, .slice A l.length q] 37, rows encI 3 1 Ah qh h1, ros Ins.rc A l] rfl ?_
 obtain ⟨v, hv⟩ : ∃ z0, z0 = ((m - (mvP x)) + (mvQ x)) := ⟨_, rfl⟩
 rw [← hv]
 have hv2 : vR m x = v := by rw [hv, vR]
 have hvb : 0 ≤ v ∧ v ≤ i + 1 := by omega
 refine To.g (To.m ?_)
 refine To.m ?_
 refine To.m ?_
 refine To.r (Rd.ixr (i := 2) (j := i) rfl rfl rfl s203 rfl hy1) ?_
 refine To.r (Rd.ld (i := 2) rfl rfl c3 rfl (gives_1 (rwg encI_ok hy1) rfl)) ?_
 refine To.m ?_
 refine To.r (Rd.max3 rfl rfl rfl rfl) ?_
 refine To.a (To.n (To.t (To.s ?_)))
 refine To.as [box b9 [nv x.op, .int .i64 x.a, .int .i64 x.b, .int .i64 x.n] 54, box b1 [.int .i64 pr, .int .i64 st, .slice A l.length q] 37, rows encI 3 1 Ah qh h1, ros Ins.rc A l] rfl ?_
 obtain ⟨most', hmost'⟩ : ∃ z0, z0 = (max (max most m) v) := ⟨_, rfl⟩
 rw [← hmost']
 refine To.g (To.mk rfl rfl rfl (Mk.slice0R (α := Int) (enc := encI) rfl s203) ?_)
 rintro _ _ ⟨A5, rfl, rfl⟩
 refine To.a (To.n (To.t (To.s (To.s (To.g ?_)))))
 refine To.meet (T := Bool) (fun t => ([(1, pv b1), (6, .int .i64 most'), (7, .bool ok), (9, pv b9), (29, .slice A l.length q), (30, nv l.length), (31, nv i), (4, .slice Ah h1.length qh), (8, nv i), (12, .int .i64 v), (13, .slice A5 (([] : List Int).length) 0), (91, .bool t)], [rows encI 3 1 A5 0 ([] : List Int), box b9 [nv x.op, .int .i64 x.a, .int .i64 x.b, .int .i64 x.n] 54, box b1 [.int .i64 pr, .int .i64 st, .slice A l.length q] 37, rows encI 3 1 Ah qh h1, ros Ins.rc A l])) (fun t => t = ((decide (((x.op : Nat) : Int) ≠ 27)) && decide (((x.op : Nat) : Int) ≠ 34))) ?_ (fun t ht => ?_)
 refine To.f fl54_0 ?_
 refine To.lo 1 c3 ?_
 refine To.ne ?_
 refine To.rdP rfl rfl rfl (Rd.move rfl rfl) (fun g87 => ?_) (fun g87 => ?_)
 refine To.f fl54_0 ?_
 refine To.lo 1 c3 ?_
 refine To.ne ?_
 refine To.pT ?_
 refine To.n (To.t (To.only [0, 0, 0, 0, 0] rfl (To.he (decide (((x.op : Nat) : Int) ≠ 34)) (by simp [g87]) ⟨rfl, rfl, rfl, rfl, rfl, rfl, rfl, rfl, rfl, rfl, rfl, rfl, trivial⟩ rfl)))
 refine To.k ?_
 refine To.k ?_
 refine To.k ?_
 refine To.pF ?_
 refine To.n (To.t (To.only [0, 0, 0, 0, 0] rfl (To.he false (by simp [g87]) ⟨rfl, rfl, rfl, rfl, rfl, rfl, rfl, rfl, rfl, rfl, rfl, rfl, trivial⟩ rfl)))
 subst ht
 dsimp only
 refine To.meetC (T := (Option Addr) × (Nat) × (List Int)) (fun t => ([(1, pv b1), (4, .slice Ah h1.length qh), (6, .int .i64 most'), (7, .bool ok), (8, nv i), (9, pv b9), (12, .int .i64 v), (13, .slice (t.1) (t.2.2).length (t.2.1)), (29, .slice A l.length q), (30, nv l.length), (31, nv i)], [box b9 [nv x.op, .int .i64 x.a, .int .i64 x.b, .int .i64 x.n] 54, box b1 [.int .i64 pr, .int .i64 st, .slice A l.length q] 37, rows encI 3 1 Ah qh h1, ros Ins.rc A l, rows encI 3 1 (t.1) (t.2.1) (t.2.2)])) (fun t => ((t.2.2) = (if ((x.op : Nat) : Int) ≠ 27 ∧ ((x.op : Nat) : Int) ≠ 34 then [((i + 1 : Nat) : Int)] else [])) ∧ ((t.2.2).length ≤ 1)) ?_ ?_
 refine To.cond rfl (fun c91 => ?_) (fun c91 => ?_)
 refine To.g (To.m ?_)
 refine To.m ?_
 refine To.r (Rd.inc rfl rfl rfl (by omega)) ?_
 refine To.mk rfl rfl rfl (Mk.sN (us := [nv (i + 1)]) rfl s203 rfl rfl rfl rfl rfl rfl) ?_
 rintro _ _ ⟨b95, rfl, rfl⟩
 refine To.ge rfl rfl rfl (Ge.append1 encI_ok (i := 1) (j := 0) (el := ((i + 1 : Nat) : Int)) rfl s203 rfl rfl rfl rfl rfl (by first | omega | (simp; done) | (simp; omega)) (by first | omega | (simp; done) | (simp; omega))) ?_
 rintro _ _ ⟨A96, q96, rfl, rfl⟩
 refine To.a (To.n (To.t ?_))
 refine To.only [2, 2, 2, 2, 1] rfl (To.he (A96, q96, ([] : List Int) ++ [((i + 1 : Nat) : Int)]) ⟨(by simp only [Bool.and_eq_true, decide_eq_true_eq] at c91; rw [if_pos c91]; rfl), (by simp)⟩ ⟨rfl, rfl, rfl, rfl, rfl, rfl, rfl, rfl, rfl, rfl, rfl, trivial⟩ rfl)
 refine To.sp (To.t (To.only [1, 1, 1, 1, 0] rfl (To.he (A5, 0, ([] : List Int)) ⟨(by rw [if_neg (fun h => by rw [decide_eq_true h.1, decide_eq_true h.2] at c91; cases c91)]), (by simp)⟩ ⟨rfl, rfl, rfl, rfl, rfl, rfl, rfl, rfl, rfl, rfl, rfl, trivial⟩ rfl)))
 rintro ⟨Ag, qg, gs⟩ ⟨hgs1, hgl1⟩
 replace hgs1 : gs = (if ((x.op : Nat) : Int) ≠ 27 ∧ ((x.op : Nat) : Int) ≠ 34 then [((i + 1 : Nat) : Int)] else []) := hgs1
 replace hgl1 : gs.length ≤ 1 := hgl1
 dsimp only
 refine To.s (To.s (To.g (To.r (Rd.lS (i := 0) rfl rfl r54 rfl box_whole rfl) ?_)))
 refine To.cV rfl rfl rfl (Ent.fn rfl rfl ca105) (rjump_fn x) rfl (ocn _) (To.a (To.n (To.t (To.s (To.g ?_)))))
 refine To.m ?_
 refine To.gq ?_
 refine To.n (To.t (To.meetC (T := (Option Addr) × (Nat) × (List Int)) (fun t => ([(1, pv b1), (4, .slice Ah h1.length qh), (6, .int .i64 most'), (7, .bool ok), (8, nv i), (12, .int .i64 v), (13, .slice (t.1) (t.2.2).length (t.2.1)), (29, .slice A l.length q), (30, nv l.length), (31, nv i)], [box b1 [.int .i64 pr, .int .i64 st, .slice A l.length q] 37, rows encI 3 1 Ah qh h1, ros Ins.rc A l, rows encI 3 1 (t.1) (t.2.1) (t.2.2)])) (fun t => ((t.2.2) = goesR x i)) ?_ ?_))
 refine To.cp rfl (fun c100 => ?_) (fun c100 => ?_)
 refine To.g (To.m ?_)
 refine To.m ?_
 refine To.mk rfl rfl rfl (Mk.sN (us := [.int .i64 (jR x)]) rfl s203 rfl rfl rfl rfl rfl rfl) ?_
 rintro _ _ ⟨b103, rfl, rfl⟩
 refine To.ge rfl rfl rfl (Ge.append1 encI_ok (i := 5) (j := 0) (el := (jR x)) rfl s203 rfl rfl rfl rfl rfl (by first | omega | (simp; done) | (simp; omega)) (by first | omega | (simp; done) | (simp; omega))) ?_
 rintro _ _ ⟨A104, q104, rfl, rfl⟩
 refine To.a (To.n (To.t ?_))
 refine To.only [2, 2, 2, 2] rfl (To.he (A104, q104, gs ++ [(jR x)]) (by rw [goesR, ← hgs1, if_pos c100]) ⟨rfl, rfl, rfl, rfl, rfl, rfl, rfl, rfl, rfl, rfl, trivial⟩ rfl)
 refine To.sp (To.t (To.only [1, 1, 1, 1] rfl (To.he (Ag, qg, gs) (by rw [goesR, ← hgs1, if_neg c100, List.append_nil]) ⟨rfl, rfl, rfl, rfl, rfl, rfl, rfl, rfl, rfl, rfl, trivial⟩ rfl)))
 rintro ⟨Ag2, qg2, gs2⟩ hgs2
 replace hgs2 : gs2 = goesR x i := hgs2
 dsimp only
 have hgm : ∀ k ∈ gs2, 0 ≤ k ∧ k ≤ ((l.length : Nat) : Int) := by rw [hgs2]; exact goes_mem (by omega) hxf.2
 have hgl : gs2.length ≤ 2 := by rw [hgs2]; exact goes_len x i
 refine To.s (To.g (To.m ?_))
 refine To.r (Rd.len rfl rfl Tryz.underlying203) ?_
 refine To.m (To.n (To.t (To.b ?_)))
 refine To.only [0, 0, 1, 0] rfl (To.loopS (fun mz ρ Γ => ∃ (h2 : List Int) (ok2 : Bool) (j : Nat), ρ = [(1, pv b1), (4, .slice Ah h2.length qh), (6, .int .i64 most'), (7, .bool ok2), (12, .int .i64 v), (29, .slice A l.length q), (30, nv l.length), (31, nv i), (105, .slice Ag2 gs2.length qg2), (106, nv gs2.length), (107, nv j)] ∧ Γ = [box b1 [.int .i64 pr, .int .i64 st, .slice A l.length q] 37, rows encI 3 1 Ah qh h2, rows encI 3 1 Ag2 qg2 gs2, ros Ins.rc A l] ∧ mz = gs2.length - j ∧ (j ≤ gs2.length) ∧ (h2.length = l.length + 1) ∧ (∀ y0 ∈ h2, (-1 : Int) ≤ y0 ∧ y0 ≤ ((i + 1 : Nat) : Int)) ∧ (gs2.foldl (putR1 v) (if h.getD i 0 < 0 then h.set i 0 else h, ok) = (gs2.drop j).foldl (putR1 v) (h2, ok2))) (gs2.length - 0) ⟨⟨h1, ok, 0, rfl, rfl, rfl, (Nat.zero_le _), hl1, (fun y0 h0 => by have := hB1 y0 h0; omega), (by rw [← hh2]; rfl)⟩, ⟨rfl, rfl, rfl, rfl, rfl, rfl, rfl, rfl, rfl, rfl, rfl, trivial⟩⟩ ?_)
 rintro mz _ _ ⟨h2, ok2, j, rfl, rfl, rfl, hj, hl2, hB2, hJ⟩
 refine To.s (To.g (To.lt ?_))
 refine To.n (To.t (To.s (To.cp rfl (fun c108 => ?_) (fun c108 => ?_))))
 obtain ⟨z5, hz⟩ : ∃ z0, gs2[j]? = some z0 := ⟨gs2[j]'(by omega), gge _⟩
 refine To.sp (To.t (To.s (To.b (To.s (To.g (To.r (Rd.ixr (i := 2) (j := j) rfl rfl rfl s203 rfl hz) ?_))))))
 refine To.r (Rd.ld (i := 2) rfl rfl c3 rfl (gives_1 (rwg encI_ok hz) rfl)) ?_
 refine To.a (To.n (To.t (To.s (To.s ?_))))
 have hz5 := hgm z5 (mog hz)
 obtain ⟨tn, htn⟩ : ∃ tn : Nat, z5 = ((tn : Nat) : Int) := ⟨z5.toNat, by omega⟩
 subst htn
 obtain ⟨y6, hy6⟩ : ∃ z0, h2[tn]? = some z0 := ⟨h2[tn]'(by omega), gge _⟩
 refine To.g (To.meet (T := Bool) (fun t => ([(1, pv b1), (4, .slice Ah h2.length qh), (6, .int .i64 most'), (7, .bool ok2), (12, .int .i64 v), (29, .slice A l.length q), (30, nv l.length), (31, nv i), (105, .slice Ag2 gs2.length qg2), (106, nv gs2.length), (107, nv j), (16, nv tn), (123, .bool t)], [box b1 [.int .i64 pr, .int .i64 st, .slice A l.length q] 37, rows encI 3 1 Ah qh h2, rows encI 3 1 Ag2 qg2 gs2, ros Ins.rc A l])) (fun t => t = ((decide (0 ≤ y6)) && (decide (y6 ≠ v)))) ?_ (fun t ht => ?_))
 refine To.m ?_
 refine To.m ?_
 refine To.r (Rd.ixr (i := 1) (j := tn) rfl rfl rfl s203 rfl hy6) ?_
 refine To.r (Rd.ld (i := 1) rfl rfl c3 rfl (gives_1 (rwg encI_ok hy6) rfl)) ?_
 refine To.gq ?_
 refine To.rdP rfl rfl rfl (Rd.move rfl rfl) (fun g116 => ?_) (fun g116 => ?_)
 refine To.m ?_
 refine To.m ?_
 refine To.r (Rd.ixr (i := 1) (j := tn) rfl rfl rfl s203 rfl hy6) ?_
 refine To.r (Rd.ld (i := 1) rfl rfl c3 rfl (gives_1 (rwg encI_ok hy6) rfl)) ?_
 refine To.m ?_
 refine To.ne ?_
 refine To.pT ?_
 refine To.n (To.t (To.only [0, 0, 0, 0] rfl (To.he (decide (y6 ≠ v)) (by simp [g116]) ⟨rfl, rfl, rfl, rfl, rfl, rfl, rfl, rfl, rfl, rfl, rfl, rfl, rfl, trivial⟩ rfl)))
 refine To.k ?_
 refine To.k ?_
 refine To.k ?_
 refine To.k ?_
 refine To.k ?_
 refine To.k ?_
 refine To.pF ?_
 refine To.n (To.t (To.only [0, 0, 0, 0] rfl (To.he false (by simp [g116]) ⟨rfl, rfl, rfl, rfl, rfl, rfl, rfl, rfl, rfl, rfl, rfl, rfl, rfl, trivial⟩ rfl)))
 subst ht
 dsimp only
 refine To.meetC (T := (Bool)) (fun t => ([(1, pv b1), (4, .slice Ah h2.length qh), (6, .int .i64 most'), (7, .bool (t)), (12, .int .i64 v), (16, nv tn), (29, .slice A l.length q), (30, nv l.length), (31, nv i), (105, .slice Ag2 gs2.length qg2), (106, nv gs2.length), (107, nv j)], [box b1 [.int .i64 pr, .int .i64 st, .slice A l.length q] 37, rows encI 3 1 Ah qh h2, rows encI 3 1 Ag2 qg2 gs2, ros Ins.rc A l])) (fun t => ((t) = (ok2 && !((decide (0 ≤ y6)) && (decide (y6 ≠ v)))))) ?_ ?_
 refine To.cond rfl (fun c123 => ?_) (fun c123 => ?_)
 refine To.g (To.a (To.n (To.t ?_)))
 refine To.only [0, 0, 0, 0] rfl (To.he (false) (by rw [c123]; simp) ⟨rfl, rfl, rfl, rfl, rfl, rfl, rfl, rfl, rfl, rfl, rfl, rfl, trivial⟩ rfl)
 refine To.sp (To.t (To.only [0, 0, 0, 0] rfl (To.he (ok2) (by rw [c123]; simp) ⟨rfl, rfl, rfl, rfl, rfl, rfl, rfl, rfl, rfl, rfl, rfl, rfl, trivial⟩ rfl)))
 rintro ok3 hok3
 replace hok3 : ok3 = (ok2 && !((decide (0 ≤ y6)) && (decide (y6 ≠ v)))) := hok3
 dsimp only
 refine To.s (To.g (To.m ?_))
 refine To.m ?_
 refine To.r (Rd.ixr (i := 1) (j := tn) rfl rfl rfl s203 rfl hy6) ?_
 refine To.r (Rd.ld (i := 1) rfl rfl c3 rfl (gives_1 (rwg encI_ok hy6) rfl)) ?_
 refine To.lt ?_
 refine To.n (To.t (To.cp rfl (fun c128 => ?_) (fun c128 => ?_)))
 refine To.g (To.m ?_)
 refine To.m ?_
 refine To.m ?_
 refine To.r (Rd.ixr (i := 1) (j := tn) rfl rfl rfl s203 rfl hy6) ?_
 refine To.u (Up.store (i := 1) rfl rfl rfl c3 rfl rfl (rows_takes encI_ok (y := v) (by decide) (by omega))) ?_
 refine To.n (To.bn (To.t (To.g (To.r (Rd.inc rfl rfl rfl (by omega)) ?_))))
 refine To.m (To.n (To.t ?_))
 have hP : putR1 v (h2, ok2) ((tn : Nat) : Int) = ((h2.set tn v), ok3) := by
  unfold putR1; simp only [Int.toNat_natCast, getD_of hy6]
  rw [if_pos (by omega), hok3, Bool.decide_and]
 refine To.only [0, 0, 0, 0] rfl (To.agS (gs2.length - (j + 1)) (by omega) ⟨⟨(h2.set tn v), ok3, j + 1, rfl, rfl, rfl, (by omega), (by rw [List.length_set]; exact hl2), (all_set hB2 (by omega)), (by rw [hJ, dog hz, List.foldl_cons, hP])⟩, ⟨rfl, (congrArg (fun n : Nat => some (Value.slice Ah n qh)) List.length_set.symm), rfl, rfl, rfl, rfl, rfl, rfl, rfl, rfl, rfl, trivial⟩⟩)
 refine To.sp (To.bn (To.t (To.g (To.r (Rd.inc rfl rfl rfl (by omega)) ?_))))
 refine To.m (To.n (To.t ?_))
 have hP : putR1 v (h2, ok2) ((tn : Nat) : Int) = (h2, ok3) := by
  unfold putR1; simp only [Int.toNat_natCast, getD_of hy6]
  rw [if_neg (by omega), hok3, Bool.decide_and]
 refine To.only [0, 0, 0, 0] rfl (To.agS (gs2.length - (j + 1)) (by omega) ⟨⟨h2, ok3, j + 1, rfl, rfl, rfl, (by omega), hl2, hB2, (by rw [hJ, dog hz, List.foldl_cons, hP])⟩, ⟨rfl, rfl, rfl, rfl, rfl, rfl, rfl, rfl, rfl, rfl, rfl, trivial⟩⟩)
 refine To.ex (To.tx (To.tx (To.bx (To.bn (To.t (To.g (To.r (Rd.inc rfl rfl rfl (by omega)) ?_)))))))
 refine To.m (To.n (To.t ?_))
 have hnf : ¬ (m < mvP x ∨ (((x.op : Nat) : Int) = 34 ∧ m ≠ 0)) := by omega
 have hS : stepR h most ok i x = some (h2, most', ok2) := by
  unfold stepR; simp only [hm2, hv2, ← hgs2]; rw [if_neg hnf, hJ, List.drop_eq_nil_of_le (by omega)]; simp only [List.foldl_nil, ← hmost']
 refine To.only [0, 0, 1] rfl (To.agS (l.length - (i + 1)) (by omega) ⟨⟨h2, most', ok2, i + 1, rfl, rfl, rfl, (by omega), hl2, hB2, (by rw [hI, goR_some hx hS])⟩, ⟨rfl, rfl, rfl, rfl, rfl, rfl, rfl, trivial⟩⟩)
 refine To.ex (To.tx (To.tx (To.bx (To.t (To.s ?_)))))
 obtain ⟨y4, hy4⟩ : ∃ z0, h[l.length]? = some z0 := ⟨h[l.length]'(by omega), gge _⟩
 refine To.flow [] [⟨0, [], 0⟩, ⟨1, [], 0⟩, ⟨2, [], 0⟩, ⟨3, [], 0⟩, ⟨4, [], 0⟩, ⟨11, [], 0⟩, ⟨5, [], 1⟩, ⟨6, [], 0⟩, ⟨7, [], 1⟩, ⟨8, [], 1⟩, ⟨9, [], 0⟩, ⟨10, [], 0⟩, ⟨12, [], 0⟩] mixed (by kernel_rfl) (ocn _) (W.mo ?_)
 refine W.mo ?_
 refine W.rdB rfl rfl rfl rfl (Rd.move rfl rfl) (fun g137 => ?_) (fun g137 => ?_)
 refine W.mo ?_
 refine W.fi fl37_2 ?_
 refine W.f rfl (Rd.assign rfl rfl) ?_
 refine W.lo 0 c35 ?_
 refine W.f rfl (Rd.len rfl rfl Tryz.underlying35) ?_
 refine W.r rfl (Rd.ixr (i := 1) (j := l.length) rfl rfl rfl s203 rfl hy4) ?_
 refine W.r rfl (Rd.ld (i := 1) rfl rfl c3 rfl (gives_1 (rwg encI_ok hy4) rfl)) ?_
 refine W.f rfl (Rd.leq rfl rfl rfl) ?_
 refine W.f rfl (Rd.pickT rfl rfl rfl) ?_
 refine W.f rfl (Rd.assign rfl rfl) ?_
 refine W.fin ?_
 refine To.t (To.rt (To.end2 (.inl rfl) Tryz.results45 rfl rfl ?_))
 rw [show heightR l = (most, ok && decide (y4 ≤ 0)) from by rw [hI, goR_end (by omega), getD_of hy4]]
 simp [g137]
 refine W.skip (by decide) rfl rfl rfl rfl ?_
 refine W.skip (by decide) rfl rfl rfl rfl ?_
 refine W.f rfl (Rd.assign rfl rfl) ?_
 refine W.skip (by decide) rfl rfl rfl rfl ?_
 refine W.skip (by decide) rfl rfl rfl rfl ?_
 refine W.skip (by decide) rfl rfl rfl rfl ?_
 refine W.skip (by decide) rfl rfl rfl rfl ?_
 refine W.skip (by decide) rfl rfl rfl rfl ?_
 refine W.f rfl (Rd.pickF rfl rfl rfl) ?_
 refine W.f rfl (Rd.assign rfl rfl) ?_
 refine W.fin ?_
 refine To.t (To.rt (To.end2 (.inl rfl) Tryz.results45 rfl rfl ?_))
 rw [show heightR l = (most, ok && decide (y4 ≤ 0)) from by rw [hI, goR_end (by omega), getD_of hy4]]
 simp [g137]
end Go.Proofs.YtllalpnmagpkfaaGreatDoor
