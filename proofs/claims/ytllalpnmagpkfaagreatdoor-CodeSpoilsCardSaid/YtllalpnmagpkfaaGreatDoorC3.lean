/- The heights of the stack, and the unit verified. Own text (walks printed by sx.py). -/
import Derived.Test.YtllalpnmagpkfaaGreatDoorC2
set_option linter.unusedVariables false
set_option linter.unusedSimpArgs false
set_option maxHeartbeats 2000000
set_option maxRecDepth 100000
namespace Go.Proofs.YtllalpnmagpkfaaGreatDoor
open Go.RowKit Go.Flow Go.Mem Go.Sep
theorem form_facts {pr : Int} {nc : Nat} {x : Ins} (h : formedB pr nc x = true) : (((x.op : Nat) : Int) = 30 ∨ ((x.op : Nat) : Int) = 31 → 0 ≤ x.n ∧ x.n ≤ 4) ∧ 0 ≤ (tgt x).getD 0 ∧ (tgt x).getD 0 ≤ nc := by
 unfold formedB at h
 simp only [Bool.and_eq_true, decide_eq_true_eq, Bool.not_eq_true', Bool.and_eq_false_iff, Bool.or_eq_false_iff, decide_eq_false_iff_not] at h
 obtain ⟨⟨_, ht⟩, hr⟩ := h
 constructor
 · intro hop
   rw [if_neg (by omega), if_neg (by omega)] at hr
   by_cases hb : x.b < 0 ∨ 63 < x.b ∨ x.n < 0 ∨ 4 < x.n
   · rw [if_pos ⟨hop, hb⟩] at hr; cases hr
   · omega
 · rcases ht with ht | ht
   · have : tgt x = none := by simpa using ht
     rw [this]; exact ⟨Int.le_refl _, Int.natCast_nonneg _⟩
   · omega
def popsN (x : Ins) : Int := if ((x.op : Nat) : Int) = 30 ∨ ((x.op : Nat) : Int) = 31 then (rowOf x.op).pops + x.n else (rowOf x.op).pops
def okH (y v : Int) : Prop := y < 0 ∨ y = v
instance (y v : Int) : Decidable (okH y v) := inferInstanceAs (Decidable (_ ∨ _))
def aftH (m : Int) (x : Ins) : Int := m - popsN x + (rowOf x.op).pushes
def nextH (h : List Int) (i : Nat) (x : Ins) (v : Int) : Option (List Int) :=
 if ((x.op : Nat) : Int) ≠ 27 ∧ ((x.op : Nat) : Int) ≠ 34 then (if okH (h.getD (i + 1) 0) v then some (h.set (i + 1) v) else none) else some h
def jumpH (h : List Int) (x : Ins) (v : Int) : Option (List Int) :=
 if (tgt x).isSome = true then (if okH (h.getD ((tgt x).getD 0).toNat 0) v then some (h.set ((tgt x).getD 0).toNat v) else none) else some h
def stepH (h : List Int) (top : Int) (i : Nat) (x : Ins) : Option (List Int × Int) :=
 let m := max (h.getD i 0) 0
 if m < popsN x ∨ (((x.op : Nat) : Int) = 34 ∧ m ≠ 0) then none else
 (nextH (h.set i m) i x (aftH m x)).bind fun h2 => (jumpH h2 x (aftH m x)).map fun h3 => (h3, max (max top m) (aftH m x))
def goH : Nat → List Ins → List Int → Int → Option (List Int × Int)
 | _, [], h, top => some (h, top)
 | i, x :: r, h, top => (stepH h top i x).bind fun p => goH (i + 1) r p.1 p.2
def heightsV (l : List Ins) : Int × Bool := match goH 0 l (List.replicate (l.length + 1) (-1)) 0 with
 | none => (0, false)
 | some (h, top) => (top, decide (h.getD l.length 0 ≤ 0))
theorem goH_step {l : List Ins} {i : Nat} {x : Ins} (hx : l[i]? = some x) (h : List Int) (top : Int) : goH i (l.drop i) h top = (stepH h top i x).bind fun p => goH (i + 1) (l.drop (i + 1)) p.1 p.2 := by rw [dog hx]; rfl
theorem heights_none {l : List Ins} (h : goH 0 l (List.replicate (l.length + 1) (-1)) 0 = none) : heightsV l = (0, false) := by unfold heightsV; rw [h]
theorem repl_set (k n : Nat) : (List.replicate k (-1 : Int) ++ List.replicate (n + 1) 0).set k (-1) = List.replicate (k + 1) (-1) ++ List.replicate n 0 := by
 rw [List.set_append_right _ _ (by simp), List.length_replicate, Nat.sub_self, List.replicate_succ (n := n), List.set_cons_zero, List.append_cons, ← List.replicate_succ']
theorem getD_of {l : List Int} {i : Nat} {y : Int} (h : l[i]? = some y) : l.getD i 0 = y := by rw [List.getD_eq_getElem?_getD, h]; rfl
theorem all_set {l : List Int} {i : Nat} {v lo hi : Int} (h : ∀ y ∈ l, lo ≤ y ∧ y ≤ hi) (hv : lo ≤ v ∧ v ≤ hi) : ∀ y ∈ l.set i v, lo ≤ y ∧ y ≤ hi := fun y hy => by
 rcases List.mem_or_eq_of_mem_set hy with h1 | rfl
 · exact h y h1
 · exact hv
theorem set_fn (b : Nat) (Ah : Option Addr) (qh : Nat) (h : List Int) (t : Nat) (v y : Int) (hy : h[t]? = some y) :
    Does Tryz.prog 135 [nv t, .int .i64 v, pv b] [box b [.slice Ah h.length qh] 203, rows encI 3 1 Ah qh h] (fun r Γ' => r = .bool (decide (okH y v)) ∧ Γ' = [box b [.slice Ah h.length qh] 203, rows encI 3 1 Ah qh (h.set t v)]) := by
 refine Does.enter Tryz.func135 rfl Tryz.ntmps135 rfl (fun w0 => ?_)
 refine To.s (To.g (To.a (To.n (To.t (To.s (To.g ?_))))))
 refine To.lo 0 c203 ?_
 refine To.m ?_
 refine To.r (Rd.ixr (i := 1) (j := t) rfl rfl rfl s203 rfl hy) ?_
 refine To.r (Rd.ld (i := 1) rfl rfl c3 rfl (gives_1 (rwg encI_ok hy) rfl)) ?_
 refine To.lt ?_
 refine To.rdP rfl rfl rfl (Rd.move rfl rfl) (fun g12 => ?_) (fun g12 => ?_)
 refine To.k ?_
 refine To.k ?_
 refine To.k ?_
 refine To.k ?_
 refine To.k ?_
 refine To.k ?_
 refine To.pT ?_
 refine To.a (To.n (To.t (To.s ?_)))
 have htl : t < h.length := (List.getElem?_eq_some_iff.1 hy).1
 refine To.g ?_
 refine To.lo 0 c203 ?_
 refine To.m ?_
 refine To.m ?_
 refine To.r (Rd.ixr (i := 1) (j := t) rfl rfl rfl s203 rfl hy) ?_
 refine To.u (Up.store (i := 1) rfl rfl rfl c3 rfl rfl (rows_takes encI_ok (y := v) (by decide) (by omega))) ?_
 refine To.n (To.t (To.s (To.g (To.m ?_))))
 refine To.a (To.n (To.t (To.rt ?_)))
 refine To.only [0, 0] rfl ?_
 refine To.end1 (.inl rfl) Tryz.results135 rfl ?_
 exact ⟨by simp [okH, g12], rfl⟩
 refine To.lo 0 c203 ?_
 refine To.m ?_
 refine To.r (Rd.ixr (i := 1) (j := t) rfl rfl rfl s203 rfl hy) ?_
 refine To.r (Rd.ld (i := 1) rfl rfl c3 rfl (gives_1 (rwg encI_ok hy) rfl)) ?_
 refine To.m ?_
 refine To.eq ?_
 refine To.pF ?_
 refine To.a (To.n (To.t (To.s ?_)))
 have htl : t < h.length := (List.getElem?_eq_some_iff.1 hy).1
 refine To.g ?_
 refine To.lo 0 c203 ?_
 refine To.m ?_
 refine To.m ?_
 refine To.r (Rd.ixr (i := 1) (j := t) rfl rfl rfl s203 rfl hy) ?_
 refine To.u (Up.store (i := 1) rfl rfl rfl c3 rfl rfl (rows_takes encI_ok (y := v) (by decide) (by omega))) ?_
 refine To.n (To.t (To.s (To.g (To.m ?_))))
 refine To.a (To.n (To.t (To.rt ?_)))
 refine To.only [0, 0] rfl ?_
 refine To.end1 (.inl rfl) Tryz.results135 rfl ?_
 exact ⟨by simp [okH, g12], rfl⟩
theorem heights_fn (pr : Int) (A : Option Addr) (q : Nat) (l : List Ins) (hl : l.length ≤ 4000) (hform : ∀ x ∈ l, formedB pr l.length x = true) :
    Does Tryz.prog 73 [.slice A l.length q] [ros Ins.cells A l, tabC] (fun v _ => v = .tuple #[.int .i64 (heightsV l).1, .bool (heightsV l).2]) := by
 refine Does.enter Tryz.func73 rfl Tryz.ntmps73 rfl (fun w0 => ?_)
 refine To.s (To.g (To.a ?_))
 refine To.a (To.n (To.t (To.s (To.g ?_))))
 refine To.m ?_
 refine To.r (Rd.len rfl rfl Tryz.underlying40) ?_
 refine To.r (Rd.inc rfl rfl rfl (by omega)) ?_
 refine To.mk rfl rfl rfl (Mk.makeRows (enc := encI) (z := 0) (n := (l.length + 1)) rfl rfl s203 rfl rfl (by omega) (by simp only [maxLen]; omega)) ?_
 rintro _ _ ⟨b16, rfl, rfl⟩
 refine To.alloc rfl rfl rfl rfl z203 (fun b4 => ?_)
 refine To.u (Up.store (i := 0) rfl rfl rfl c203 rfl rfl (bta rfl)) ?_
 refine To.n (To.t (To.s (To.s (To.g ?_))))
 refine To.lo 0 c203 ?_
 refine To.r (Rd.len rfl rfl Tryz.underlying203) ?_
 refine To.m (To.n (To.t (To.b ?_)))
 refine To.sub [(0, .slice A l.length q), (2, .int .i64 0), (4, pv b4), (18, nv ((l.length + 1))), (19, nv 0)] ⟨rfl, rfl, rfl, (congrArg (fun n : Nat => some (Value.int .i64 (n : Int))) List.length_replicate), rfl, trivial⟩ ?_
 refine To.only [0, 0, 0, 0] rfl ?_
 refine To.loop (fun mz ρ Γ => ∃ (Ah : Option Addr) (qh : Nat) (h : List Int) (k : Nat), ρ = [(0, .slice A l.length q), (2, .int .i64 0), (4, pv b4), (18, nv ((l.length + 1))), (19, nv k)] ∧ Γ = [box b4 [.slice Ah h.length qh] 203, rows encI 3 1 Ah qh h, ros Ins.cells A l, tabC] ∧ mz = l.length + 1 - k ∧ (k ≤ l.length + 1) ∧ (h = List.replicate k (-1) ++ List.replicate (l.length + 1 - k) 0)) (l.length + 1 - 0) ⟨(some ⟨b16, 0, none⟩), (l.length + 1), (List.replicate (l.length + 1) (0 : Int)), 0, rfl, rfl, rfl, (Nat.zero_le _), (by simp)⟩ ?_
 rintro mz _ _ ⟨Ah, qh, h, k, rfl, rfl, rfl, hk, hh⟩
 have hhl : h.length = l.length + 1 := by rw [hh, lap, List.length_replicate, List.length_replicate]; omega
 refine To.s (To.g ?_)
 refine To.lt ?_
 refine To.n (To.t (To.s ?_))
 refine To.cp rfl (fun c20 => ?_) (fun c20 => ?_)
 refine To.sp (To.t (To.s (To.b (To.s (To.g (To.m ?_))))))
 refine To.a (To.n (To.t ?_))
 obtain ⟨y, hy⟩ : ∃ z0, h[k]? = some z0 := ⟨h[k]'(by omega), gge _⟩
 refine To.g ?_
 refine To.lo 0 c203 ?_
 refine To.m ?_
 refine To.r (Rd.ixr (i := 1) (j := k) rfl rfl rfl s203 rfl hy) ?_
 refine To.u (Up.store (i := 1) rfl rfl rfl c3 rfl rfl (rows_takes encI_ok (y := (-1)) (by decide) (by omega))) ?_
 refine To.n (To.bn (To.t (To.g ?_)))
 refine To.r (Rd.inc rfl rfl rfl (by omega)) ?_
 refine To.m (To.n (To.t ?_))
 refine To.sub [(0, .slice A l.length q), (2, .int .i64 0), (4, pv b4), (18, nv ((l.length + 1))), (19, nv ((k + 1)))] ⟨rfl, rfl, rfl, rfl, rfl, trivial⟩ ?_
 refine To.only [0, 0, 0, 0] rfl ?_
 refine To.as [box b4 [.slice Ah (h.set k (-1)).length qh] 203, rows encI 3 1 Ah qh (h.set k (-1)), ros Ins.cells A l, tabC] (by rw [List.length_set] <;> rfl) ?_
 refine To.ag (l.length + 1 - (k + 1)) (by omega) ⟨Ah, qh, (h.set k (-1)), k + 1, rfl, rfl, rfl, (by omega), (by rw [hh, show l.length + 1 - k = (l.length - k) + 1 from by omega, repl_set, show l.length + 1 - (k + 1) = l.length - k from by omega])⟩
 refine To.ex (To.tx (To.tx (To.bx (To.t (To.s (To.g ?_))))))
 refine To.r (Rd.makeFunc rfl rfl rfl) ?_
 refine To.a (To.n (To.t (To.s (To.s (To.g ?_)))))
 refine To.m ?_
 refine To.r (Rd.len rfl rfl Tryz.underlying40) ?_
 refine To.m (To.n (To.t (To.b ?_)))
 have hh0 : h = List.replicate (l.length + 1) (-1) := by rw [hh, show k = l.length + 1 from by omega]; simp
 subst hh0
 refine To.sub [(0, .slice A l.length q), (2, .int .i64 0), (4, pv b4), (6, .func (.func 135) #[] #[pv b4]), (27, .slice A l.length q), (28, nv l.length), (29, nv 0)] ⟨rfl, rfl, rfl, rfl, rfl, rfl, rfl, trivial⟩ ?_
 refine To.only [0, 0, 0, 0] rfl ?_
 refine To.loop (fun mz ρ Γ => ∃ (h : List Int) (top : Int) (i : Nat), ρ = [(0, .slice A l.length q), (2, .int .i64 top), (4, pv b4), (6, .func (.func 135) #[] #[pv b4]), (27, .slice A l.length q), (28, nv l.length), (29, nv i)] ∧ Γ = [box b4 [.slice Ah h.length qh] 203, rows encI 3 1 Ah qh h, ros Ins.cells A l, tabC] ∧ mz = l.length - i ∧ (i ≤ l.length) ∧ (h.length = l.length + 1) ∧ (∀ y0 ∈ h, (-1 : Int) ≤ y0 ∧ y0 ≤ ((i : Nat) : Int)) ∧ (goH 0 l (List.replicate (l.length + 1) (-1)) 0 = goH i (l.drop i) h top) ∧ (0 ≤ top ∧ top ≤ 4001)) (l.length - 0) ⟨(List.replicate (l.length + 1) (-1)), 0, 0, rfl, rfl, rfl, (Nat.zero_le _), (by simp), (fun y0 hy0 => by rw [List.eq_of_mem_replicate hy0]; omega), rfl, (by omega)⟩ ?_
 rintro mz _ _ ⟨h, top, i, rfl, rfl, rfl, hi, hhl, hB, hI, ht⟩
 refine To.s (To.g ?_)
 refine To.lt ?_
 refine To.n (To.t (To.s ?_))
 refine To.cp rfl (fun c30 => ?_) (fun c30 => ?_)
 obtain ⟨x, hx⟩ : ∃ z0, l[i]? = some z0 := ⟨l[i]'(by omega), gge _⟩
 refine To.sp (To.t (To.s (To.b (To.s (To.g (To.m ?_))))))
 refine To.r (Rd.ixo encIn (i := 2) (j := i) rfl rfl rfl s40 rfl hx) ?_
 refine To.r (Rd.lS (i := 2) rfl rfl r109 rfl (rsg encIn hx) (encIn.len _)) ?_
 refine To.alloc rfl rfl rfl rfl z109 (fun b8 => ?_)
 refine To.a ?_
 refine To.u (Up.storeS (i := 0) rfl rfl rfl r109 rfl rfl rfl (bta rfl)) ?_
 refine To.n (To.t (To.s ?_))
 obtain ⟨y, hy⟩ : ∃ z0, h[i]? = some z0 := ⟨h[i]'(by omega), gge _⟩
 have hyb := hB y (mog hy)
 have hix : i < h.length := by omega
 refine To.flow [] [⟨1, [], 0⟩, ⟨3, [], 0⟩, ⟨0, [], 1⟩, ⟨2, [], 1⟩, ⟨4, [], 1⟩, ⟨5, [], 1⟩, ⟨6, [], 0⟩, ⟨7, [], 1⟩, ⟨8, [], 5⟩] mixed (by kernel_rfl) (ocn _) ?_
 refine W.mo ?_
 refine W.mo ?_
 refine W.lo 1 c203 ?_
 refine W.lo 1 c203 ?_
 refine W.r rfl (Rd.ixr (i := 2) (j := i) rfl rfl rfl s203 rfl hy) ?_
 refine W.r rfl (Rd.ld (i := 2) rfl rfl c3 rfl (gives_1 (rwg encI_ok hy) rfl)) ?_
 refine W.f rfl (Rd.max rfl rfl rfl) ?_
 refine W.r rfl (Rd.ixr (i := 2) (j := i) rfl rfl rfl s203 rfl hy) ?_
 refine W.up rfl rfl rfl (Up.store (i := 2) rfl rfl rfl c3 rfl rfl (rows_takes encI_ok (y := (max y 0)) (by decide) (by omega))) (ocn _) ?_
 refine W.fin ?_
 refine To.t (To.s ?_)
 refine To.as [box b8 [.int .u8 ((x.op : Nat) : Int), .int .i64 x.a, .int .i64 x.b, .int .i64 x.n] 109, box b4 [.slice Ah h.length qh] 203, rows encI 3 1 Ah qh (h.set i (max y 0)), ros Ins.cells A l, tabC] rfl ?_
 obtain ⟨m, hm⟩ : ∃ z0, z0 = (max y 0) := ⟨_, rfl⟩
 rw [← hm]
 refine To.as [box b8 [.int .u8 ((x.op : Nat) : Int), .int .i64 x.a, .int .i64 x.b, .int .i64 x.n] 109, box b4 [.slice Ah h.length qh] 203, rows encI 3 1 Ah qh (h.set i m), ros Ins.cells A l, tabC] rfl ?_
 obtain ⟨h1, hh1⟩ : ∃ z0, z0 = (h.set i m) := ⟨_, rfl⟩
 rw [← hh1]
 have hlh1 : h1.length = h.length := by rw [hh1]; rw [List.length_set]
 rw [← hlh1]
 have hy1 : h1[i]? = some m := by rw [hh1, List.getElem?_set_self hix]
 have hmb : 0 ≤ m ∧ m ≤ i := by omega
 have hB1 : ∀ y0 ∈ h1, (-1 : Int) ≤ y0 ∧ y0 ≤ ((i : Nat) : Int) := by rw [hh1]; exact all_set hB (by omega)
 have hxf := form_facts (hform x (mog hx))
 have hpb := pops_bound x.op
 have hxn := hxf.1
 refine To.g ?_
 refine To.f fl109_0 ?_
 refine To.lo 0 c107 ?_
 refine To.cV rfl rfl rfl (Ent.fn rfl rfl ca49) ((row_fn x.op).mono (R' := fun v _ => v = .agg (Rw.cells (rowOf x.op)).toArray) (fun _ _ h => h.1)) rfl (ocs (oca 4 rfl) (ocn _)) ?_
 refine To.alloc rfl rfl rfl rfl z180 (fun b9 => ?_)
 refine To.u (Up.storeS (i := 0) rfl rfl rfl r180 rfl rfl rfl (bta rfl)) ?_
 refine To.n (To.t (To.s (To.s (To.g ?_))))
 refine To.meet (T := Bool) (fun t => ([(0, .slice A l.length q), (2, .int .i64 top), (4, pv b4), (6, .func (.func 135) #[] #[pv b4]), (27, .slice A l.length q), (28, nv l.length), (29, nv i), (8, pv b8), (7, nv i), (9, pv b9), (52, .bool t)], [box b9 [.string (rowOf x.op).text, .string (rowOf x.op).uses, .int .i64 ((rowOf x.op).pops), .int .i64 ((rowOf x.op).pushes)] 180, box b8 [.int .u8 ((x.op : Nat) : Int), .int .i64 x.a, .int .i64 x.b, .int .i64 x.n] 109, box b4 [.slice Ah h1.length qh] 203, rows encI 3 1 Ah qh h1, ros Ins.cells A l, tabC])) (fun t => t = ((decide (((x.op : Nat) : Int) = 30)) || decide (((x.op : Nat) : Int) = 31))) ?_ (fun t ht => ?_)
 refine To.f fl109_0 ?_
 refine To.lo 1 c107 ?_
 refine To.eq ?_
 refine To.rdP rfl rfl rfl (Rd.move rfl rfl) (fun g48 => ?_) (fun g48 => ?_)
 refine To.k ?_
 refine To.k ?_
 refine To.k ?_
 refine To.pT ?_
 refine To.n (To.t ?_)
 refine To.only [0, 0, 0, 0, 0, 0] rfl ?_
 refine To.he true (by simp [g48]) ⟨rfl, rfl, rfl, rfl, rfl, rfl, rfl, rfl, rfl, rfl, rfl, trivial⟩ rfl
 refine To.f fl109_0 ?_
 refine To.lo 1 c107 ?_
 refine To.eq ?_
 refine To.pF ?_
 refine To.n (To.t ?_)
 refine To.only [0, 0, 0, 0, 0, 0] rfl ?_
 refine To.he (decide (((x.op : Nat) : Int) = 31)) (by simp [g48]) ⟨rfl, rfl, rfl, rfl, rfl, rfl, rfl, rfl, rfl, rfl, rfl, trivial⟩ rfl
 subst ht
 show To _ [(0, .slice A l.length q), (2, .int .i64 top), (4, pv b4), (6, .func (.func 135) #[] #[pv b4]), (27, .slice A l.length q), (28, nv l.length), (29, nv i), (8, pv b8), (7, nv i), (9, pv b9), (52, .bool ((decide (((x.op : Nat) : Int) = 30)) || decide (((x.op : Nat) : Int) = 31)))] [box b9 [.string (rowOf x.op).text, .string (rowOf x.op).uses, .int .i64 ((rowOf x.op).pops), .int .i64 ((rowOf x.op).pushes)] 180, box b8 [.int .u8 ((x.op : Nat) : Int), .int .i64 x.a, .int .i64 x.b, .int .i64 x.n] 109, box b4 [.slice Ah h1.length qh] 203, rows encI 3 1 Ah qh h1, ros Ins.cells A l, tabC] _
 refine To.meetC (T := (Int)) (fun t => ([(0, .slice A l.length q), (2, .int .i64 top), (4, pv b4), (6, .func (.func 135) #[] #[pv b4]), (7, nv i), (8, pv b8), (9, pv b9), (27, .slice A l.length q), (28, nv l.length), (29, nv i)], [box b9 [.string (rowOf x.op).text, .string (rowOf x.op).uses, .int .i64 (t), .int .i64 ((rowOf x.op).pushes)] 180, box b8 [.int .u8 ((x.op : Nat) : Int), .int .i64 x.a, .int .i64 x.b, .int .i64 x.n] 109, box b4 [.slice Ah h1.length qh] 203, rows encI 3 1 Ah qh h1, ros Ins.cells A l, tabC])) (fun t => ((t) = popsN x)) ?_ ?_
 refine To.cond rfl (fun c52 => ?_) (fun c52 => ?_)
 simp only [Bool.or_eq_true, decide_eq_true_eq] at c52
 have hxn2 := hxn c52
 refine To.g ?_
 refine To.f fl180_2 ?_
 refine To.lo 0 c3 ?_
 refine To.f fl109_3 ?_
 refine To.lo 1 c2 ?_
 refine To.r (Rd.add64 rfl rfl rfl (by omega)) ?_
 refine To.f fl180_2 ?_
 refine To.u (Up.store (i := 0) rfl rfl rfl c3 rfl rfl (bt1 rfl)) ?_
 refine To.n (To.t ?_)
 refine To.only [0, 0, 0, 0, 0, 0] rfl ?_
 refine To.he (((rowOf x.op).pops) + x.n) (by unfold popsN; rw [if_pos c52]) ⟨rfl, rfl, rfl, rfl, rfl, rfl, rfl, rfl, rfl, rfl, trivial⟩ rfl
 simp only [Bool.or_eq_false_iff, decide_eq_false_iff_not] at c52
 refine To.sp (To.t ?_)
 refine To.only [0, 0, 0, 0, 0, 0] rfl ?_
 refine To.he ((rowOf x.op).pops) (by unfold popsN; rw [if_neg (by omega)]) ⟨rfl, rfl, rfl, rfl, rfl, rfl, rfl, rfl, rfl, rfl, trivial⟩ rfl
 rintro pn hpn
 replace hpn : pn = popsN x := hpn
 show To _ [(0, .slice A l.length q), (2, .int .i64 top), (4, pv b4), (6, .func (.func 135) #[] #[pv b4]), (7, nv i), (8, pv b8), (9, pv b9), (27, .slice A l.length q), (28, nv l.length), (29, nv i)] [box b9 [.string (rowOf x.op).text, .string (rowOf x.op).uses, .int .i64 pn, .int .i64 ((rowOf x.op).pushes)] 180, box b8 [.int .u8 ((x.op : Nat) : Int), .int .i64 x.a, .int .i64 x.b, .int .i64 x.n] 109, box b4 [.slice Ah h1.length qh] 203, rows encI 3 1 Ah qh h1, ros Ins.cells A l, tabC] _
 subst hpn
 have hpb2 : 0 ≤ popsN x ∧ popsN x ≤ 6 := by unfold popsN; split <;> omega
 refine To.s (To.s ?_)
 refine To.meetC (T := (Bool)) (fun t => ([(0, .slice A l.length q), (2, .int .i64 top), (4, pv b4), (6, .func (.func 135) #[] #[pv b4]), (7, nv i), (8, pv b8), (9, pv b9), (27, .slice A l.length q), (28, nv l.length), (29, nv i), (77, .bool (t))], [box b9 [.string (rowOf x.op).text, .string (rowOf x.op).uses, .int .i64 (popsN x), .int .i64 ((rowOf x.op).pushes)] 180, box b8 [.int .u8 ((x.op : Nat) : Int), .int .i64 x.a, .int .i64 x.b, .int .i64 x.n] 109, box b4 [.slice Ah h1.length qh] 203, rows encI 3 1 Ah qh h1, ros Ins.cells A l, tabC])) (fun t => ((t) = ((decide (m < (popsN x))) || ((decide (((x.op : Nat) : Int) = 34)) && decide (m ≠ 0))))) ?_ ?_
 refine To.flow [] [⟨1, [], 0⟩, ⟨4, [], 0⟩, ⟨0, [], 1⟩, ⟨2, [], 1⟩, ⟨3, [], 1⟩, ⟨5, [], 1⟩, ⟨6, [], 0⟩, ⟨7, [], 0⟩, ⟨8, [], 0⟩, ⟨9, [], 1⟩, ⟨10, [], 0⟩, ⟨11, [], 0⟩, ⟨13, [], 0⟩, ⟨12, [], 1⟩, ⟨14, [], 1⟩, ⟨15, [], 1⟩, ⟨16, [], 0⟩, ⟨17, [], 0⟩, ⟨18, [], 0⟩] mixed (by kernel_rfl) (ocn _) ?_
 refine W.mo ?_
 refine W.fi fl180_2 ?_
 refine W.lo 2 c203 ?_
 refine W.r rfl (Rd.ixr (i := 3) (j := i) rfl rfl rfl s203 rfl hy1) ?_
 refine W.r rfl (Rd.ld (i := 3) rfl rfl c3 rfl (gives_1 (rwg encI_ok hy1) rfl)) ?_
 refine W.lo 0 c3 ?_
 refine W.f rfl (Rd.lss rfl rfl rfl) ?_
 refine W.rdP rfl rfl rfl rfl (Rd.move rfl rfl) (fun g66 => ?_) (fun g66 => ?_)
 refine W.skip (by decide) rfl rfl rfl rfl ?_
 refine W.skip (by decide) rfl rfl rfl rfl ?_
 refine W.skip (by decide) rfl rfl rfl rfl ?_
 refine W.skip (by decide) rfl rfl rfl rfl ?_
 refine W.skip (by decide) rfl rfl rfl rfl ?_
 refine W.skip (by decide) rfl rfl rfl rfl ?_
 refine W.skip (by decide) rfl rfl rfl rfl ?_
 refine W.skip (by decide) rfl rfl rfl rfl ?_
 refine W.skip (by decide) rfl rfl rfl rfl ?_
 refine W.skip (by decide) rfl rfl rfl rfl ?_
 refine W.f rfl (Rd.pickT rfl rfl rfl) ?_
 refine W.fin ?_
 refine To.t ?_
 refine To.only [0, 0, 0, 0, 0, 0] rfl ?_
 refine To.he (true) (by simp [g66]) ⟨rfl, rfl, rfl, rfl, rfl, rfl, rfl, rfl, rfl, rfl, rfl, trivial⟩ rfl
 refine W.fi fl109_0 ?_
 refine W.lo 1 c107 ?_
 refine W.f rfl (Rd.eql rfl rfl rfl) ?_
 refine W.rdP rfl rfl rfl rfl (Rd.move rfl rfl) (fun g70 => ?_) (fun g70 => ?_)
 refine W.mo ?_
 refine W.lo 2 c203 ?_
 refine W.r rfl (Rd.ixr (i := 3) (j := i) rfl rfl rfl s203 rfl hy1) ?_
 refine W.r rfl (Rd.ld (i := 3) rfl rfl c3 rfl (gives_1 (rwg encI_ok hy1) rfl)) ?_
 refine W.f rfl (Rd.neq rfl rfl rfl) ?_
 refine W.f rfl (Rd.pickT rfl rfl rfl) ?_
 refine W.f rfl (Rd.pickF rfl rfl rfl) ?_
 refine W.fin ?_
 refine To.t ?_
 refine To.only [0, 0, 0, 0, 0, 0] rfl ?_
 refine To.he ((decide (m ≠ 0))) (by simp [g66, g70]) ⟨rfl, rfl, rfl, rfl, rfl, rfl, rfl, rfl, rfl, rfl, rfl, trivial⟩ rfl
 refine W.skip (by decide) rfl rfl rfl rfl ?_
 refine W.skip (by decide) rfl rfl rfl rfl ?_
 refine W.skip (by decide) rfl rfl rfl rfl ?_
 refine W.skip (by decide) rfl rfl rfl rfl ?_
 refine W.skip (by decide) rfl rfl rfl rfl ?_
 refine W.f rfl (Rd.pickF rfl rfl rfl) ?_
 refine W.f rfl (Rd.pickF rfl rfl rfl) ?_
 refine W.fin ?_
 refine To.t ?_
 refine To.only [0, 0, 0, 0, 0, 0] rfl ?_
 refine To.he (false) (by simp [g66, g70]) ⟨rfl, rfl, rfl, rfl, rfl, rfl, rfl, rfl, rfl, rfl, rfl, trivial⟩ rfl
 rintro tb htb
 replace htb : tb = ((decide (m < (popsN x))) || ((decide (((x.op : Nat) : Int) = 34)) && decide (m ≠ 0))) := htb
 show To _ [(0, .slice A l.length q), (2, .int .i64 top), (4, pv b4), (6, .func (.func 135) #[] #[pv b4]), (7, nv i), (8, pv b8), (9, pv b9), (27, .slice A l.length q), (28, nv l.length), (29, nv i), (77, .bool tb)] [box b9 [.string (rowOf x.op).text, .string (rowOf x.op).uses, .int .i64 (popsN x), .int .i64 ((rowOf x.op).pushes)] 180, box b8 [.int .u8 ((x.op : Nat) : Int), .int .i64 x.a, .int .i64 x.b, .int .i64 x.n] 109, box b4 [.slice Ah h1.length qh] 203, rows encI 3 1 Ah qh h1, ros Ins.cells A l, tabC] _
 subst htb
 refine To.cond rfl (fun c77 => ?_) (fun c77 => ?_)
 refine To.s (To.g (To.a ?_))
 refine To.a (To.n (To.t (To.rt (To.tr (To.br (To.tr (To.tr (To.br (To.tr ?_)))))))))
 refine To.end2 (.inl rfl) Tryz.results73 rfl rfl ?_
 have hm2 : max (h.getD i 0) 0 = m := by rw [getD_of hy, hm]
 simp only [Bool.or_eq_true, Bool.and_eq_true, decide_eq_true_eq] at c77
 rw [heights_none (by rw [hI, goH_step hx, show stepH h top i x = none from (by unfold stepH; simp only [hm2]; rw [if_pos (by omega)])]; rfl)]
 simp only [Bool.or_eq_false_iff, Bool.and_eq_false_iff, decide_eq_false_iff_not] at c77
 have hnf : ¬ (m < popsN x ∨ (((x.op : Nat) : Int) = 34 ∧ m ≠ 0)) := by omega
 refine To.sp (To.t (To.s ?_))
 refine To.flow [] [⟨1, [], 0⟩, ⟨4, [], 0⟩, ⟨7, [], 0⟩, ⟨0, [], 1⟩, ⟨2, [], 1⟩, ⟨3, [], 1⟩, ⟨5, [], 1⟩, ⟨6, [], 0⟩, ⟨8, [], 1⟩, ⟨9, [], 0⟩, ⟨10, [], 0⟩] mixed (by kernel_rfl) (ocn _) ?_
 refine W.mo ?_
 refine W.fi fl180_2 ?_
 refine W.fi fl180_3 ?_
 refine W.lo 2 c203 ?_
 refine W.r rfl (Rd.ixr (i := 3) (j := i) rfl rfl rfl s203 rfl hy1) ?_
 refine W.r rfl (Rd.ld (i := 3) rfl rfl c3 rfl (gives_1 (rwg encI_ok hy1) rfl)) ?_
 refine W.lo 0 c3 ?_
 refine W.f rfl (Rd.sub64 rfl rfl rfl (by omega)) ?_
 refine W.lo 0 c3 ?_
 refine W.f rfl (Rd.add64 rfl rfl rfl (by omega)) ?_
 refine W.f rfl (Rd.assign rfl rfl) ?_
 refine W.fin ?_
 refine To.t (To.s ?_)
 refine To.as [box b9 [.string (rowOf x.op).text, .string (rowOf x.op).uses, .int .i64 (popsN x), .int .i64 ((rowOf x.op).pushes)] 180, box b8 [.int .u8 ((x.op : Nat) : Int), .int .i64 x.a, .int .i64 x.b, .int .i64 x.n] 109, box b4 [.slice Ah h1.length qh] 203, rows encI 3 1 Ah qh h1, ros Ins.cells A l, tabC] rfl ?_
 obtain ⟨v, hv⟩ : ∃ z0, z0 = ((m - (popsN x)) + ((rowOf x.op).pushes)) := ⟨_, rfl⟩
 rw [← hv]
 have hv2 : v = aftH m x := by rw [hv, aftH]
 have hvb : 0 ≤ v ∧ v ≤ i + 1 := by omega
 refine To.g (To.m ?_)
 refine To.lo 2 c203 ?_
 refine To.m ?_
 refine To.r (Rd.ixr (i := 3) (j := i) rfl rfl rfl s203 rfl hy1) ?_
 refine To.r (Rd.ld (i := 3) rfl rfl c3 rfl (gives_1 (rwg encI_ok hy1) rfl)) ?_
 refine To.m ?_
 refine To.r (Rd.max3 rfl rfl rfl rfl) ?_
 refine To.a (To.n (To.t (To.s (To.s ?_))))
 obtain ⟨y2, hy2⟩ : ∃ z0, h1[i + 1]? = some z0 := ⟨h1[i + 1]'(by omega), gge _⟩
 refine To.as [box b9 [.string (rowOf x.op).text, .string (rowOf x.op).uses, .int .i64 (popsN x), .int .i64 ((rowOf x.op).pushes)] 180, box b8 [.int .u8 ((x.op : Nat) : Int), .int .i64 x.a, .int .i64 x.b, .int .i64 x.n] 109, box b4 [.slice Ah h1.length qh] 203, rows encI 3 1 Ah qh h1, ros Ins.cells A l, tabC] rfl ?_
 obtain ⟨top', htop'⟩ : ∃ z0, z0 = (max (max top m) v) := ⟨_, rfl⟩
 rw [← htop']
 refine To.meetC (T := (List Int) × (Bool)) (fun t => ([(0, .slice A l.length q), (2, .int .i64 top'), (4, pv b4), (6, .func (.func 135) #[] #[pv b4]), (7, nv i), (8, pv b8), (9, pv b9), (10, .int .i64 v), (27, .slice A l.length q), (28, nv l.length), (29, nv i), (110, .bool (t.2))], [box b9 [.string (rowOf x.op).text, .string (rowOf x.op).uses, .int .i64 (popsN x), .int .i64 ((rowOf x.op).pushes)] 180, box b8 [.int .u8 ((x.op : Nat) : Int), .int .i64 x.a, .int .i64 x.b, .int .i64 x.n] 109, box b4 [.slice Ah (t.1).length qh] 203, rows encI 3 1 Ah qh (t.1), ros Ins.cells A l, tabC])) (fun t => (nextH h1 i x v = if (t.2) = true then none else some (t.1)) ∧ ((t.1).length = l.length + 1) ∧ (∀ y0 ∈ (t.1), (-1 : Int) ≤ y0 ∧ y0 ≤ ((i + 1 : Nat) : Int))) ?_ ?_
 refine To.g ?_
 refine To.f fl109_0 ?_
 refine To.lo 1 c107 ?_
 refine To.ne ?_
 refine To.rdP rfl rfl rfl (Rd.move rfl rfl) (fun g98 => ?_) (fun g98 => ?_)
 refine To.f fl109_0 ?_
 refine To.lo 1 c107 ?_
 refine To.ne ?_
 refine To.pT ?_
 refine To.rdP rfl rfl rfl (Rd.move rfl rfl) (fun g103 => ?_) (fun g103 => ?_)
 refine To.m ?_
 refine To.m ?_
 refine To.r (Rd.inc rfl rfl rfl (by omega)) ?_
 refine To.m ?_
 refine To.cl [2, 2] rfl rfl rfl (Ent.func (first := []) (captured := [pv b4]) rfl rfl rfl ca135) rfl (set_fn b4 Ah qh h1 (i + 1) v y2 hy2) ?_
 rintro _ _ ⟨rfl, rfl⟩
 refine To.nt ?_
 refine To.pT ?_
 refine To.n (To.t ?_)
 refine To.only [2, 2, 0, 0, 0, 0] rfl ?_
 refine To.as [box b9 [.string (rowOf x.op).text, .string (rowOf x.op).uses, .int .i64 (popsN x), .int .i64 ((rowOf x.op).pushes)] 180, box b8 [.int .u8 ((x.op : Nat) : Int), .int .i64 x.a, .int .i64 x.b, .int .i64 x.n] 109, box b4 [.slice Ah ((h1.set (i + 1) v).length) qh] 203, rows encI 3 1 Ah qh (h1.set (i + 1) v), ros Ins.cells A l, tabC] (by rw [List.length_set] <;> rfl) ?_
 refine To.he ((h1.set (i + 1) v), (!(decide (okH y2 v)))) ⟨(by rw [nextH, if_pos (by omega), getD_of hy2]; by_cases hk : okH y2 v <;> simp [hk]), (by rw [List.length_set]; omega), (all_set (fun y0 h0 => by have := hB1 y0 h0; omega) (by omega))⟩ ⟨rfl, rfl, rfl, rfl, rfl, rfl, rfl, rfl, rfl, rfl, rfl, rfl, trivial⟩ rfl
 refine To.k ?_
 refine To.k ?_
 refine To.k ?_
 refine To.k ?_
 refine To.k ?_
 refine To.k ?_
 refine To.pF ?_
 refine To.n (To.t ?_)
 refine To.only [0, 0, 0, 0, 0, 0] rfl ?_
 refine To.he (h1, false) ⟨(by rw [nextH, if_neg (by omega)]; rfl), (show h1.length = l.length + 1 by omega), (fun y0 h0 => by have := hB1 y0 h0; omega)⟩ ⟨rfl, rfl, rfl, rfl, rfl, rfl, rfl, rfl, rfl, rfl, rfl, rfl, trivial⟩ rfl
 refine To.k ?_
 refine To.k ?_
 refine To.k ?_
 refine To.pF ?_
 refine To.m ?_
 refine To.k ?_
 refine To.k ?_
 refine To.k ?_
 refine To.k ?_
 refine To.k ?_
 refine To.k ?_
 refine To.pF ?_
 refine To.n (To.t ?_)
 refine To.only [0, 0, 0, 0, 0, 0] rfl ?_
 refine To.he (h1, false) ⟨(by rw [nextH, if_neg (by omega)]; rfl), (show h1.length = l.length + 1 by omega), (fun y0 h0 => by have := hB1 y0 h0; omega)⟩ ⟨rfl, rfl, rfl, rfl, rfl, rfl, rfl, rfl, rfl, rfl, rfl, rfl, trivial⟩ rfl
 rintro ⟨h2, tb⟩ ⟨hN, hl2, hB2⟩
 replace hN : nextH h1 i x v = if tb = true then none else some h2 := hN
 replace hl2 : h2.length = l.length + 1 := hl2
 replace hB2 : ∀ y0 ∈ h2, (-1 : Int) ≤ y0 ∧ y0 ≤ ((i + 1 : Nat) : Int) := hB2
 show To _ [(0, .slice A l.length q), (2, .int .i64 top'), (4, pv b4), (6, .func (.func 135) #[] #[pv b4]), (7, nv i), (8, pv b8), (9, pv b9), (10, .int .i64 v), (27, .slice A l.length q), (28, nv l.length), (29, nv i), (110, .bool tb)] [box b9 [.string (rowOf x.op).text, .string (rowOf x.op).uses, .int .i64 (popsN x), .int .i64 ((rowOf x.op).pushes)] 180, box b8 [.int .u8 ((x.op : Nat) : Int), .int .i64 x.a, .int .i64 x.b, .int .i64 x.n] 109, box b4 [.slice Ah h2.length qh] 203, rows encI 3 1 Ah qh h2, ros Ins.cells A l, tabC] _
 refine To.cond rfl (fun c110 => ?_) (fun c110 => ?_)
 refine To.s (To.g (To.a ?_))
 refine To.a (To.n (To.t (To.rt (To.tr (To.br (To.tr (To.tr (To.br (To.tr ?_)))))))))
 refine To.end2 (.inl rfl) Tryz.results73 rfl rfl ?_
 have hm2 : max (h.getD i 0) 0 = m := by rw [getD_of hy, hm]
 rw [heights_none (by rw [hI, goH_step hx, show stepH h top i x = none from (by unfold stepH; simp only [hm2, ← hh1, ← hv2]; rw [if_neg hnf, hN, if_pos c110]; rfl)]; rfl)]
 refine To.sp (To.t (To.s (To.g ?_)))
 refine To.r (Rd.lS (i := 1) rfl rfl r109 rfl box_whole rfl) ?_
 refine To.cV rfl rfl rfl (Ent.fn rfl rfl ca134) (tgt_fn x) rfl (ocn _) ?_
 refine To.m ?_
 refine To.r (Rd.extract rfl rfl rfl) ?_
 refine To.r (Rd.extract rfl rfl rfl) ?_
 refine To.a ?_
 refine To.a (To.n (To.t (To.s ?_)))
 refine To.as [box b9 [.string (rowOf x.op).text, .string (rowOf x.op).uses, .int .i64 (popsN x), .int .i64 ((rowOf x.op).pushes)] 180, box b8 [.int .u8 ((x.op : Nat) : Int), .int .i64 x.a, .int .i64 x.b, .int .i64 x.n] 109, box b4 [.slice Ah h2.length qh] 203, rows encI 3 1 Ah qh h2, ros Ins.cells A l, tabC] rfl ?_
 obtain ⟨tn, htn⟩ : ∃ tn : Nat, (tgt x).getD 0 = ((tn : Nat) : Int) := ⟨((tgt x).getD 0).toNat, by omega⟩
 rw [htn]
 obtain ⟨y3, hy3⟩ : ∃ z0, h2[tn]? = some z0 := ⟨h2[tn]'(by omega), gge _⟩
 have htn2 : ((tgt x).getD 0).toNat = tn := by omega
 refine To.meetC (T := (List Int) × (Bool)) (fun t => ([(0, .slice A l.length q), (2, .int .i64 top'), (4, pv b4), (6, .func (.func 135) #[] #[pv b4]), (7, nv i), (8, pv b8), (9, pv b9), (10, .int .i64 v), (27, .slice A l.length q), (28, nv l.length), (29, nv i), (123, .bool (t.2))], [box b9 [.string (rowOf x.op).text, .string (rowOf x.op).uses, .int .i64 (popsN x), .int .i64 ((rowOf x.op).pushes)] 180, box b8 [.int .u8 ((x.op : Nat) : Int), .int .i64 x.a, .int .i64 x.b, .int .i64 x.n] 109, box b4 [.slice Ah (t.1).length qh] 203, rows encI 3 1 Ah qh (t.1), ros Ins.cells A l, tabC])) (fun t => (jumpH h2 x v = if (t.2) = true then none else some (t.1)) ∧ ((t.1).length = l.length + 1) ∧ (∀ y0 ∈ (t.1), (-1 : Int) ≤ y0 ∧ y0 ≤ ((i + 1 : Nat) : Int))) ?_ ?_
 refine To.g (To.m ?_)
 refine To.rdB rfl rfl rfl (Rd.move rfl rfl) (fun g117 => ?_) (fun g117 => ?_)
 refine To.m ?_
 refine To.m ?_
 refine To.m ?_
 refine To.cl [2, 2] rfl rfl rfl (Ent.func (first := []) (captured := [pv b4]) rfl rfl rfl ca135) rfl (set_fn b4 Ah qh h2 tn v y3 hy3) ?_
 rintro _ _ ⟨rfl, rfl⟩
 refine To.nt ?_
 refine To.pT ?_
 refine To.n (To.t ?_)
 refine To.only [2, 2, 0, 0, 0, 0] rfl ?_
 refine To.as [box b9 [.string (rowOf x.op).text, .string (rowOf x.op).uses, .int .i64 (popsN x), .int .i64 ((rowOf x.op).pushes)] 180, box b8 [.int .u8 ((x.op : Nat) : Int), .int .i64 x.a, .int .i64 x.b, .int .i64 x.n] 109, box b4 [.slice Ah ((h2.set tn v).length) qh] 203, rows encI 3 1 Ah qh (h2.set tn v), ros Ins.cells A l, tabC] (by rw [List.length_set] <;> rfl) ?_
 refine To.he ((h2.set tn v), (!(decide (okH y3 v)))) ⟨(by rw [jumpH, if_pos g117, htn2, getD_of hy3]; by_cases hk : okH y3 v <;> simp [hk]), (by rw [List.length_set]; omega), (all_set hB2 (by omega))⟩ ⟨rfl, rfl, rfl, rfl, rfl, rfl, rfl, rfl, rfl, rfl, rfl, rfl, trivial⟩ rfl
 refine To.k ?_
 refine To.k ?_
 refine To.k ?_
 refine To.k ?_
 refine To.k ?_
 refine To.pF ?_
 refine To.n (To.t ?_)
 refine To.only [0, 0, 0, 0, 0, 0] rfl ?_
 refine To.he (h2, false) ⟨(by rw [jumpH, if_neg (by simp [g117])]; rfl), (by omega), hB2⟩ ⟨rfl, rfl, rfl, rfl, rfl, rfl, rfl, rfl, rfl, rfl, rfl, rfl, trivial⟩ rfl
 rintro ⟨h3, tb2⟩ ⟨hJ, hl3, hB3⟩
 replace hJ : jumpH h2 x v = if tb2 = true then none else some h3 := hJ
 replace hl3 : h3.length = l.length + 1 := hl3
 replace hB3 : ∀ y0 ∈ h3, (-1 : Int) ≤ y0 ∧ y0 ≤ ((i + 1 : Nat) : Int) := hB3
 show To _ [(0, .slice A l.length q), (2, .int .i64 top'), (4, pv b4), (6, .func (.func 135) #[] #[pv b4]), (7, nv i), (8, pv b8), (9, pv b9), (10, .int .i64 v), (27, .slice A l.length q), (28, nv l.length), (29, nv i), (123, .bool tb2)] [box b9 [.string (rowOf x.op).text, .string (rowOf x.op).uses, .int .i64 (popsN x), .int .i64 ((rowOf x.op).pushes)] 180, box b8 [.int .u8 ((x.op : Nat) : Int), .int .i64 x.a, .int .i64 x.b, .int .i64 x.n] 109, box b4 [.slice Ah h3.length qh] 203, rows encI 3 1 Ah qh h3, ros Ins.cells A l, tabC] _
 refine To.cond rfl (fun c123 => ?_) (fun c123 => ?_)
 refine To.s (To.g (To.a ?_))
 refine To.a (To.n (To.t (To.rt (To.br (To.tr (To.tr (To.br (To.tr ?_))))))))
 refine To.end2 (.inl rfl) Tryz.results73 rfl rfl ?_
 have hm2 : max (h.getD i 0) 0 = m := by rw [getD_of hy, hm]
 rw [heights_none (by rw [hI, goH_step hx, show stepH h top i x = none from (by unfold stepH; simp only [hm2, ← hh1, ← hv2]; rw [if_neg hnf, hN, if_neg (by simp [c110])]; simp [hJ, c123])]; rfl)]
 refine To.sp (To.bn (To.t (To.g ?_)))
 refine To.r (Rd.inc rfl rfl rfl (by omega)) ?_
 refine To.m (To.n (To.t ?_))
 have hm2 : max (h.getD i 0) 0 = m := by rw [getD_of hy, hm]
 have hS : stepH h top i x = some (h3, top') := by
  unfold stepH; simp only [hm2, ← hh1, ← hv2]; rw [if_neg hnf, hN, if_neg (by simp [c110])]; show ((jumpH h2 x v).map fun h3 => (h3, max (max top m) v)) = _; rw [hJ, if_neg (by simp [c123]), htop']; rfl
 refine To.sub [(0, .slice A l.length q), (2, .int .i64 top'), (4, pv b4), (6, .func (.func 135) #[] #[pv b4]), (27, .slice A l.length q), (28, nv l.length), (29, nv ((i + 1)))] ⟨rfl, rfl, rfl, rfl, rfl, rfl, rfl, trivial⟩ ?_
 refine To.only [2, 2, 2, 2] rfl ?_
 refine To.ag (l.length - (i + 1)) (by omega) ⟨h3, top', i + 1, rfl, rfl, rfl, (by omega), hl3, hB3, (by rw [hI, goH_step hx, hS]; rfl), (by omega)⟩
 refine To.ex (To.tx (To.tx (To.bx (To.t (To.s ?_)))))
 obtain ⟨y4, hy4⟩ : ∃ z0, h[l.length]? = some z0 := ⟨h[l.length]'(by omega), gge _⟩
 refine To.flow [] [⟨0, [], 0⟩, ⟨2, [], 0⟩, ⟨3, [], 0⟩, ⟨7, [], 0⟩, ⟨1, [], 1⟩, ⟨4, [], 1⟩, ⟨5, [], 1⟩, ⟨6, [], 0⟩, ⟨8, [], 0⟩] mixed (by kernel_rfl) (ocn _) ?_
 refine W.mo ?_
 refine W.mo ?_
 refine W.f rfl (Rd.len rfl rfl Tryz.underlying40) ?_
 refine W.f rfl (Rd.assign rfl rfl) ?_
 refine W.lo 0 c203 ?_
 refine W.r rfl (Rd.ixr (i := 1) (j := l.length) rfl rfl rfl s203 rfl hy4) ?_
 refine W.r rfl (Rd.ld (i := 1) rfl rfl c3 rfl (gives_1 (rwg encI_ok hy4) rfl)) ?_
 refine W.f rfl (Rd.leq rfl rfl rfl) ?_
 refine W.f rfl (Rd.assign rfl rfl) ?_
 refine W.fin ?_
 refine To.t (To.rt ?_)
 refine To.end2 (.inl rfl) Tryz.results73 rfl rfl ?_
 rw [show heightsV l = (top, decide (y4 ≤ 0)) from (by unfold heightsV; rw [hI, List.drop_eq_nil_of_le (by omega)]; simp only [goH]; rw [getD_of hy4])]
end Go.Proofs.YtllalpnmagpkfaaGreatDoor
