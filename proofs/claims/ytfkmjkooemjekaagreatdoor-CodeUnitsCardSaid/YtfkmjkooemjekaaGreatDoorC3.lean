/- The heights of the stack, and the unit verified. Own text (walks printed by sx.py). -/
import Derived.Test.YtfkmjkooemjekaaGreatDoorL1
import Derived.Test.YtfkmjkooemjekaaGreatDoorC2
set_option linter.unusedVariables false
set_option linter.unusedSimpArgs false
namespace Go.Proofs.YtfkmjkooemjekaaGreatDoor
open Go.RowKit Go.Flow Go.Mem Go.Sep
theorem form_facts {pr : Int} {nc : Nat} {x : Ins} (h : formedB pr nc x = true) : (((x.op : Nat) : Int) = 30 ∨ ((x.op : Nat) : Int) = 31 → 0 ≤ x.n ∧ x.n ≤ 4) ∧ 0 ≤ (tgt x).getD 0 ∧ (tgt x).getD 0 ≤ nc := by
  unfold formedB at h
  simp only [Bool.and_eq_true, decide_eq_true_eq, Bool.not_eq_true', Bool.and_eq_false_iff, Bool.or_eq_false_iff, decide_eq_false_iff_not] at h
  obtain ⟨⟨_, ht⟩, hr⟩ := h
  constructor
  · intro hop
    rw [if_neg (by omega), if_neg (by omega)] at hr
    by_cases hb : x.b < 0 ∨ 63 < x.b ∨ x.n < 0 ∨ 4 < x.n
    · rw [if_pos ⟨hop, hb⟩] at hr; cases hr
    · omega
  · rcases ht with ht | ht
    · have : tgt x = none := by simpa using ht
      rw [this]; exact ⟨Int.le_refl _, Int.natCast_nonneg _⟩
    · omega
def popsN (x : Ins) : Int := if ((x.op : Nat) : Int) = 30 ∨ ((x.op : Nat) : Int) = 31 then (rowOf x.op).pops + x.n else (rowOf x.op).pops
def okH (y v : Int) : Prop := y < 0 ∨ y = v
instance (y v : Int) : Decidable (okH y v) := inferInstanceAs (Decidable (_ ∨ _))
def aftH (m : Int) (x : Ins) : Int := m - popsN x + (rowOf x.op).pushes
def nextH (h : List Int) (i : Nat) (x : Ins) (v : Int) : Option (List Int) :=
  if ((x.op : Nat) : Int) ≠ 27 ∧ ((x.op : Nat) : Int) ≠ 34 then (if okH (h.getD (i + 1) 0) v then some (h.set (i + 1) v) else none) else some h
def jumpH (h : List Int) (x : Ins) (v : Int) : Option (List Int) :=
  if (tgt x).isSome = true then (if okH (h.getD ((tgt x).getD 0).toNat 0) v then some (h.set ((tgt x).getD 0).toNat v) else none) else some h
def stepH (h : List Int) (top : Int) (i : Nat) (x : Ins) : Option (List Int × Int) :=
  let m := max (h.getD i 0) 0
  if m < popsN x ∨ (((x.op : Nat) : Int) = 34 ∧ m ≠ 0) then none else
  (nextH (h.set i m) i x (aftH m x)).bind fun h2 => (jumpH h2 x (aftH m x)).map fun h3 => (h3, max (max top m) (aftH m x))
def goH : Nat → List Ins → List Int → Int → Option (List Int × Int)
  | _, [], h, top => some (h, top)
  | i, x :: r, h, top => (stepH h top i x).bind fun p => goH (i + 1) r p.1 p.2
def heightsV (l : List Ins) : Int × Bool := match goH 0 l (List.replicate (l.length + 1) (-1)) 0 with
  | none => (0, false)
  | some (h, top) => (top, decide (h.getD l.length 0 ≤ 0))
theorem goH_step {l : List Ins} {i : Nat} {x : Ins} (hx : l[i]? = some x) (h : List Int) (top : Int) : goH i (l.drop i) h top = (stepH h top i x).bind fun p => goH (i + 1) (l.drop (i + 1)) p.1 p.2 := by rw [drop_of_get hx]; rfl
theorem heights_none {l : List Ins} (h : goH 0 l (List.replicate (l.length + 1) (-1)) 0 = none) : heightsV l = (0, false) := by unfold heightsV; rw [h]
theorem repl_set (k n : Nat) : (List.replicate k (-1 : Int) ++ List.replicate (n + 1) 0).set k (-1) = List.replicate (k + 1) (-1) ++ List.replicate n 0 := by
  rw [List.set_append_right _ _ (by simp), List.length_replicate, Nat.sub_self, List.replicate_succ (n := n), List.set_cons_zero, List.append_cons, ← List.replicate_succ']
theorem getD_of {l : List Int} {i : Nat} {y : Int} (h : l[i]? = some y) : l.getD i 0 = y := by rw [List.getD_eq_getElem?_getD, h]; rfl
theorem all_set {l : List Int} {i : Nat} {v lo hi : Int} (h : ∀ y ∈ l, lo ≤ y ∧ y ≤ hi) (hv : lo ≤ v ∧ v ≤ hi) : ∀ y ∈ l.set i v, lo ≤ y ∧ y ≤ hi := fun y hy => by
  rcases List.mem_or_eq_of_mem_set hy with h1 | rfl
  · exact h y h1
  · exact hv
set_option maxHeartbeats 2000000 in
set_option maxRecDepth 100000 in
theorem set_fn (b : Nat) (Ah : Option Addr) (qh : Nat) (h : List Int) (t : Nat) (v y : Int) (hy : h[t]? = some y) :
    Does Tryz.prog 46 [.int .i64 ((t : Nat) : Int), .int .i64 v, .pointer (some ⟨b, 0, none⟩)] [box b [.slice Ah h.length qh] 132, rows encI 3 1 Ah qh h] (fun r Γ' => r = .bool (decide (okH y v)) ∧ Γ' = [box b [.slice Ah h.length qh] 132, rows encI 3 1 Ah qh (h.set t v)]) := by
  refine Does.enter Tryz.func46 rfl Tryz.ntmps46 rfl (fun w0 => ?_)
  refine To.seq (To.reg (To.a (To.nil (To.thenN (To.seq (To.reg ?_))))))
  refine To.lo 0 c132 ?_
  refine To.m ?_
  refine To.r (Rd.indexRows (i := 1) (j := t) rfl rfl rfl s132 rfl hy) ?_
  refine To.r (Rd.load (i := 1) rfl rfl c3 rfl (gives_1 (rows_gives encI_ok hy) rfl)) ?_
  refine To.r (Rd.lss rfl rfl rfl) ?_
  refine To.rdP rfl rfl rfl (Rd.move rfl rfl) (fun g12 => ?_) (fun g12 => ?_)
  ·
   refine To.k ?_
   refine To.k ?_
   refine To.k ?_
   refine To.k ?_
   refine To.k ?_
   refine To.k ?_
   refine To.r (Rd.pickT rfl rfl rfl) ?_
   refine To.a (To.nil (To.thenN (To.seq ?_)))
   have htl : t < h.length := (List.getElem?_eq_some_iff.1 hy).1
   refine To.reg ?_
   refine To.lo 0 c132 ?_
   refine To.m ?_
   refine To.m ?_
   refine To.r (Rd.indexRows (i := 1) (j := t) rfl rfl rfl s132 rfl hy) ?_
   refine To.u (Up.store (i := 1) rfl rfl rfl c3 rfl rfl (rows_takes encI_ok (y := v) (by decide) (by omega))) ?_
   refine To.nil (To.thenN (To.seq (To.reg (To.m ?_))))
   refine To.a (To.nil (To.thenN (To.ret ?_)))
   refine To.only [0, 0] rfl ?_
   refine To.end1 (.inl rfl) Tryz.results46 rfl ?_
   exact ⟨by simp [okH, g12], rfl⟩
  refine To.lo 0 c132 ?_
  refine To.m ?_
  refine To.r (Rd.indexRows (i := 1) (j := t) rfl rfl rfl s132 rfl hy) ?_
  refine To.r (Rd.load (i := 1) rfl rfl c3 rfl (gives_1 (rows_gives encI_ok hy) rfl)) ?_
  refine To.m ?_
  refine To.r (Rd.eql rfl rfl rfl) ?_
  refine To.r (Rd.pickF rfl rfl rfl) ?_
  refine To.a (To.nil (To.thenN (To.seq ?_)))
  have htl : t < h.length := (List.getElem?_eq_some_iff.1 hy).1
  refine To.reg ?_
  refine To.lo 0 c132 ?_
  refine To.m ?_
  refine To.m ?_
  refine To.r (Rd.indexRows (i := 1) (j := t) rfl rfl rfl s132 rfl hy) ?_
  refine To.u (Up.store (i := 1) rfl rfl rfl c3 rfl rfl (rows_takes encI_ok (y := v) (by decide) (by omega))) ?_
  refine To.nil (To.thenN (To.seq (To.reg (To.m ?_))))
  refine To.a (To.nil (To.thenN (To.ret ?_)))
  refine To.only [0, 0] rfl ?_
  refine To.end1 (.inl rfl) Tryz.results46 rfl ?_
  exact ⟨by simp [okH, g12], rfl⟩
set_option maxHeartbeats 2000000 in
set_option maxRecDepth 100000 in
theorem heights_fn (pr : Int) (A : Option Addr) (q : Nat) (l : List Ins) (hl : l.length ≤ 4000) (hform : ∀ x ∈ l, formedB pr l.length x = true) :
    Does Tryz.prog 18 [.slice A l.length q] [ros Ins.cells A l, tabC] (fun v _ => v = .tuple #[.int .i64 (heightsV l).1, .bool (heightsV l).2]) := by
  refine Does.enter Tryz.func18 rfl Tryz.ntmps18 rfl (fun w0 => ?_)
  refine To.seq (To.reg (To.a ?_))
  refine To.a (To.nil (To.thenN (To.seq (To.reg ?_))))
  refine To.m ?_
  refine To.r (Rd.len rfl rfl Tryz.underlying30) ?_
  refine To.r (Rd.inc rfl rfl rfl (by omega)) ?_
  refine To.mk rfl rfl rfl (Mk.makeRows (enc := encI) (z := 0) (n := (l.length + 1)) rfl rfl s132 rfl rfl (by omega) (by simp only [maxLen]; omega)) ?_
  rintro _ _ ⟨b16, rfl, rfl⟩
  refine To.alloc rfl rfl rfl rfl z132 (fun b4 => ?_)
  refine To.u (Up.store (i := 0) rfl rfl rfl c132 rfl rfl (box_takesAll rfl)) ?_
  refine To.nil (To.thenN (To.seq (To.seq (To.reg ?_))))
  refine To.lo 0 c132 ?_
  refine To.r (Rd.len rfl rfl Tryz.underlying132) ?_
  refine To.m (To.nil (To.thenN (To.block ?_)))
  refine To.sub [(0, .slice A l.length q), (2, .int .i64 0), (4, .pointer (some ⟨b4, 0, none⟩)), (18, .int .i64 (((l.length + 1) : Nat) : Int)), (19, .int .i64 ((0 : Nat) : Int))] ⟨rfl, rfl, rfl, (congrArg (fun n : Nat => some (Value.int .i64 (n : Int))) List.length_replicate), rfl, trivial⟩ ?_
  refine To.only [0, 0, 0, 0] rfl ?_
  refine To.loop (fun mz ρ Γ => ∃ (Ah : Option Addr) (qh : Nat) (h : List Int) (k : Nat), ρ = [(0, .slice A l.length q), (2, .int .i64 0), (4, .pointer (some ⟨b4, 0, none⟩)), (18, .int .i64 (((l.length + 1) : Nat) : Int)), (19, .int .i64 ((k : Nat) : Int))] ∧ Γ = [box b4 [.slice Ah h.length qh] 132, rows encI 3 1 Ah qh h, ros Ins.cells A l, tabC] ∧ mz = l.length + 1 - k ∧ (k ≤ l.length + 1) ∧ (h = List.replicate k (-1) ++ List.replicate (l.length + 1 - k) 0)) (l.length + 1 - 0) ⟨(some ⟨b16, 0, none⟩), (l.length + 1), (List.replicate (l.length + 1) (0 : Int)), 0, rfl, rfl, rfl, (Nat.zero_le _), (by simp)⟩ ?_
  rintro mz _ _ ⟨Ah, qh, h, k, rfl, rfl, rfl, hk, hh⟩
  have hhl : h.length = l.length + 1 := by rw [hh, List.length_append, List.length_replicate, List.length_replicate]; omega
  refine To.seq (To.reg ?_)
  refine To.r (Rd.lss rfl rfl rfl) ?_
  refine To.nil (To.thenN (To.seq ?_))
  refine To.condP rfl (fun c20 => ?_) (fun c20 => ?_)
  ·
   refine To.skip (To.thenN (To.seq (To.block (To.seq (To.reg (To.m ?_))))))
   refine To.a (To.nil (To.thenN ?_))
   obtain ⟨y, hy⟩ : ∃ z0, h[k]? = some z0 := ⟨h[k]'(by omega), List.getElem?_eq_getElem _⟩
   refine To.reg ?_
   refine To.lo 0 c132 ?_
   refine To.m ?_
   refine To.r (Rd.indexRows (i := 1) (j := k) rfl rfl rfl s132 rfl hy) ?_
   refine To.u (Up.store (i := 1) rfl rfl rfl c3 rfl rfl (rows_takes encI_ok (y := (-1)) (by decide) (by omega))) ?_
   refine To.nil (To.blockN (To.thenN (To.reg ?_)))
   refine To.r (Rd.inc rfl rfl rfl (by omega)) ?_
   refine To.m (To.nil (To.thenN ?_))
   refine To.sub [(0, .slice A l.length q), (2, .int .i64 0), (4, .pointer (some ⟨b4, 0, none⟩)), (18, .int .i64 (((l.length + 1) : Nat) : Int)), (19, .int .i64 (((k + 1) : Nat) : Int))] ⟨rfl, rfl, rfl, rfl, rfl, trivial⟩ ?_
   refine To.only [0, 0, 0, 0] rfl ?_
   refine To.as [box b4 [.slice Ah (h.set k (-1)).length qh] 132, rows encI 3 1 Ah qh (h.set k (-1)), ros Ins.cells A l, tabC] (by rw [List.length_set] <;> rfl) ?_
   refine To.again (l.length + 1 - (k + 1)) (by omega) ⟨Ah, qh, (h.set k (-1)), k + 1, rfl, rfl, rfl, (by omega), (by rw [hh, show l.length + 1 - k = (l.length - k) + 1 from by omega, repl_set, show l.length + 1 - (k + 1) = l.length - k from by omega])⟩
  refine To.exit (To.thenX (To.thenX (To.blockX (To.thenN (To.seq (To.reg ?_))))))
  refine To.r (Rd.makeFunc rfl rfl rfl) ?_
  refine To.a (To.nil (To.thenN (To.seq (To.seq (To.reg ?_)))))
  refine To.m ?_
  refine To.r (Rd.len rfl rfl Tryz.underlying30) ?_
  refine To.m (To.nil (To.thenN (To.block ?_)))
  have hh0 : h = List.replicate (l.length + 1) (-1) := by rw [hh, show k = l.length + 1 from by omega]; simp
  subst hh0
  refine To.sub [(0, .slice A l.length q), (2, .int .i64 0), (4, .pointer (some ⟨b4, 0, none⟩)), (6, .func (.func 46) #[] #[.pointer (some ⟨b4, 0, none⟩)]), (27, .slice A l.length q), (28, .int .i64 ((l.length : Nat) : Int)), (29, .int .i64 ((0 : Nat) : Int))] ⟨rfl, rfl, rfl, rfl, rfl, rfl, rfl, trivial⟩ ?_
  refine To.only [0, 0, 0, 0] rfl ?_
  refine To.loop (fun mz ρ Γ => ∃ (h : List Int) (top : Int) (i : Nat), ρ = [(0, .slice A l.length q), (2, .int .i64 top), (4, .pointer (some ⟨b4, 0, none⟩)), (6, .func (.func 46) #[] #[.pointer (some ⟨b4, 0, none⟩)]), (27, .slice A l.length q), (28, .int .i64 ((l.length : Nat) : Int)), (29, .int .i64 ((i : Nat) : Int))] ∧ Γ = [box b4 [.slice Ah h.length qh] 132, rows encI 3 1 Ah qh h, ros Ins.cells A l, tabC] ∧ mz = l.length - i ∧ (i ≤ l.length) ∧ (h.length = l.length + 1) ∧ (∀ y0 ∈ h, (-1 : Int) ≤ y0 ∧ y0 ≤ ((i : Nat) : Int)) ∧ (goH 0 l (List.replicate (l.length + 1) (-1)) 0 = goH i (l.drop i) h top) ∧ (0 ≤ top ∧ top ≤ 4001)) (l.length - 0) ⟨(List.replicate (l.length + 1) (-1)), 0, 0, rfl, rfl, rfl, (Nat.zero_le _), (by simp), (fun y0 hy0 => by rw [List.eq_of_mem_replicate hy0]; omega), rfl, (by omega)⟩ ?_
  rintro mz _ _ ⟨h, top, i, rfl, rfl, rfl, hi, hhl, hB, hI, ht⟩
  refine To.seq (To.reg ?_)
  refine To.r (Rd.lss rfl rfl rfl) ?_
  refine To.nil (To.thenN (To.seq ?_))
  refine To.condP rfl (fun c30 => ?_) (fun c30 => ?_)
  ·
   obtain ⟨x, hx⟩ : ∃ z0, l[i]? = some z0 := ⟨l[i]'(by omega), List.getElem?_eq_getElem _⟩
   refine To.skip (To.thenN (To.seq (To.block (To.seq (To.reg (To.m ?_))))))
   refine To.r (Rd.indexRos encIn (i := 2) (j := i) rfl rfl rfl s30 rfl hx) ?_
   refine To.r (Rd.loadS (i := 2) rfl rfl r64 rfl (ros_gives encIn hx) (encIn.len _)) ?_
   refine To.alloc rfl rfl rfl rfl z64 (fun b8 => ?_)
   refine To.a ?_
   refine To.u (Up.storeS (i := 0) rfl rfl rfl r64 rfl rfl rfl (box_takesAll rfl)) ?_
   refine To.nil (To.thenN (To.seq ?_))
   obtain ⟨y, hy⟩ : ∃ z0, h[i]? = some z0 := ⟨h[i]'(by omega), List.getElem?_eq_getElem _⟩
   have hyb := hB y (List.mem_of_getElem? hy)
   have hix : i < h.length := by omega
   refine To.flow [] [⟨1, [], 0⟩, ⟨3, [], 0⟩, ⟨0, [], 1⟩, ⟨2, [], 1⟩, ⟨4, [], 1⟩, ⟨5, [], 1⟩, ⟨6, [], 0⟩, ⟨7, [], 1⟩, ⟨8, [], 5⟩] mixed (by kernel_rfl) (oks_nil _) ?_
   refine FlowS.mo ?_
   refine FlowS.mo ?_
   refine FlowS.lo 1 c132 ?_
   refine FlowS.lo 1 c132 ?_
   refine FlowS.r rfl (Rd.indexRows (i := 2) (j := i) rfl rfl rfl s132 rfl hy) ?_
   refine FlowS.r rfl (Rd.load (i := 2) rfl rfl c3 rfl (gives_1 (rows_gives encI_ok hy) rfl)) ?_
   refine FlowS.f rfl (Rd.max rfl rfl rfl) ?_
   refine FlowS.r rfl (Rd.indexRows (i := 2) (j := i) rfl rfl rfl s132 rfl hy) ?_
   refine FlowS.up rfl rfl rfl (Up.store (i := 2) rfl rfl rfl c3 rfl rfl (rows_takes encI_ok (y := (max y 0)) (by decide) (by omega))) (oks_nil _) ?_
   refine FlowS.fin ?_
   refine To.thenN (To.seq ?_)
   refine To.as [box b8 [.int .u8 ((x.op : Nat) : Int), .int .i64 x.a, .int .i64 x.b, .int .i64 x.n] 64, box b4 [.slice Ah h.length qh] 132, rows encI 3 1 Ah qh (h.set i (max y 0)), ros Ins.cells A l, tabC] rfl ?_
   obtain ⟨m, hm⟩ : ∃ z0, z0 = (max y 0) := ⟨_, rfl⟩
   rw [← hm]
   refine To.as [box b8 [.int .u8 ((x.op : Nat) : Int), .int .i64 x.a, .int .i64 x.b, .int .i64 x.n] 64, box b4 [.slice Ah h.length qh] 132, rows encI 3 1 Ah qh (h.set i m), ros Ins.cells A l, tabC] rfl ?_
   obtain ⟨h1, hh1⟩ : ∃ z0, z0 = (h.set i m) := ⟨_, rfl⟩
   rw [← hh1]
   have hlh1 : h1.length = h.length := by rw [hh1]; rw [List.length_set]
   rw [← hlh1]
   have hy1 : h1[i]? = some m := by rw [hh1, List.getElem?_set_self hix]
   have hmb : 0 ≤ m ∧ m ≤ i := by omega
   have hB1 : ∀ y0 ∈ h1, (-1 : Int) ≤ y0 ∧ y0 ≤ ((i : Nat) : Int) := by rw [hh1]; exact all_set hB (by omega)
   have hxf := form_facts (hform x (List.mem_of_getElem? hx))
   have hpb := pops_bound x.op
   refine To.reg ?_
   refine To.f fl64_0 ?_
   refine To.lo 0 c62 ?_
   refine To.callV rfl rfl rfl (Ent.fn rfl rfl ca40) ((row_fn x.op).mono (R' := fun v _ => v = .agg (Rw.cells (rowOf x.op)).toArray) (fun _ _ h => h.1)) rfl (oks_cons (oks_at 4 rfl) (oks_nil _)) ?_
   refine To.alloc rfl rfl rfl rfl z125 (fun b9 => ?_)
   refine To.u (Up.storeS (i := 0) rfl rfl rfl r125 rfl rfl rfl (box_takesAll rfl)) ?_
   refine To.nil (To.thenN (To.seq (To.seq (To.reg ?_))))
   refine To.f fl64_0 ?_
   refine To.lo 1 c62 ?_
   refine To.r (Rd.eql rfl rfl rfl) ?_
   refine To.rdP rfl rfl rfl (Rd.move rfl rfl) (fun g48 => ?_) (fun g48 => ?_)
   ·
    refine To.k ?_
    refine To.k ?_
    refine To.k ?_
    refine To.r (Rd.pickT rfl rfl rfl) ?_
    refine To.nil (To.thenN ?_)
    refine To.condT rfl ?_
    refine To.reg ?_
    refine To.f fl125_2 ?_
    refine To.lo 0 c3 ?_
    refine To.f fl64_3 ?_
    refine To.lo 1 c2 ?_
    refine To.r (Rd.add64 rfl rfl rfl (by omega)) ?_
    refine To.f fl125_2 ?_
    refine To.u (Up.store (i := 0) rfl rfl rfl c3 rfl rfl (box_takes1 rfl)) ?_
    refine To.nil (To.thenN (To.seq (To.seq ?_)))
    have hpn : ((rowOf x.op).pops) + x.n = popsN x := by unfold popsN; rw [if_pos (by omega)]
    refine To.as [box b9 [.string (rowOf x.op).text, .string (rowOf x.op).uses, .int .i64 (((rowOf x.op).pops) + x.n), .int .i64 ((rowOf x.op).pushes)] 125, box b8 [.int .u8 ((x.op : Nat) : Int), .int .i64 x.a, .int .i64 x.b, .int .i64 x.n] 64, box b4 [.slice Ah h1.length qh] 132, rows encI 3 1 Ah qh h1, ros Ins.cells A l, tabC] rfl ?_
    rw [hpn]
    have hpb2 : 0 ≤ popsN x ∧ popsN x ≤ 6 := by omega
    refine To.flow [] [⟨1, [], 0⟩, ⟨4, [], 0⟩, ⟨0, [], 1⟩, ⟨2, [], 1⟩, ⟨3, [], 1⟩, ⟨5, [], 1⟩, ⟨6, [], 0⟩, ⟨7, [], 0⟩, ⟨8, [], 0⟩, ⟨9, [], 1⟩, ⟨10, [], 0⟩, ⟨11, [], 0⟩, ⟨13, [], 0⟩, ⟨12, [], 1⟩, ⟨14, [], 1⟩, ⟨15, [], 1⟩, ⟨16, [], 0⟩, ⟨17, [], 0⟩, ⟨18, [], 0⟩] mixed (by kernel_rfl) (oks_nil _) ?_
    refine FlowS.mo ?_
    refine FlowS.fi fl125_2 ?_
    refine FlowS.lo 2 c132 ?_
    refine FlowS.r rfl (Rd.indexRows (i := 3) (j := i) rfl rfl rfl s132 rfl hy1) ?_
    refine FlowS.r rfl (Rd.load (i := 3) rfl rfl c3 rfl (gives_1 (rows_gives encI_ok hy1) rfl)) ?_
    refine FlowS.lo 0 c3 ?_
    refine FlowS.f rfl (Rd.lss rfl rfl rfl) ?_
    refine FlowS.rdP rfl rfl rfl rfl (Rd.move rfl rfl) (fun g66 => ?_) (fun g66 => ?_)
    ·
     refine FlowS.skip (by decide) rfl rfl rfl rfl ?_
     refine FlowS.skip (by decide) rfl rfl rfl rfl ?_
     refine FlowS.skip (by decide) rfl rfl rfl rfl ?_
     refine FlowS.skip (by decide) rfl rfl rfl rfl ?_
     refine FlowS.skip (by decide) rfl rfl rfl rfl ?_
     refine FlowS.skip (by decide) rfl rfl rfl rfl ?_
     refine FlowS.skip (by decide) rfl rfl rfl rfl ?_
     refine FlowS.skip (by decide) rfl rfl rfl rfl ?_
     refine FlowS.skip (by decide) rfl rfl rfl rfl ?_
     refine FlowS.skip (by decide) rfl rfl rfl rfl ?_
     refine FlowS.f rfl (Rd.pickT rfl rfl rfl) ?_
     refine FlowS.fin ?_
     refine To.thenN ?_
     refine To.condT rfl ?_
     refine To.seq (To.reg (To.a ?_))
     refine To.a (To.nil (To.thenN (To.ret (To.thenR (To.blockR (To.thenR (To.thenR (To.blockR (To.thenR ?_)))))))))
     refine To.end2 (.inl rfl) Tryz.results18 rfl rfl ?_
     have hm2 : max (h.getD i 0) 0 = m := by rw [getD_of hy, hm]
     rw [heights_none (by rw [hI, goH_step hx, show stepH h top i x = none from (by unfold stepH; simp only [hm2]; rw [if_pos (by omega)])]; rfl)]
    refine FlowS.fi fl64_0 ?_
    refine FlowS.lo 1 c62 ?_
    refine FlowS.f rfl (Rd.eql rfl rfl rfl) ?_
    refine FlowS.rdP rfl rfl rfl rfl (Rd.move rfl rfl) (fun g70 => ?_) (fun g70 => ?_)
    ·
     refine FlowS.mo ?_
     refine FlowS.lo 2 c132 ?_
     refine FlowS.r rfl (Rd.indexRows (i := 3) (j := i) rfl rfl rfl s132 rfl hy1) ?_
     refine FlowS.r rfl (Rd.load (i := 3) rfl rfl c3 rfl (gives_1 (rows_gives encI_ok hy1) rfl)) ?_
     refine FlowS.f rfl (Rd.neq rfl rfl rfl) ?_
     refine FlowS.f rfl (Rd.pickT rfl rfl rfl) ?_
     refine FlowS.f rfl (Rd.pickF rfl rfl rfl) ?_
     refine FlowS.fin ?_
     refine To.thenN ?_
     refine To.condP rfl (fun c77 => ?_) (fun c77 => ?_)
     ·
      refine To.seq (To.reg (To.a ?_))
      refine To.a (To.nil (To.thenN (To.ret (To.thenR (To.blockR (To.thenR (To.thenR (To.blockR (To.thenR ?_)))))))))
      refine To.end2 (.inl rfl) Tryz.results18 rfl rfl ?_
      have hm2 : max (h.getD i 0) 0 = m := by rw [getD_of hy, hm]
      rw [heights_none (by rw [hI, goH_step hx, show stepH h top i x = none from (by unfold stepH; simp only [hm2]; rw [if_pos (by omega)])]; rfl)]
     refine To.skip (To.thenN (To.seq ?_))
     refine To.flow [] [⟨1, [], 0⟩, ⟨4, [], 0⟩, ⟨7, [], 0⟩, ⟨0, [], 1⟩, ⟨2, [], 1⟩, ⟨3, [], 1⟩, ⟨5, [], 1⟩, ⟨6, [], 0⟩, ⟨8, [], 1⟩, ⟨9, [], 0⟩, ⟨10, [], 0⟩] mixed (by kernel_rfl) (oks_nil _) ?_
     refine FlowS.mo ?_
     refine FlowS.fi fl125_2 ?_
     refine FlowS.fi fl125_3 ?_
     refine FlowS.lo 2 c132 ?_
     refine FlowS.r rfl (Rd.indexRows (i := 3) (j := i) rfl rfl rfl s132 rfl hy1) ?_
     refine FlowS.r rfl (Rd.load (i := 3) rfl rfl c3 rfl (gives_1 (rows_gives encI_ok hy1) rfl)) ?_
     refine FlowS.lo 0 c3 ?_
     refine FlowS.f rfl (Rd.sub64 rfl rfl rfl (by omega)) ?_
     refine FlowS.lo 0 c3 ?_
     refine FlowS.f rfl (Rd.add64 rfl rfl rfl (by omega)) ?_
     refine FlowS.f rfl (Rd.assign rfl rfl) ?_
     refine FlowS.fin ?_
     refine To.thenN (To.seq ?_)
     refine To.as [box b9 [.string (rowOf x.op).text, .string (rowOf x.op).uses, .int .i64 (popsN x), .int .i64 ((rowOf x.op).pushes)] 125, box b8 [.int .u8 ((x.op : Nat) : Int), .int .i64 x.a, .int .i64 x.b, .int .i64 x.n] 64, box b4 [.slice Ah h1.length qh] 132, rows encI 3 1 Ah qh h1, ros Ins.cells A l, tabC] rfl ?_
     obtain ⟨v, hv⟩ : ∃ z0, z0 = ((m - (popsN x)) + ((rowOf x.op).pushes)) := ⟨_, rfl⟩
     rw [← hv]
     have hv2 : v = aftH m x := by rw [hv, aftH]
     have hvb : 0 ≤ v ∧ v ≤ i + 1 := by omega
     refine To.reg (To.m ?_)
     refine To.lo 2 c132 ?_
     refine To.m ?_
     refine To.r (Rd.indexRows (i := 3) (j := i) rfl rfl rfl s132 rfl hy1) ?_
     refine To.r (Rd.load (i := 3) rfl rfl c3 rfl (gives_1 (rows_gives encI_ok hy1) rfl)) ?_
     refine To.m ?_
     refine To.r (Rd.max3 rfl rfl rfl rfl) ?_
     refine To.a (To.nil ?_)
     refine To.sub [(0, .slice A l.length q), (2, .int .i64 (max (max top m) v)), (4, .pointer (some ⟨b4, 0, none⟩)), (6, .func (.func 46) #[] #[.pointer (some ⟨b4, 0, none⟩)]), (27, .slice A l.length q), (28, .int .i64 ((l.length : Nat) : Int)), (29, .int .i64 ((i : Nat) : Int)), (30, .bool (decide (((i : Nat) : Int) < ((l.length : Nat) : Int)))), (8, .pointer (some ⟨b8, 0, none⟩)), (7, .int .i64 ((i : Nat) : Int)), (9, .pointer (some ⟨b9, 0, none⟩)), (52, .bool true), (77, .bool (decide (m ≠ 0))), (10, .int .i64 v)] ⟨rfl, rfl, rfl, rfl, rfl, rfl, rfl, rfl, rfl, rfl, rfl, rfl, rfl, rfl, trivial⟩ ?_
     refine To.thenN (To.seq (To.seq ?_))
     obtain ⟨y2, hy2⟩ : ∃ z0, h1[i + 1]? = some z0 := ⟨h1[i + 1]'(by omega), List.getElem?_eq_getElem _⟩
     refine To.as [box b9 [.string (rowOf x.op).text, .string (rowOf x.op).uses, .int .i64 (popsN x), .int .i64 ((rowOf x.op).pushes)] 125, box b8 [.int .u8 ((x.op : Nat) : Int), .int .i64 x.a, .int .i64 x.b, .int .i64 x.n] 64, box b4 [.slice Ah h1.length qh] 132, rows encI 3 1 Ah qh h1, ros Ins.cells A l, tabC] rfl ?_
     obtain ⟨top', htop'⟩ : ∃ z0, z0 = (max (max top m) v) := ⟨_, rfl⟩
     rw [← htop']
     refine To.reg ?_
     refine To.f fl64_0 ?_
     refine To.lo 1 c62 ?_
     refine To.r (Rd.neq rfl rfl rfl) ?_
     refine To.rdP rfl rfl rfl (Rd.move rfl rfl) (fun g98 => ?_) (fun g98 => ?_)
     ·
      refine To.f fl64_0 ?_
      refine To.lo 1 c62 ?_
      refine To.r (Rd.neq rfl rfl rfl) ?_
      refine To.r (Rd.pickT rfl rfl rfl) ?_
      refine To.rdP rfl rfl rfl (Rd.move rfl rfl) (fun g103 => ?_) (fun g103 => ?_)
      ·
       refine To.m ?_
       refine To.m ?_
       refine To.r (Rd.inc rfl rfl rfl (by omega)) ?_
       refine To.m ?_
       refine To.call [2, 2] rfl rfl rfl (Ent.func (first := []) (captured := [.pointer (some ⟨b4, 0, none⟩)]) rfl rfl rfl ca46) rfl (set_fn b4 Ah qh h1 (i + 1) v y2 hy2) ?_
       rintro _ _ ⟨rfl, rfl⟩
       refine To.r (Rd.not rfl rfl) ?_
       refine To.r (Rd.pickT rfl rfl rfl) ?_
       refine To.nil (To.thenN ?_)
       refine To.cond rfl (fun c110 => ?_) (fun c110 => ?_)
       ·
        refine To.seq (To.reg (To.a ?_))
        refine To.a (To.nil (To.thenN (To.ret (To.thenR (To.blockR (To.thenR (To.thenR (To.blockR (To.thenR ?_)))))))))
        refine To.end2 (.inl rfl) Tryz.results18 rfl rfl ?_
        have hm2 : max (h.getD i 0) 0 = m := by rw [getD_of hy, hm]
        have hnf : ¬ (m < popsN x ∨ (((x.op : Nat) : Int) = 34 ∧ m ≠ 0)) := by omega
        have hN : nextH h1 i x v = none := by rw [nextH, if_pos (by omega), getD_of hy2, if_neg (by simpa using c110)]
        rw [heights_none (by rw [hI, goH_step hx, show stepH h top i x = none from (by unfold stepH; simp only [hm2, ← hh1, ← hv2]; rw [if_neg hnf, hN]; rfl)]; rfl)]
       refine To.skip (To.thenN (To.seq ?_))
       have hnf : ¬ (m < popsN x ∨ (((x.op : Nat) : Int) = 34 ∧ m ≠ 0)) := by omega
       refine To.as [box b4 [.slice Ah h1.length qh] 132, rows encI 3 1 Ah qh (h1.set (i + 1) v), box b9 [.string (rowOf x.op).text, .string (rowOf x.op).uses, .int .i64 (popsN x), .int .i64 ((rowOf x.op).pushes)] 125, box b8 [.int .u8 ((x.op : Nat) : Int), .int .i64 x.a, .int .i64 x.b, .int .i64 x.n] 64, ros Ins.cells A l, tabC] rfl ?_
       obtain ⟨h2, hh2⟩ : ∃ z0, z0 = (h1.set (i + 1) v) := ⟨_, rfl⟩
       rw [← hh2]
       have hlh2 : h2.length = h1.length := by rw [hh2]; rw [List.length_set]
       rw [← hlh2]
       have hN : nextH h1 i x v = some h2 := by rw [nextH, if_pos (by omega), getD_of hy2, if_pos (by simpa using c110), hh2]
       have hB2 : ∀ y0 ∈ h2, (-1 : Int) ≤ y0 ∧ y0 ≤ ((i + 1 : Nat) : Int) := by rw [hh2]; exact all_set (fun y0 h0 => by have := hB1 y0 h0; omega) (by omega)
       refine To.reg ?_
       refine To.r (Rd.loadS (i := 3) rfl rfl r64 rfl box_whole rfl) ?_
       refine To.callV rfl rfl rfl (Ent.fn rfl rfl ca45) (tgt_fn x) rfl (oks_nil _) ?_
       refine To.m ?_
       refine To.r (Rd.extract rfl rfl rfl) ?_
       refine To.r (Rd.extract rfl rfl rfl) ?_
       refine To.a ?_
       refine To.a (To.nil (To.thenN (To.seq ?_)))
       refine To.as [box b4 [.slice Ah h2.length qh] 132, rows encI 3 1 Ah qh h2, box b9 [.string (rowOf x.op).text, .string (rowOf x.op).uses, .int .i64 (popsN x), .int .i64 ((rowOf x.op).pushes)] 125, box b8 [.int .u8 ((x.op : Nat) : Int), .int .i64 x.a, .int .i64 x.b, .int .i64 x.n] 64, ros Ins.cells A l, tabC] rfl ?_
       obtain ⟨tn, htn⟩ : ∃ tn : Nat, (tgt x).getD 0 = ((tn : Nat) : Int) := ⟨((tgt x).getD 0).toNat, by omega⟩
       rw [htn]
       obtain ⟨y3, hy3⟩ : ∃ z0, h2[tn]? = some z0 := ⟨h2[tn]'(by omega), List.getElem?_eq_getElem _⟩
       have htn2 : ((tgt x).getD 0).toNat = tn := by omega
       refine To.reg (To.m ?_)
       refine To.rdB rfl rfl rfl (Rd.move rfl rfl) (fun g117 => ?_) (fun g117 => ?_)
       ·
        refine To.m ?_
        refine To.m ?_
        refine To.m ?_
        refine To.call [0, 0] rfl rfl rfl (Ent.func (first := []) (captured := [.pointer (some ⟨b4, 0, none⟩)]) rfl rfl rfl ca46) rfl (set_fn b4 Ah qh h2 tn v y3 hy3) ?_
        rintro _ _ ⟨rfl, rfl⟩
        refine To.r (Rd.not rfl rfl) ?_
        refine To.r (Rd.pickT rfl rfl rfl) ?_
        refine To.nil (To.thenN ?_)
        refine To.cond rfl (fun c123 => ?_) (fun c123 => ?_)
        ·
         refine To.seq (To.reg (To.a ?_))
         refine To.a (To.nil (To.thenN (To.ret (To.blockR (To.thenR (To.thenR (To.blockR (To.thenR ?_))))))))
         refine To.end2 (.inl rfl) Tryz.results18 rfl rfl ?_
         have hm2 : max (h.getD i 0) 0 = m := by rw [getD_of hy, hm]
         have hJ : jumpH h2 x v = none := by rw [jumpH, if_pos (by assumption), htn2, getD_of hy3, if_neg (by simpa using c123)]
         rw [heights_none (by rw [hI, goH_step hx, show stepH h top i x = none from (by unfold stepH; simp only [hm2, ← hh1, ← hv2]; rw [if_neg hnf, hN]; simp [hJ])]; rfl)]
        refine To.skip (To.blockN (To.thenN (To.reg ?_)))
        refine To.r (Rd.inc rfl rfl rfl (by omega)) ?_
        refine To.m (To.nil (To.thenN ?_))
        have hm2 : max (h.getD i 0) 0 = m := by rw [getD_of hy, hm]
        have hJ : jumpH h2 x v = some (h2.set tn v) := by rw [jumpH, if_pos (by assumption), htn2, getD_of hy3, if_pos (by simpa using c123)]
        have hS : stepH h top i x = some ((h2.set tn v), top') := by
          unfold stepH; simp only [hm2, ← hh1, ← hv2]; rw [if_neg hnf, hN]; show ((jumpH h2 x v).map fun h3 => (h3, max (max top m) v)) = _; rw [hJ, htop']; rfl
        refine To.sub [(0, .slice A l.length q), (2, .int .i64 top'), (4, .pointer (some ⟨b4, 0, none⟩)), (6, .func (.func 46) #[] #[.pointer (some ⟨b4, 0, none⟩)]), (27, .slice A l.length q), (28, .int .i64 ((l.length : Nat) : Int)), (29, .int .i64 (((i + 1) : Nat) : Int))] ⟨rfl, rfl, rfl, rfl, rfl, rfl, rfl, trivial⟩ ?_
        refine To.only [0, 0, 2, 2] rfl ?_
        refine To.as [box b4 [.slice Ah (h2.set tn v).length qh] 132, rows encI 3 1 Ah qh (h2.set tn v), ros Ins.cells A l, tabC] (by first | rfl | rw [List.length_set] <;> rfl) ?_
        refine To.again (l.length - (i + 1)) (by omega) ⟨(h2.set tn v), top', i + 1, rfl, rfl, rfl, (by omega), (by rw [List.length_set]; omega), (all_set (fun y0 h0 => by have := hB2 y0 h0; omega) (by omega)), (by rw [hI, goH_step hx, hS]; rfl), (by omega)⟩
       refine To.k ?_
       refine To.k ?_
       refine To.k ?_
       refine To.k ?_
       refine To.k ?_
       refine To.r (Rd.pickF rfl rfl rfl) ?_
       refine To.nil (To.thenN ?_)
       refine To.condF rfl ?_
       refine To.skip (To.blockN (To.thenN (To.reg ?_)))
       refine To.r (Rd.inc rfl rfl rfl (by omega)) ?_
       refine To.m (To.nil (To.thenN ?_))
       have hm2 : max (h.getD i 0) 0 = m := by rw [getD_of hy, hm]
       have hJ : jumpH h2 x v = some h2 := by rw [jumpH, if_neg (by simp [g117])]
       have hS : stepH h top i x = some (h2, top') := by
         unfold stepH; simp only [hm2, ← hh1, ← hv2]; rw [if_neg hnf, hN]; show ((jumpH h2 x v).map fun h3 => (h3, max (max top m) v)) = _; rw [hJ, htop']; rfl
       refine To.sub [(0, .slice A l.length q), (2, .int .i64 top'), (4, .pointer (some ⟨b4, 0, none⟩)), (6, .func (.func 46) #[] #[.pointer (some ⟨b4, 0, none⟩)]), (27, .slice A l.length q), (28, .int .i64 ((l.length : Nat) : Int)), (29, .int .i64 (((i + 1) : Nat) : Int))] ⟨rfl, rfl, rfl, rfl, rfl, rfl, rfl, trivial⟩ ?_
       refine To.only [0, 0, 2, 2] rfl ?_
       refine To.as [box b4 [.slice Ah h2.length qh] 132, rows encI 3 1 Ah qh h2, ros Ins.cells A l, tabC] (by first | rfl | rw [List.length_set] <;> rfl) ?_
       refine To.again (l.length - (i + 1)) (by omega) ⟨h2, top', i + 1, rfl, rfl, rfl, (by omega), (by omega), hB2, (by rw [hI, goH_step hx, hS]; rfl), (by omega)⟩
      refine To.k ?_
      refine To.k ?_
      refine To.k ?_
      refine To.k ?_
      refine To.k ?_
      refine To.k ?_
      refine To.r (Rd.pickF rfl rfl rfl) ?_
      refine To.nil (To.thenN ?_)
      refine To.condF rfl ?_
      refine To.skip (To.thenN (To.seq ?_))
      have hnf : ¬ (m < popsN x ∨ (((x.op : Nat) : Int) = 34 ∧ m ≠ 0)) := by omega
      have hN : nextH h1 i x v = some h1 := by rw [nextH, if_neg (by omega)]
      have hB2 : ∀ y0 ∈ h1, (-1 : Int) ≤ y0 ∧ y0 ≤ ((i + 1 : Nat) : Int) := fun y0 h0 => by have := hB1 y0 h0; omega
      refine To.reg ?_
      refine To.r (Rd.loadS (i := 1) rfl rfl r64 rfl box_whole rfl) ?_
      refine To.callV rfl rfl rfl (Ent.fn rfl rfl ca45) (tgt_fn x) rfl (oks_nil _) ?_
      refine To.m ?_
      refine To.r (Rd.extract rfl rfl rfl) ?_
      refine To.r (Rd.extract rfl rfl rfl) ?_
      refine To.a ?_
      refine To.a (To.nil (To.thenN (To.seq ?_)))
      refine To.as [box b9 [.string (rowOf x.op).text, .string (rowOf x.op).uses, .int .i64 (popsN x), .int .i64 ((rowOf x.op).pushes)] 125, box b8 [.int .u8 ((x.op : Nat) : Int), .int .i64 x.a, .int .i64 x.b, .int .i64 x.n] 64, box b4 [.slice Ah h1.length qh] 132, rows encI 3 1 Ah qh h1, ros Ins.cells A l, tabC] rfl ?_
      obtain ⟨tn, htn⟩ : ∃ tn : Nat, (tgt x).getD 0 = ((tn : Nat) : Int) := ⟨((tgt x).getD 0).toNat, by omega⟩
      rw [htn]
      obtain ⟨y3, hy3⟩ : ∃ z0, h1[tn]? = some z0 := ⟨h1[tn]'(by omega), List.getElem?_eq_getElem _⟩
      have htn2 : ((tgt x).getD 0).toNat = tn := by omega
      refine To.reg (To.m ?_)
      refine To.rdB rfl rfl rfl (Rd.move rfl rfl) (fun g117 => ?_) (fun g117 => ?_)
      ·
       refine To.m ?_
       refine To.m ?_
       refine To.m ?_
       refine To.call [2, 2] rfl rfl rfl (Ent.func (first := []) (captured := [.pointer (some ⟨b4, 0, none⟩)]) rfl rfl rfl ca46) rfl (set_fn b4 Ah qh h1 tn v y3 hy3) ?_
       rintro _ _ ⟨rfl, rfl⟩
       refine To.r (Rd.not rfl rfl) ?_
       refine To.r (Rd.pickT rfl rfl rfl) ?_
       refine To.nil (To.thenN ?_)
       refine To.cond rfl (fun c123 => ?_) (fun c123 => ?_)
       ·
        refine To.seq (To.reg (To.a ?_))
        refine To.a (To.nil (To.thenN (To.ret (To.blockR (To.thenR (To.thenR (To.blockR (To.thenR ?_))))))))
        refine To.end2 (.inl rfl) Tryz.results18 rfl rfl ?_
        have hm2 : max (h.getD i 0) 0 = m := by rw [getD_of hy, hm]
        have hJ : jumpH h1 x v = none := by rw [jumpH, if_pos (by assumption), htn2, getD_of hy3, if_neg (by simpa using c123)]
        rw [heights_none (by rw [hI, goH_step hx, show stepH h top i x = none from (by unfold stepH; simp only [hm2, ← hh1, ← hv2]; rw [if_neg hnf, hN]; simp [hJ])]; rfl)]
       refine To.skip (To.blockN (To.thenN (To.reg ?_)))
       refine To.r (Rd.inc rfl rfl rfl (by omega)) ?_
       refine To.m (To.nil (To.thenN ?_))
       have hm2 : max (h.getD i 0) 0 = m := by rw [getD_of hy, hm]
       have hJ : jumpH h1 x v = some (h1.set tn v) := by rw [jumpH, if_pos (by assumption), htn2, getD_of hy3, if_pos (by simpa using c123)]
       have hS : stepH h top i x = some ((h1.set tn v), top') := by
         unfold stepH; simp only [hm2, ← hh1, ← hv2]; rw [if_neg hnf, hN]; show ((jumpH h1 x v).map fun h3 => (h3, max (max top m) v)) = _; rw [hJ, htop']; rfl
       refine To.sub [(0, .slice A l.length q), (2, .int .i64 top'), (4, .pointer (some ⟨b4, 0, none⟩)), (6, .func (.func 46) #[] #[.pointer (some ⟨b4, 0, none⟩)]), (27, .slice A l.length q), (28, .int .i64 ((l.length : Nat) : Int)), (29, .int .i64 (((i + 1) : Nat) : Int))] ⟨rfl, rfl, rfl, rfl, rfl, rfl, rfl, trivial⟩ ?_
       refine To.only [0, 0, 2, 2] rfl ?_
       refine To.as [box b4 [.slice Ah (h1.set tn v).length qh] 132, rows encI 3 1 Ah qh (h1.set tn v), ros Ins.cells A l, tabC] (by first | rfl | rw [List.length_set] <;> rfl) ?_
       refine To.again (l.length - (i + 1)) (by omega) ⟨(h1.set tn v), top', i + 1, rfl, rfl, rfl, (by omega), (by rw [List.length_set]; omega), (all_set (fun y0 h0 => by have := hB2 y0 h0; omega) (by omega)), (by rw [hI, goH_step hx, hS]; rfl), (by omega)⟩
      refine To.k ?_
      refine To.k ?_
      refine To.k ?_
      refine To.k ?_
      refine To.k ?_
      refine To.r (Rd.pickF rfl rfl rfl) ?_
      refine To.nil (To.thenN ?_)
      refine To.condF rfl ?_
      refine To.skip (To.blockN (To.thenN (To.reg ?_)))
      refine To.r (Rd.inc rfl rfl rfl (by omega)) ?_
      refine To.m (To.nil (To.thenN ?_))
      have hm2 : max (h.getD i 0) 0 = m := by rw [getD_of hy, hm]
      have hJ : jumpH h1 x v = some h1 := by rw [jumpH, if_neg (by simp [g117])]
      have hS : stepH h top i x = some (h1, top') := by
        unfold stepH; simp only [hm2, ← hh1, ← hv2]; rw [if_neg hnf, hN]; show ((jumpH h1 x v).map fun h3 => (h3, max (max top m) v)) = _; rw [hJ, htop']; rfl
      refine To.sub [(0, .slice A l.length q), (2, .int .i64 top'), (4, .pointer (some ⟨b4, 0, none⟩)), (6, .func (.func 46) #[] #[.pointer (some ⟨b4, 0, none⟩)]), (27, .slice A l.length q), (28, .int .i64 ((l.length : Nat) : Int)), (29, .int .i64 (((i + 1) : Nat) : Int))] ⟨rfl, rfl, rfl, rfl, rfl, rfl, rfl, trivial⟩ ?_
      refine To.only [2, 2, 2, 2] rfl ?_
      refine To.as [box b4 [.slice Ah h1.length qh] 132, rows encI 3 1 Ah qh h1, ros Ins.cells A l, tabC] (by first | rfl | rw [List.length_set] <;> rfl) ?_
      refine To.again (l.length - (i + 1)) (by omega) ⟨h1, top', i + 1, rfl, rfl, rfl, (by omega), (by omega), hB2, (by rw [hI, goH_step hx, hS]; rfl), (by omega)⟩
     refine To.k ?_
     refine To.k ?_
     refine To.k ?_
     refine To.r (Rd.pickF rfl rfl rfl) ?_
     refine To.m ?_
     refine To.k ?_
     refine To.k ?_
     refine To.k ?_
     refine To.k ?_
     refine To.k ?_
     refine To.k ?_
     refine To.r (Rd.pickF rfl rfl rfl) ?_
     refine To.nil (To.thenN ?_)
     refine To.condF rfl ?_
     refine To.skip (To.thenN (To.seq ?_))
     have hnf : ¬ (m < popsN x ∨ (((x.op : Nat) : Int) = 34 ∧ m ≠ 0)) := by omega
     have hN : nextH h1 i x v = some h1 := by rw [nextH, if_neg (by omega)]
     have hB2 : ∀ y0 ∈ h1, (-1 : Int) ≤ y0 ∧ y0 ≤ ((i + 1 : Nat) : Int) := fun y0 h0 => by have := hB1 y0 h0; omega
     refine To.reg ?_
     refine To.r (Rd.loadS (i := 1) rfl rfl r64 rfl box_whole rfl) ?_
     refine To.callV rfl rfl rfl (Ent.fn rfl rfl ca45) (tgt_fn x) rfl (oks_nil _) ?_
     refine To.m ?_
     refine To.r (Rd.extract rfl rfl rfl) ?_
     refine To.r (Rd.extract rfl rfl rfl) ?_
     refine To.a ?_
     refine To.a (To.nil (To.thenN (To.seq ?_)))
     refine To.as [box b9 [.string (rowOf x.op).text, .string (rowOf x.op).uses, .int .i64 (popsN x), .int .i64 ((rowOf x.op).pushes)] 125, box b8 [.int .u8 ((x.op : Nat) : Int), .int .i64 x.a, .int .i64 x.b, .int .i64 x.n] 64, box b4 [.slice Ah h1.length qh] 132, rows encI 3 1 Ah qh h1, ros Ins.cells A l, tabC] rfl ?_
     obtain ⟨tn, htn⟩ : ∃ tn : Nat, (tgt x).getD 0 = ((tn : Nat) : Int) := ⟨((tgt x).getD 0).toNat, by omega⟩
     rw [htn]
     obtain ⟨y3, hy3⟩ : ∃ z0, h1[tn]? = some z0 := ⟨h1[tn]'(by omega), List.getElem?_eq_getElem _⟩
     have htn2 : ((tgt x).getD 0).toNat = tn := by omega
     refine To.reg (To.m ?_)
     refine To.rdB rfl rfl rfl (Rd.move rfl rfl) (fun g117 => ?_) (fun g117 => ?_)
     ·
      refine To.m ?_
      refine To.m ?_
      refine To.m ?_
      refine To.call [2, 2] rfl rfl rfl (Ent.func (first := []) (captured := [.pointer (some ⟨b4, 0, none⟩)]) rfl rfl rfl ca46) rfl (set_fn b4 Ah qh h1 tn v y3 hy3) ?_
      rintro _ _ ⟨rfl, rfl⟩
      refine To.r (Rd.not rfl rfl) ?_
      refine To.r (Rd.pickT rfl rfl rfl) ?_
      refine To.nil (To.thenN ?_)
      refine To.cond rfl (fun c123 => ?_) (fun c123 => ?_)
      ·
       refine To.seq (To.reg (To.a ?_))
       refine To.a (To.nil (To.thenN (To.ret (To.blockR (To.thenR (To.thenR (To.blockR (To.thenR ?_))))))))
       refine To.end2 (.inl rfl) Tryz.results18 rfl rfl ?_
       have hm2 : max (h.getD i 0) 0 = m := by rw [getD_of hy, hm]
       have hJ : jumpH h1 x v = none := by rw [jumpH, if_pos (by assumption), htn2, getD_of hy3, if_neg (by simpa using c123)]
       rw [heights_none (by rw [hI, goH_step hx, show stepH h top i x = none from (by unfold stepH; simp only [hm2, ← hh1, ← hv2]; rw [if_neg hnf, hN]; simp [hJ])]; rfl)]
      refine To.skip (To.blockN (To.thenN (To.reg ?_)))
      refine To.r (Rd.inc rfl rfl rfl (by omega)) ?_
      refine To.m (To.nil (To.thenN ?_))
      have hm2 : max (h.getD i 0) 0 = m := by rw [getD_of hy, hm]
      have hJ : jumpH h1 x v = some (h1.set tn v) := by rw [jumpH, if_pos (by assumption), htn2, getD_of hy3, if_pos (by simpa using c123)]
      have hS : stepH h top i x = some ((h1.set tn v), top') := by
        unfold stepH; simp only [hm2, ← hh1, ← hv2]; rw [if_neg hnf, hN]; show ((jumpH h1 x v).map fun h3 => (h3, max (max top m) v)) = _; rw [hJ, htop']; rfl
      refine To.sub [(0, .slice A l.length q), (2, .int .i64 top'), (4, .pointer (some ⟨b4, 0, none⟩)), (6, .func (.func 46) #[] #[.pointer (some ⟨b4, 0, none⟩)]), (27, .slice A l.length q), (28, .int .i64 ((l.length : Nat) : Int)), (29, .int .i64 (((i + 1) : Nat) : Int))] ⟨rfl, rfl, rfl, rfl, rfl, rfl, rfl, trivial⟩ ?_
      refine To.only [0, 0, 2, 2] rfl ?_
      refine To.as [box b4 [.slice Ah (h1.set tn v).length qh] 132, rows encI 3 1 Ah qh (h1.set tn v), ros Ins.cells A l, tabC] (by first | rfl | rw [List.length_set] <;> rfl) ?_
      refine To.again (l.length - (i + 1)) (by omega) ⟨(h1.set tn v), top', i + 1, rfl, rfl, rfl, (by omega), (by rw [List.length_set]; omega), (all_set (fun y0 h0 => by have := hB2 y0 h0; omega) (by omega)), (by rw [hI, goH_step hx, hS]; rfl), (by omega)⟩
     refine To.k ?_
     refine To.k ?_
     refine To.k ?_
     refine To.k ?_
     refine To.k ?_
     refine To.r (Rd.pickF rfl rfl rfl) ?_
     refine To.nil (To.thenN ?_)
     refine To.condF rfl ?_
     refine To.skip (To.blockN (To.thenN (To.reg ?_)))
     refine To.r (Rd.inc rfl rfl rfl (by omega)) ?_
     refine To.m (To.nil (To.thenN ?_))
     have hm2 : max (h.getD i 0) 0 = m := by rw [getD_of hy, hm]
     have hJ : jumpH h1 x v = some h1 := by rw [jumpH, if_neg (by simp [g117])]
     have hS : stepH h top i x = some (h1, top') := by
       unfold stepH; simp only [hm2, ← hh1, ← hv2]; rw [if_neg hnf, hN]; show ((jumpH h1 x v).map fun h3 => (h3, max (max top m) v)) = _; rw [hJ, htop']; rfl
     refine To.sub [(0, .slice A l.length q), (2, .int .i64 top'), (4, .pointer (some ⟨b4, 0, none⟩)), (6, .func (.func 46) #[] #[.pointer (some ⟨b4, 0, none⟩)]), (27, .slice A l.length q), (28, .int .i64 ((l.length : Nat) : Int)), (29, .int .i64 (((i + 1) : Nat) : Int))] ⟨rfl, rfl, rfl, rfl, rfl, rfl, rfl, trivial⟩ ?_
     refine To.only [2, 2, 2, 2] rfl ?_
     refine To.as [box b4 [.slice Ah h1.length qh] 132, rows encI 3 1 Ah qh h1, ros Ins.cells A l, tabC] (by first | rfl | rw [List.length_set] <;> rfl) ?_
     refine To.again (l.length - (i + 1)) (by omega) ⟨h1, top', i + 1, rfl, rfl, rfl, (by omega), (by omega), hB2, (by rw [hI, goH_step hx, hS]; rfl), (by omega)⟩
    refine FlowS.skip (by decide) rfl rfl rfl rfl ?_
    refine FlowS.skip (by decide) rfl rfl rfl rfl ?_
    refine FlowS.skip (by decide) rfl rfl rfl rfl ?_
    refine FlowS.skip (by decide) rfl rfl rfl rfl ?_
    refine FlowS.skip (by decide) rfl rfl rfl rfl ?_
    refine FlowS.f rfl (Rd.pickF rfl rfl rfl) ?_
    refine FlowS.f rfl (Rd.pickF rfl rfl rfl) ?_
    refine FlowS.fin ?_
    refine To.thenN ?_
    refine To.condF rfl ?_
    refine To.skip (To.thenN (To.seq ?_))
    refine To.flow [] [⟨1, [], 0⟩, ⟨4, [], 0⟩, ⟨7, [], 0⟩, ⟨0, [], 1⟩, ⟨2, [], 1⟩, ⟨3, [], 1⟩, ⟨5, [], 1⟩, ⟨6, [], 0⟩, ⟨8, [], 1⟩, ⟨9, [], 0⟩, ⟨10, [], 0⟩] mixed (by kernel_rfl) (oks_nil _) ?_
    refine FlowS.mo ?_
    refine FlowS.fi fl125_2 ?_
    refine FlowS.fi fl125_3 ?_
    refine FlowS.lo 2 c132 ?_
    refine FlowS.r rfl (Rd.indexRows (i := 3) (j := i) rfl rfl rfl s132 rfl hy1) ?_
    refine FlowS.r rfl (Rd.load (i := 3) rfl rfl c3 rfl (gives_1 (rows_gives encI_ok hy1) rfl)) ?_
    refine FlowS.lo 0 c3 ?_
    refine FlowS.f rfl (Rd.sub64 rfl rfl rfl (by omega)) ?_
    refine FlowS.lo 0 c3 ?_
    refine FlowS.f rfl (Rd.add64 rfl rfl rfl (by omega)) ?_
    refine FlowS.f rfl (Rd.assign rfl rfl) ?_
    refine FlowS.fin ?_
    refine To.thenN (To.seq ?_)
    refine To.as [box b9 [.string (rowOf x.op).text, .string (rowOf x.op).uses, .int .i64 (popsN x), .int .i64 ((rowOf x.op).pushes)] 125, box b8 [.int .u8 ((x.op : Nat) : Int), .int .i64 x.a, .int .i64 x.b, .int .i64 x.n] 64, box b4 [.slice Ah h1.length qh] 132, rows encI 3 1 Ah qh h1, ros Ins.cells A l, tabC] rfl ?_
    obtain ⟨v, hv⟩ : ∃ z0, z0 = ((m - (popsN x)) + ((rowOf x.op).pushes)) := ⟨_, rfl⟩
    rw [← hv]
    have hv2 : v = aftH m x := by rw [hv, aftH]
    have hvb : 0 ≤ v ∧ v ≤ i + 1 := by omega
    refine To.reg (To.m ?_)
    refine To.lo 2 c132 ?_
    refine To.m ?_
    refine To.r (Rd.indexRows (i := 3) (j := i) rfl rfl rfl s132 rfl hy1) ?_
    refine To.r (Rd.load (i := 3) rfl rfl c3 rfl (gives_1 (rows_gives encI_ok hy1) rfl)) ?_
    refine To.m ?_
    refine To.r (Rd.max3 rfl rfl rfl rfl) ?_
    refine To.a (To.nil ?_)
    refine To.sub [(0, .slice A l.length q), (2, .int .i64 (max (max top m) v)), (4, .pointer (some ⟨b4, 0, none⟩)), (6, .func (.func 46) #[] #[.pointer (some ⟨b4, 0, none⟩)]), (27, .slice A l.length q), (28, .int .i64 ((l.length : Nat) : Int)), (29, .int .i64 ((i : Nat) : Int)), (30, .bool (decide (((i : Nat) : Int) < ((l.length : Nat) : Int)))), (8, .pointer (some ⟨b8, 0, none⟩)), (7, .int .i64 ((i : Nat) : Int)), (9, .pointer (some ⟨b9, 0, none⟩)), (52, .bool true), (77, .bool false), (10, .int .i64 v)] ⟨rfl, rfl, rfl, rfl, rfl, rfl, rfl, rfl, rfl, rfl, rfl, rfl, rfl, rfl, trivial⟩ ?_
    refine To.thenN (To.seq (To.seq ?_))
    obtain ⟨y2, hy2⟩ : ∃ z0, h1[i + 1]? = some z0 := ⟨h1[i + 1]'(by omega), List.getElem?_eq_getElem _⟩
    refine To.as [box b9 [.string (rowOf x.op).text, .string (rowOf x.op).uses, .int .i64 (popsN x), .int .i64 ((rowOf x.op).pushes)] 125, box b8 [.int .u8 ((x.op : Nat) : Int), .int .i64 x.a, .int .i64 x.b, .int .i64 x.n] 64, box b4 [.slice Ah h1.length qh] 132, rows encI 3 1 Ah qh h1, ros Ins.cells A l, tabC] rfl ?_
    obtain ⟨top', htop'⟩ : ∃ z0, z0 = (max (max top m) v) := ⟨_, rfl⟩
    rw [← htop']
    refine To.reg ?_
    refine To.f fl64_0 ?_
    refine To.lo 1 c62 ?_
    refine To.r (Rd.neq rfl rfl rfl) ?_
    refine To.rdP rfl rfl rfl (Rd.move rfl rfl) (fun g98 => ?_) (fun g98 => ?_)
    ·
     refine To.f fl64_0 ?_
     refine To.lo 1 c62 ?_
     refine To.r (Rd.neq rfl rfl rfl) ?_
     refine To.r (Rd.pickT rfl rfl rfl) ?_
     refine To.rdP rfl rfl rfl (Rd.move rfl rfl) (fun g103 => ?_) (fun g103 => ?_)
     ·
      refine To.m ?_
      refine To.m ?_
      refine To.r (Rd.inc rfl rfl rfl (by omega)) ?_
      refine To.m ?_
      refine To.call [2, 2] rfl rfl rfl (Ent.func (first := []) (captured := [.pointer (some ⟨b4, 0, none⟩)]) rfl rfl rfl ca46) rfl (set_fn b4 Ah qh h1 (i + 1) v y2 hy2) ?_
      rintro _ _ ⟨rfl, rfl⟩
      refine To.r (Rd.not rfl rfl) ?_
      refine To.r (Rd.pickT rfl rfl rfl) ?_
      refine To.nil (To.thenN ?_)
      refine To.cond rfl (fun c110 => ?_) (fun c110 => ?_)
      ·
       refine To.seq (To.reg (To.a ?_))
       refine To.a (To.nil (To.thenN (To.ret (To.thenR (To.blockR (To.thenR (To.thenR (To.blockR (To.thenR ?_)))))))))
       refine To.end2 (.inl rfl) Tryz.results18 rfl rfl ?_
       have hm2 : max (h.getD i 0) 0 = m := by rw [getD_of hy, hm]
       have hnf : ¬ (m < popsN x ∨ (((x.op : Nat) : Int) = 34 ∧ m ≠ 0)) := by omega
       have hN : nextH h1 i x v = none := by rw [nextH, if_pos (by omega), getD_of hy2, if_neg (by simpa using c110)]
       rw [heights_none (by rw [hI, goH_step hx, show stepH h top i x = none from (by unfold stepH; simp only [hm2, ← hh1, ← hv2]; rw [if_neg hnf, hN]; rfl)]; rfl)]
      refine To.skip (To.thenN (To.seq ?_))
      have hnf : ¬ (m < popsN x ∨ (((x.op : Nat) : Int) = 34 ∧ m ≠ 0)) := by omega
      refine To.as [box b4 [.slice Ah h1.length qh] 132, rows encI 3 1 Ah qh (h1.set (i + 1) v), box b9 [.string (rowOf x.op).text, .string (rowOf x.op).uses, .int .i64 (popsN x), .int .i64 ((rowOf x.op).pushes)] 125, box b8 [.int .u8 ((x.op : Nat) : Int), .int .i64 x.a, .int .i64 x.b, .int .i64 x.n] 64, ros Ins.cells A l, tabC] rfl ?_
      obtain ⟨h2, hh2⟩ : ∃ z0, z0 = (h1.set (i + 1) v) := ⟨_, rfl⟩
      rw [← hh2]
      have hlh2 : h2.length = h1.length := by rw [hh2]; rw [List.length_set]
      rw [← hlh2]
      have hN : nextH h1 i x v = some h2 := by rw [nextH, if_pos (by omega), getD_of hy2, if_pos (by simpa using c110), hh2]
      have hB2 : ∀ y0 ∈ h2, (-1 : Int) ≤ y0 ∧ y0 ≤ ((i + 1 : Nat) : Int) := by rw [hh2]; exact all_set (fun y0 h0 => by have := hB1 y0 h0; omega) (by omega)
      refine To.reg ?_
      refine To.r (Rd.loadS (i := 3) rfl rfl r64 rfl box_whole rfl) ?_
      refine To.callV rfl rfl rfl (Ent.fn rfl rfl ca45) (tgt_fn x) rfl (oks_nil _) ?_
      refine To.m ?_
      refine To.r (Rd.extract rfl rfl rfl) ?_
      refine To.r (Rd.extract rfl rfl rfl) ?_
      refine To.a ?_
      refine To.a (To.nil (To.thenN (To.seq ?_)))
      refine To.as [box b4 [.slice Ah h2.length qh] 132, rows encI 3 1 Ah qh h2, box b9 [.string (rowOf x.op).text, .string (rowOf x.op).uses, .int .i64 (popsN x), .int .i64 ((rowOf x.op).pushes)] 125, box b8 [.int .u8 ((x.op : Nat) : Int), .int .i64 x.a, .int .i64 x.b, .int .i64 x.n] 64, ros Ins.cells A l, tabC] rfl ?_
      obtain ⟨tn, htn⟩ : ∃ tn : Nat, (tgt x).getD 0 = ((tn : Nat) : Int) := ⟨((tgt x).getD 0).toNat, by omega⟩
      rw [htn]
      obtain ⟨y3, hy3⟩ : ∃ z0, h2[tn]? = some z0 := ⟨h2[tn]'(by omega), List.getElem?_eq_getElem _⟩
      have htn2 : ((tgt x).getD 0).toNat = tn := by omega
      refine To.reg (To.m ?_)
      refine To.rdB rfl rfl rfl (Rd.move rfl rfl) (fun g117 => ?_) (fun g117 => ?_)
      ·
       refine To.m ?_
       refine To.m ?_
       refine To.m ?_
       refine To.call [0, 0] rfl rfl rfl (Ent.func (first := []) (captured := [.pointer (some ⟨b4, 0, none⟩)]) rfl rfl rfl ca46) rfl (set_fn b4 Ah qh h2 tn v y3 hy3) ?_
       rintro _ _ ⟨rfl, rfl⟩
       refine To.r (Rd.not rfl rfl) ?_
       refine To.r (Rd.pickT rfl rfl rfl) ?_
       refine To.nil (To.thenN ?_)
       refine To.cond rfl (fun c123 => ?_) (fun c123 => ?_)
       ·
        refine To.seq (To.reg (To.a ?_))
        refine To.a (To.nil (To.thenN (To.ret (To.blockR (To.thenR (To.thenR (To.blockR (To.thenR ?_))))))))
        refine To.end2 (.inl rfl) Tryz.results18 rfl rfl ?_
        have hm2 : max (h.getD i 0) 0 = m := by rw [getD_of hy, hm]
        have hJ : jumpH h2 x v = none := by rw [jumpH, if_pos (by assumption), htn2, getD_of hy3, if_neg (by simpa using c123)]
        rw [heights_none (by rw [hI, goH_step hx, show stepH h top i x = none from (by unfold stepH; simp only [hm2, ← hh1, ← hv2]; rw [if_neg hnf, hN]; simp [hJ])]; rfl)]
       refine To.skip (To.blockN (To.thenN (To.reg ?_)))
       refine To.r (Rd.inc rfl rfl rfl (by omega)) ?_
       refine To.m (To.nil (To.thenN ?_))
       have hm2 : max (h.getD i 0) 0 = m := by rw [getD_of hy, hm]
       have hJ : jumpH h2 x v = some (h2.set tn v) := by rw [jumpH, if_pos (by assumption), htn2, getD_of hy3, if_pos (by simpa using c123)]
       have hS : stepH h top i x = some ((h2.set tn v), top') := by
         unfold stepH; simp only [hm2, ← hh1, ← hv2]; rw [if_neg hnf, hN]; show ((jumpH h2 x v).map fun h3 => (h3, max (max top m) v)) = _; rw [hJ, htop']; rfl
       refine To.sub [(0, .slice A l.length q), (2, .int .i64 top'), (4, .pointer (some ⟨b4, 0, none⟩)), (6, .func (.func 46) #[] #[.pointer (some ⟨b4, 0, none⟩)]), (27, .slice A l.length q), (28, .int .i64 ((l.length : Nat) : Int)), (29, .int .i64 (((i + 1) : Nat) : Int))] ⟨rfl, rfl, rfl, rfl, rfl, rfl, rfl, trivial⟩ ?_
       refine To.only [0, 0, 2, 2] rfl ?_
       refine To.as [box b4 [.slice Ah (h2.set tn v).length qh] 132, rows encI 3 1 Ah qh (h2.set tn v), ros Ins.cells A l, tabC] (by first | rfl | rw [List.length_set] <;> rfl) ?_
       refine To.again (l.length - (i + 1)) (by omega) ⟨(h2.set tn v), top', i + 1, rfl, rfl, rfl, (by omega), (by rw [List.length_set]; omega), (all_set (fun y0 h0 => by have := hB2 y0 h0; omega) (by omega)), (by rw [hI, goH_step hx, hS]; rfl), (by omega)⟩
      refine To.k ?_
      refine To.k ?_
      refine To.k ?_
      refine To.k ?_
      refine To.k ?_
      refine To.r (Rd.pickF rfl rfl rfl) ?_
      refine To.nil (To.thenN ?_)
      refine To.condF rfl ?_
      refine To.skip (To.blockN (To.thenN (To.reg ?_)))
      refine To.r (Rd.inc rfl rfl rfl (by omega)) ?_
      refine To.m (To.nil (To.thenN ?_))
      have hm2 : max (h.getD i 0) 0 = m := by rw [getD_of hy, hm]
      have hJ : jumpH h2 x v = some h2 := by rw [jumpH, if_neg (by simp [g117])]
      have hS : stepH h top i x = some (h2, top') := by
        unfold stepH; simp only [hm2, ← hh1, ← hv2]; rw [if_neg hnf, hN]; show ((jumpH h2 x v).map fun h3 => (h3, max (max top m) v)) = _; rw [hJ, htop']; rfl
      refine To.sub [(0, .slice A l.length q), (2, .int .i64 top'), (4, .pointer (some ⟨b4, 0, none⟩)), (6, .func (.func 46) #[] #[.pointer (some ⟨b4, 0, none⟩)]), (27, .slice A l.length q), (28, .int .i64 ((l.length : Nat) : Int)), (29, .int .i64 (((i + 1) : Nat) : Int))] ⟨rfl, rfl, rfl, rfl, rfl, rfl, rfl, trivial⟩ ?_
      refine To.only [0, 0, 2, 2] rfl ?_
      refine To.as [box b4 [.slice Ah h2.length qh] 132, rows encI 3 1 Ah qh h2, ros Ins.cells A l, tabC] (by first | rfl | rw [List.length_set] <;> rfl) ?_
      refine To.again (l.length - (i + 1)) (by omega) ⟨h2, top', i + 1, rfl, rfl, rfl, (by omega), (by omega), hB2, (by rw [hI, goH_step hx, hS]; rfl), (by omega)⟩
     refine To.k ?_
     refine To.k ?_
     refine To.k ?_
     refine To.k ?_
     refine To.k ?_
     refine To.k ?_
     refine To.r (Rd.pickF rfl rfl rfl) ?_
     refine To.nil (To.thenN ?_)
     refine To.condF rfl ?_
     refine To.skip (To.thenN (To.seq ?_))
     have hnf : ¬ (m < popsN x ∨ (((x.op : Nat) : Int) = 34 ∧ m ≠ 0)) := by omega
     have hN : nextH h1 i x v = some h1 := by rw [nextH, if_neg (by omega)]
     have hB2 : ∀ y0 ∈ h1, (-1 : Int) ≤ y0 ∧ y0 ≤ ((i + 1 : Nat) : Int) := fun y0 h0 => by have := hB1 y0 h0; omega
     refine To.reg ?_
     refine To.r (Rd.loadS (i := 1) rfl rfl r64 rfl box_whole rfl) ?_
     refine To.callV rfl rfl rfl (Ent.fn rfl rfl ca45) (tgt_fn x) rfl (oks_nil _) ?_
     refine To.m ?_
     refine To.r (Rd.extract rfl rfl rfl) ?_
     refine To.r (Rd.extract rfl rfl rfl) ?_
     refine To.a ?_
     refine To.a (To.nil (To.thenN (To.seq ?_)))
     refine To.as [box b9 [.string (rowOf x.op).text, .string (rowOf x.op).uses, .int .i64 (popsN x), .int .i64 ((rowOf x.op).pushes)] 125, box b8 [.int .u8 ((x.op : Nat) : Int), .int .i64 x.a, .int .i64 x.b, .int .i64 x.n] 64, box b4 [.slice Ah h1.length qh] 132, rows encI 3 1 Ah qh h1, ros Ins.cells A l, tabC] rfl ?_
     obtain ⟨tn, htn⟩ : ∃ tn : Nat, (tgt x).getD 0 = ((tn : Nat) : Int) := ⟨((tgt x).getD 0).toNat, by omega⟩
     rw [htn]
     obtain ⟨y3, hy3⟩ : ∃ z0, h1[tn]? = some z0 := ⟨h1[tn]'(by omega), List.getElem?_eq_getElem _⟩
     have htn2 : ((tgt x).getD 0).toNat = tn := by omega
     refine To.reg (To.m ?_)
     refine To.rdB rfl rfl rfl (Rd.move rfl rfl) (fun g117 => ?_) (fun g117 => ?_)
     ·
      refine To.m ?_
      refine To.m ?_
      refine To.m ?_
      refine To.call [2, 2] rfl rfl rfl (Ent.func (first := []) (captured := [.pointer (some ⟨b4, 0, none⟩)]) rfl rfl rfl ca46) rfl (set_fn b4 Ah qh h1 tn v y3 hy3) ?_
      rintro _ _ ⟨rfl, rfl⟩
      refine To.r (Rd.not rfl rfl) ?_
      refine To.r (Rd.pickT rfl rfl rfl) ?_
      refine To.nil (To.thenN ?_)
      refine To.cond rfl (fun c123 => ?_) (fun c123 => ?_)
      ·
       refine To.seq (To.reg (To.a ?_))
       refine To.a (To.nil (To.thenN (To.ret (To.blockR (To.thenR (To.thenR (To.blockR (To.thenR ?_))))))))
       refine To.end2 (.inl rfl) Tryz.results18 rfl rfl ?_
       have hm2 : max (h.getD i 0) 0 = m := by rw [getD_of hy, hm]
       have hJ : jumpH h1 x v = none := by rw [jumpH, if_pos (by assumption), htn2, getD_of hy3, if_neg (by simpa using c123)]
       rw [heights_none (by rw [hI, goH_step hx, show stepH h top i x = none from (by unfold stepH; simp only [hm2, ← hh1, ← hv2]; rw [if_neg hnf, hN]; simp [hJ])]; rfl)]
      refine To.skip (To.blockN (To.thenN (To.reg ?_)))
      refine To.r (Rd.inc rfl rfl rfl (by omega)) ?_
      refine To.m (To.nil (To.thenN ?_))
      have hm2 : max (h.getD i 0) 0 = m := by rw [getD_of hy, hm]
      have hJ : jumpH h1 x v = some (h1.set tn v) := by rw [jumpH, if_pos (by assumption), htn2, getD_of hy3, if_pos (by simpa using c123)]
      have hS : stepH h top i x = some ((h1.set tn v), top') := by
        unfold stepH; simp only [hm2, ← hh1, ← hv2]; rw [if_neg hnf, hN]; show ((jumpH h1 x v).map fun h3 => (h3, max (max top m) v)) = _; rw [hJ, htop']; rfl
      refine To.sub [(0, .slice A l.length q), (2, .int .i64 top'), (4, .pointer (some ⟨b4, 0, none⟩)), (6, .func (.func 46) #[] #[.pointer (some ⟨b4, 0, none⟩)]), (27, .slice A l.length q), (28, .int .i64 ((l.length : Nat) : Int)), (29, .int .i64 (((i + 1) : Nat) : Int))] ⟨rfl, rfl, rfl, rfl, rfl, rfl, rfl, trivial⟩ ?_
      refine To.only [0, 0, 2, 2] rfl ?_
      refine To.as [box b4 [.slice Ah (h1.set tn v).length qh] 132, rows encI 3 1 Ah qh (h1.set tn v), ros Ins.cells A l, tabC] (by first | rfl | rw [List.length_set] <;> rfl) ?_
      refine To.again (l.length - (i + 1)) (by omega) ⟨(h1.set tn v), top', i + 1, rfl, rfl, rfl, (by omega), (by rw [List.length_set]; omega), (all_set (fun y0 h0 => by have := hB2 y0 h0; omega) (by omega)), (by rw [hI, goH_step hx, hS]; rfl), (by omega)⟩
     refine To.k ?_
     refine To.k ?_
     refine To.k ?_
     refine To.k ?_
     refine To.k ?_
     refine To.r (Rd.pickF rfl rfl rfl) ?_
     refine To.nil (To.thenN ?_)
     refine To.condF rfl ?_
     refine To.skip (To.blockN (To.thenN (To.reg ?_)))
     refine To.r (Rd.inc rfl rfl rfl (by omega)) ?_
     refine To.m (To.nil (To.thenN ?_))
     have hm2 : max (h.getD i 0) 0 = m := by rw [getD_of hy, hm]
     have hJ : jumpH h1 x v = some h1 := by rw [jumpH, if_neg (by simp [g117])]
     have hS : stepH h top i x = some (h1, top') := by
       unfold stepH; simp only [hm2, ← hh1, ← hv2]; rw [if_neg hnf, hN]; show ((jumpH h1 x v).map fun h3 => (h3, max (max top m) v)) = _; rw [hJ, htop']; rfl
     refine To.sub [(0, .slice A l.length q), (2, .int .i64 top'), (4, .pointer (some ⟨b4, 0, none⟩)), (6, .func (.func 46) #[] #[.pointer (some ⟨b4, 0, none⟩)]), (27, .slice A l.length q), (28, .int .i64 ((l.length : Nat) : Int)), (29, .int .i64 (((i + 1) : Nat) : Int))] ⟨rfl, rfl, rfl, rfl, rfl, rfl, rfl, trivial⟩ ?_
     refine To.only [2, 2, 2, 2] rfl ?_
     refine To.as [box b4 [.slice Ah h1.length qh] 132, rows encI 3 1 Ah qh h1, ros Ins.cells A l, tabC] (by first | rfl | rw [List.length_set] <;> rfl) ?_
     refine To.again (l.length - (i + 1)) (by omega) ⟨h1, top', i + 1, rfl, rfl, rfl, (by omega), (by omega), hB2, (by rw [hI, goH_step hx, hS]; rfl), (by omega)⟩
    refine To.k ?_
    refine To.k ?_
    refine To.k ?_
    refine To.r (Rd.pickF rfl rfl rfl) ?_
    refine To.m ?_
    refine To.k ?_
    refine To.k ?_
    refine To.k ?_
    refine To.k ?_
    refine To.k ?_
    refine To.k ?_
    refine To.r (Rd.pickF rfl rfl rfl) ?_
    refine To.nil (To.thenN ?_)
    refine To.condF rfl ?_
    refine To.skip (To.thenN (To.seq ?_))
    have hnf : ¬ (m < popsN x ∨ (((x.op : Nat) : Int) = 34 ∧ m ≠ 0)) := by omega
    have hN : nextH h1 i x v = some h1 := by rw [nextH, if_neg (by omega)]
    have hB2 : ∀ y0 ∈ h1, (-1 : Int) ≤ y0 ∧ y0 ≤ ((i + 1 : Nat) : Int) := fun y0 h0 => by have := hB1 y0 h0; omega
    refine To.reg ?_
    refine To.r (Rd.loadS (i := 1) rfl rfl r64 rfl box_whole rfl) ?_
    refine To.callV rfl rfl rfl (Ent.fn rfl rfl ca45) (tgt_fn x) rfl (oks_nil _) ?_
    refine To.m ?_
    refine To.r (Rd.extract rfl rfl rfl) ?_
    refine To.r (Rd.extract rfl rfl rfl) ?_
    refine To.a ?_
    refine To.a (To.nil (To.thenN (To.seq ?_)))
    refine To.as [box b9 [.string (rowOf x.op).text, .string (rowOf x.op).uses, .int .i64 (popsN x), .int .i64 ((rowOf x.op).pushes)] 125, box b8 [.int .u8 ((x.op : Nat) : Int), .int .i64 x.a, .int .i64 x.b, .int .i64 x.n] 64, box b4 [.slice Ah h1.length qh] 132, rows encI 3 1 Ah qh h1, ros Ins.cells A l, tabC] rfl ?_
    obtain ⟨tn, htn⟩ : ∃ tn : Nat, (tgt x).getD 0 = ((tn : Nat) : Int) := ⟨((tgt x).getD 0).toNat, by omega⟩
    rw [htn]
    obtain ⟨y3, hy3⟩ : ∃ z0, h1[tn]? = some z0 := ⟨h1[tn]'(by omega), List.getElem?_eq_getElem _⟩
    have htn2 : ((tgt x).getD 0).toNat = tn := by omega
    refine To.reg (To.m ?_)
    refine To.rdB rfl rfl rfl (Rd.move rfl rfl) (fun g117 => ?_) (fun g117 => ?_)
    ·
     refine To.m ?_
     refine To.m ?_
     refine To.m ?_
     refine To.call [2, 2] rfl rfl rfl (Ent.func (first := []) (captured := [.pointer (some ⟨b4, 0, none⟩)]) rfl rfl rfl ca46) rfl (set_fn b4 Ah qh h1 tn v y3 hy3) ?_
     rintro _ _ ⟨rfl, rfl⟩
     refine To.r (Rd.not rfl rfl) ?_
     refine To.r (Rd.pickT rfl rfl rfl) ?_
     refine To.nil (To.thenN ?_)
     refine To.cond rfl (fun c123 => ?_) (fun c123 => ?_)
     ·
      refine To.seq (To.reg (To.a ?_))
      refine To.a (To.nil (To.thenN (To.ret (To.blockR (To.thenR (To.thenR (To.blockR (To.thenR ?_))))))))
      refine To.end2 (.inl rfl) Tryz.results18 rfl rfl ?_
      have hm2 : max (h.getD i 0) 0 = m := by rw [getD_of hy, hm]
      have hJ : jumpH h1 x v = none := by rw [jumpH, if_pos (by assumption), htn2, getD_of hy3, if_neg (by simpa using c123)]
      rw [heights_none (by rw [hI, goH_step hx, show stepH h top i x = none from (by unfold stepH; simp only [hm2, ← hh1, ← hv2]; rw [if_neg hnf, hN]; simp [hJ])]; rfl)]
     refine To.skip (To.blockN (To.thenN (To.reg ?_)))
     refine To.r (Rd.inc rfl rfl rfl (by omega)) ?_
     refine To.m (To.nil (To.thenN ?_))
     have hm2 : max (h.getD i 0) 0 = m := by rw [getD_of hy, hm]
     have hJ : jumpH h1 x v = some (h1.set tn v) := by rw [jumpH, if_pos (by assumption), htn2, getD_of hy3, if_pos (by simpa using c123)]
     have hS : stepH h top i x = some ((h1.set tn v), top') := by
       unfold stepH; simp only [hm2, ← hh1, ← hv2]; rw [if_neg hnf, hN]; show ((jumpH h1 x v).map fun h3 => (h3, max (max top m) v)) = _; rw [hJ, htop']; rfl
     refine To.sub [(0, .slice A l.length q), (2, .int .i64 top'), (4, .pointer (some ⟨b4, 0, none⟩)), (6, .func (.func 46) #[] #[.pointer (some ⟨b4, 0, none⟩)]), (27, .slice A l.length q), (28, .int .i64 ((l.length : Nat) : Int)), (29, .int .i64 (((i + 1) : Nat) : Int))] ⟨rfl, rfl, rfl, rfl, rfl, rfl, rfl, trivial⟩ ?_
     refine To.only [0, 0, 2, 2] rfl ?_
     refine To.as [box b4 [.slice Ah (h1.set tn v).length qh] 132, rows encI 3 1 Ah qh (h1.set tn v), ros Ins.cells A l, tabC] (by first | rfl | rw [List.length_set] <;> rfl) ?_
     refine To.again (l.length - (i + 1)) (by omega) ⟨(h1.set tn v), top', i + 1, rfl, rfl, rfl, (by omega), (by rw [List.length_set]; omega), (all_set (fun y0 h0 => by have := hB2 y0 h0; omega) (by omega)), (by rw [hI, goH_step hx, hS]; rfl), (by omega)⟩
    refine To.k ?_
    refine To.k ?_
    refine To.k ?_
    refine To.k ?_
    refine To.k ?_
    refine To.r (Rd.pickF rfl rfl rfl) ?_
    refine To.nil (To.thenN ?_)
    refine To.condF rfl ?_
    refine To.skip (To.blockN (To.thenN (To.reg ?_)))
    refine To.r (Rd.inc rfl rfl rfl (by omega)) ?_
    refine To.m (To.nil (To.thenN ?_))
    have hm2 : max (h.getD i 0) 0 = m := by rw [getD_of hy, hm]
    have hJ : jumpH h1 x v = some h1 := by rw [jumpH, if_neg (by simp [g117])]
    have hS : stepH h top i x = some (h1, top') := by
      unfold stepH; simp only [hm2, ← hh1, ← hv2]; rw [if_neg hnf, hN]; show ((jumpH h1 x v).map fun h3 => (h3, max (max top m) v)) = _; rw [hJ, htop']; rfl
    refine To.sub [(0, .slice A l.length q), (2, .int .i64 top'), (4, .pointer (some ⟨b4, 0, none⟩)), (6, .func (.func 46) #[] #[.pointer (some ⟨b4, 0, none⟩)]), (27, .slice A l.length q), (28, .int .i64 ((l.length : Nat) : Int)), (29, .int .i64 (((i + 1) : Nat) : Int))] ⟨rfl, rfl, rfl, rfl, rfl, rfl, rfl, trivial⟩ ?_
    refine To.only [2, 2, 2, 2] rfl ?_
    refine To.as [box b4 [.slice Ah h1.length qh] 132, rows encI 3 1 Ah qh h1, ros Ins.cells A l, tabC] (by first | rfl | rw [List.length_set] <;> rfl) ?_
    refine To.again (l.length - (i + 1)) (by omega) ⟨h1, top', i + 1, rfl, rfl, rfl, (by omega), (by omega), hB2, (by rw [hI, goH_step hx, hS]; rfl), (by omega)⟩
   refine To.f fl64_0 ?_
   refine To.lo 1 c62 ?_
   refine To.r (Rd.eql rfl rfl rfl) ?_
   refine To.r (Rd.pickF rfl rfl rfl) ?_
   refine To.nil (To.thenN ?_)
   refine To.condP rfl (fun c52 => ?_) (fun c52 => ?_)
   ·
    refine To.reg ?_
    refine To.f fl125_2 ?_
    refine To.lo 0 c3 ?_
    refine To.f fl64_3 ?_
    refine To.lo 1 c2 ?_
    refine To.r (Rd.add64 rfl rfl rfl (by omega)) ?_
    refine To.f fl125_2 ?_
    refine To.u (Up.store (i := 0) rfl rfl rfl c3 rfl rfl (box_takes1 rfl)) ?_
    refine To.nil (To.thenN (To.seq (To.seq ?_)))
    have hpn : ((rowOf x.op).pops) + x.n = popsN x := by unfold popsN; rw [if_pos (by omega)]
    refine To.as [box b9 [.string (rowOf x.op).text, .string (rowOf x.op).uses, .int .i64 (((rowOf x.op).pops) + x.n), .int .i64 ((rowOf x.op).pushes)] 125, box b8 [.int .u8 ((x.op : Nat) : Int), .int .i64 x.a, .int .i64 x.b, .int .i64 x.n] 64, box b4 [.slice Ah h1.length qh] 132, rows encI 3 1 Ah qh h1, ros Ins.cells A l, tabC] rfl ?_
    rw [hpn]
    have hpb2 : 0 ≤ popsN x ∧ popsN x ≤ 6 := by omega
    refine To.flow [] [⟨1, [], 0⟩, ⟨4, [], 0⟩, ⟨0, [], 1⟩, ⟨2, [], 1⟩, ⟨3, [], 1⟩, ⟨5, [], 1⟩, ⟨6, [], 0⟩, ⟨7, [], 0⟩, ⟨8, [], 0⟩, ⟨9, [], 1⟩, ⟨10, [], 0⟩, ⟨11, [], 0⟩, ⟨13, [], 0⟩, ⟨12, [], 1⟩, ⟨14, [], 1⟩, ⟨15, [], 1⟩, ⟨16, [], 0⟩, ⟨17, [], 0⟩, ⟨18, [], 0⟩] mixed (by kernel_rfl) (oks_nil _) ?_
    refine FlowS.mo ?_
    refine FlowS.fi fl125_2 ?_
    refine FlowS.lo 2 c132 ?_
    refine FlowS.r rfl (Rd.indexRows (i := 3) (j := i) rfl rfl rfl s132 rfl hy1) ?_
    refine FlowS.r rfl (Rd.load (i := 3) rfl rfl c3 rfl (gives_1 (rows_gives encI_ok hy1) rfl)) ?_
    refine FlowS.lo 0 c3 ?_
    refine FlowS.f rfl (Rd.lss rfl rfl rfl) ?_
    refine FlowS.rdP rfl rfl rfl rfl (Rd.move rfl rfl) (fun g66 => ?_) (fun g66 => ?_)
    ·
     refine FlowS.skip (by decide) rfl rfl rfl rfl ?_
     refine FlowS.skip (by decide) rfl rfl rfl rfl ?_
     refine FlowS.skip (by decide) rfl rfl rfl rfl ?_
     refine FlowS.skip (by decide) rfl rfl rfl rfl ?_
     refine FlowS.skip (by decide) rfl rfl rfl rfl ?_
     refine FlowS.skip (by decide) rfl rfl rfl rfl ?_
     refine FlowS.skip (by decide) rfl rfl rfl rfl ?_
     refine FlowS.skip (by decide) rfl rfl rfl rfl ?_
     refine FlowS.skip (by decide) rfl rfl rfl rfl ?_
     refine FlowS.skip (by decide) rfl rfl rfl rfl ?_
     refine FlowS.f rfl (Rd.pickT rfl rfl rfl) ?_
     refine FlowS.fin ?_
     refine To.thenN ?_
     refine To.condT rfl ?_
     refine To.seq (To.reg (To.a ?_))
     refine To.a (To.nil (To.thenN (To.ret (To.thenR (To.blockR (To.thenR (To.thenR (To.blockR (To.thenR ?_)))))))))
     refine To.end2 (.inl rfl) Tryz.results18 rfl rfl ?_
     have hm2 : max (h.getD i 0) 0 = m := by rw [getD_of hy, hm]
     rw [heights_none (by rw [hI, goH_step hx, show stepH h top i x = none from (by unfold stepH; simp only [hm2]; rw [if_pos (by omega)])]; rfl)]
    refine FlowS.fi fl64_0 ?_
    refine FlowS.lo 1 c62 ?_
    refine FlowS.f rfl (Rd.eql rfl rfl rfl) ?_
    refine FlowS.rdP rfl rfl rfl rfl (Rd.move rfl rfl) (fun g70 => ?_) (fun g70 => ?_)
    ·
     refine FlowS.mo ?_
     refine FlowS.lo 2 c132 ?_
     refine FlowS.r rfl (Rd.indexRows (i := 3) (j := i) rfl rfl rfl s132 rfl hy1) ?_
     refine FlowS.r rfl (Rd.load (i := 3) rfl rfl c3 rfl (gives_1 (rows_gives encI_ok hy1) rfl)) ?_
     refine FlowS.f rfl (Rd.neq rfl rfl rfl) ?_
     refine FlowS.f rfl (Rd.pickT rfl rfl rfl) ?_
     refine FlowS.f rfl (Rd.pickF rfl rfl rfl) ?_
     refine FlowS.fin ?_
     refine To.thenN ?_
     refine To.condP rfl (fun c77 => ?_) (fun c77 => ?_)
     ·
      refine To.seq (To.reg (To.a ?_))
      refine To.a (To.nil (To.thenN (To.ret (To.thenR (To.blockR (To.thenR (To.thenR (To.blockR (To.thenR ?_)))))))))
      refine To.end2 (.inl rfl) Tryz.results18 rfl rfl ?_
      have hm2 : max (h.getD i 0) 0 = m := by rw [getD_of hy, hm]
      rw [heights_none (by rw [hI, goH_step hx, show stepH h top i x = none from (by unfold stepH; simp only [hm2]; rw [if_pos (by omega)])]; rfl)]
     refine To.skip (To.thenN (To.seq ?_))
     refine To.flow [] [⟨1, [], 0⟩, ⟨4, [], 0⟩, ⟨7, [], 0⟩, ⟨0, [], 1⟩, ⟨2, [], 1⟩, ⟨3, [], 1⟩, ⟨5, [], 1⟩, ⟨6, [], 0⟩, ⟨8, [], 1⟩, ⟨9, [], 0⟩, ⟨10, [], 0⟩] mixed (by kernel_rfl) (oks_nil _) ?_
     refine FlowS.mo ?_
     refine FlowS.fi fl125_2 ?_
     refine FlowS.fi fl125_3 ?_
     refine FlowS.lo 2 c132 ?_
     refine FlowS.r rfl (Rd.indexRows (i := 3) (j := i) rfl rfl rfl s132 rfl hy1) ?_
     refine FlowS.r rfl (Rd.load (i := 3) rfl rfl c3 rfl (gives_1 (rows_gives encI_ok hy1) rfl)) ?_
     refine FlowS.lo 0 c3 ?_
     refine FlowS.f rfl (Rd.sub64 rfl rfl rfl (by omega)) ?_
     refine FlowS.lo 0 c3 ?_
     refine FlowS.f rfl (Rd.add64 rfl rfl rfl (by omega)) ?_
     refine FlowS.f rfl (Rd.assign rfl rfl) ?_
     refine FlowS.fin ?_
     refine To.thenN (To.seq ?_)
     refine To.as [box b9 [.string (rowOf x.op).text, .string (rowOf x.op).uses, .int .i64 (popsN x), .int .i64 ((rowOf x.op).pushes)] 125, box b8 [.int .u8 ((x.op : Nat) : Int), .int .i64 x.a, .int .i64 x.b, .int .i64 x.n] 64, box b4 [.slice Ah h1.length qh] 132, rows encI 3 1 Ah qh h1, ros Ins.cells A l, tabC] rfl ?_
     obtain ⟨v, hv⟩ : ∃ z0, z0 = ((m - (popsN x)) + ((rowOf x.op).pushes)) := ⟨_, rfl⟩
     rw [← hv]
     have hv2 : v = aftH m x := by rw [hv, aftH]
     have hvb : 0 ≤ v ∧ v ≤ i + 1 := by omega
     refine To.reg (To.m ?_)
     refine To.lo 2 c132 ?_
     refine To.m ?_
     refine To.r (Rd.indexRows (i := 3) (j := i) rfl rfl rfl s132 rfl hy1) ?_
     refine To.r (Rd.load (i := 3) rfl rfl c3 rfl (gives_1 (rows_gives encI_ok hy1) rfl)) ?_
     refine To.m ?_
     refine To.r (Rd.max3 rfl rfl rfl rfl) ?_
     refine To.a (To.nil ?_)
     refine To.sub [(0, .slice A l.length q), (2, .int .i64 (max (max top m) v)), (4, .pointer (some ⟨b4, 0, none⟩)), (6, .func (.func 46) #[] #[.pointer (some ⟨b4, 0, none⟩)]), (27, .slice A l.length q), (28, .int .i64 ((l.length : Nat) : Int)), (29, .int .i64 ((i : Nat) : Int)), (30, .bool (decide (((i : Nat) : Int) < ((l.length : Nat) : Int)))), (8, .pointer (some ⟨b8, 0, none⟩)), (7, .int .i64 ((i : Nat) : Int)), (9, .pointer (some ⟨b9, 0, none⟩)), (52, .bool (decide (((x.op : Nat) : Int) = 31))), (77, .bool (decide (m ≠ 0))), (10, .int .i64 v)] ⟨rfl, rfl, rfl, rfl, rfl, rfl, rfl, rfl, rfl, rfl, rfl, rfl, rfl, rfl, trivial⟩ ?_
     refine To.thenN (To.seq (To.seq ?_))
     obtain ⟨y2, hy2⟩ : ∃ z0, h1[i + 1]? = some z0 := ⟨h1[i + 1]'(by omega), List.getElem?_eq_getElem _⟩
     refine To.as [box b9 [.string (rowOf x.op).text, .string (rowOf x.op).uses, .int .i64 (popsN x), .int .i64 ((rowOf x.op).pushes)] 125, box b8 [.int .u8 ((x.op : Nat) : Int), .int .i64 x.a, .int .i64 x.b, .int .i64 x.n] 64, box b4 [.slice Ah h1.length qh] 132, rows encI 3 1 Ah qh h1, ros Ins.cells A l, tabC] rfl ?_
     obtain ⟨top', htop'⟩ : ∃ z0, z0 = (max (max top m) v) := ⟨_, rfl⟩
     rw [← htop']
     refine To.reg ?_
     refine To.f fl64_0 ?_
     refine To.lo 1 c62 ?_
     refine To.r (Rd.neq rfl rfl rfl) ?_
     refine To.rdP rfl rfl rfl (Rd.move rfl rfl) (fun g98 => ?_) (fun g98 => ?_)
     ·
      refine To.f fl64_0 ?_
      refine To.lo 1 c62 ?_
      refine To.r (Rd.neq rfl rfl rfl) ?_
      refine To.r (Rd.pickT rfl rfl rfl) ?_
      refine To.rdP rfl rfl rfl (Rd.move rfl rfl) (fun g103 => ?_) (fun g103 => ?_)
      ·
       refine To.m ?_
       refine To.m ?_
       refine To.r (Rd.inc rfl rfl rfl (by omega)) ?_
       refine To.m ?_
       refine To.call [2, 2] rfl rfl rfl (Ent.func (first := []) (captured := [.pointer (some ⟨b4, 0, none⟩)]) rfl rfl rfl ca46) rfl (set_fn b4 Ah qh h1 (i + 1) v y2 hy2) ?_
       rintro _ _ ⟨rfl, rfl⟩
       refine To.r (Rd.not rfl rfl) ?_
       refine To.r (Rd.pickT rfl rfl rfl) ?_
       refine To.nil (To.thenN ?_)
       refine To.cond rfl (fun c110 => ?_) (fun c110 => ?_)
       ·
        refine To.seq (To.reg (To.a ?_))
        refine To.a (To.nil (To.thenN (To.ret (To.thenR (To.blockR (To.thenR (To.thenR (To.blockR (To.thenR ?_)))))))))
        refine To.end2 (.inl rfl) Tryz.results18 rfl rfl ?_
        have hm2 : max (h.getD i 0) 0 = m := by rw [getD_of hy, hm]
        have hnf : ¬ (m < popsN x ∨ (((x.op : Nat) : Int) = 34 ∧ m ≠ 0)) := by omega
        have hN : nextH h1 i x v = none := by rw [nextH, if_pos (by omega), getD_of hy2, if_neg (by simpa using c110)]
        rw [heights_none (by rw [hI, goH_step hx, show stepH h top i x = none from (by unfold stepH; simp only [hm2, ← hh1, ← hv2]; rw [if_neg hnf, hN]; rfl)]; rfl)]
       refine To.skip (To.thenN (To.seq ?_))
       have hnf : ¬ (m < popsN x ∨ (((x.op : Nat) : Int) = 34 ∧ m ≠ 0)) := by omega
       refine To.as [box b4 [.slice Ah h1.length qh] 132, rows encI 3 1 Ah qh (h1.set (i + 1) v), box b9 [.string (rowOf x.op).text, .string (rowOf x.op).uses, .int .i64 (popsN x), .int .i64 ((rowOf x.op).pushes)] 125, box b8 [.int .u8 ((x.op : Nat) : Int), .int .i64 x.a, .int .i64 x.b, .int .i64 x.n] 64, ros Ins.cells A l, tabC] rfl ?_
       obtain ⟨h2, hh2⟩ : ∃ z0, z0 = (h1.set (i + 1) v) := ⟨_, rfl⟩
       rw [← hh2]
       have hlh2 : h2.length = h1.length := by rw [hh2]; rw [List.length_set]
       rw [← hlh2]
       have hN : nextH h1 i x v = some h2 := by rw [nextH, if_pos (by omega), getD_of hy2, if_pos (by simpa using c110), hh2]
       have hB2 : ∀ y0 ∈ h2, (-1 : Int) ≤ y0 ∧ y0 ≤ ((i + 1 : Nat) : Int) := by rw [hh2]; exact all_set (fun y0 h0 => by have := hB1 y0 h0; omega) (by omega)
       refine To.reg ?_
       refine To.r (Rd.loadS (i := 3) rfl rfl r64 rfl box_whole rfl) ?_
       refine To.callV rfl rfl rfl (Ent.fn rfl rfl ca45) (tgt_fn x) rfl (oks_nil _) ?_
       refine To.m ?_
       refine To.r (Rd.extract rfl rfl rfl) ?_
       refine To.r (Rd.extract rfl rfl rfl) ?_
       refine To.a ?_
       refine To.a (To.nil (To.thenN (To.seq ?_)))
       refine To.as [box b4 [.slice Ah h2.length qh] 132, rows encI 3 1 Ah qh h2, box b9 [.string (rowOf x.op).text, .string (rowOf x.op).uses, .int .i64 (popsN x), .int .i64 ((rowOf x.op).pushes)] 125, box b8 [.int .u8 ((x.op : Nat) : Int), .int .i64 x.a, .int .i64 x.b, .int .i64 x.n] 64, ros Ins.cells A l, tabC] rfl ?_
       obtain ⟨tn, htn⟩ : ∃ tn : Nat, (tgt x).getD 0 = ((tn : Nat) : Int) := ⟨((tgt x).getD 0).toNat, by omega⟩
       rw [htn]
       obtain ⟨y3, hy3⟩ : ∃ z0, h2[tn]? = some z0 := ⟨h2[tn]'(by omega), List.getElem?_eq_getElem _⟩
       have htn2 : ((tgt x).getD 0).toNat = tn := by omega
       refine To.reg (To.m ?_)
       refine To.rdB rfl rfl rfl (Rd.move rfl rfl) (fun g117 => ?_) (fun g117 => ?_)
       ·
        refine To.m ?_
        refine To.m ?_
        refine To.m ?_
        refine To.call [0, 0] rfl rfl rfl (Ent.func (first := []) (captured := [.pointer (some ⟨b4, 0, none⟩)]) rfl rfl rfl ca46) rfl (set_fn b4 Ah qh h2 tn v y3 hy3) ?_
        rintro _ _ ⟨rfl, rfl⟩
        refine To.r (Rd.not rfl rfl) ?_
        refine To.r (Rd.pickT rfl rfl rfl) ?_
        refine To.nil (To.thenN ?_)
        refine To.cond rfl (fun c123 => ?_) (fun c123 => ?_)
        ·
         refine To.seq (To.reg (To.a ?_))
         refine To.a (To.nil (To.thenN (To.ret (To.blockR (To.thenR (To.thenR (To.blockR (To.thenR ?_))))))))
         refine To.end2 (.inl rfl) Tryz.results18 rfl rfl ?_
         have hm2 : max (h.getD i 0) 0 = m := by rw [getD_of hy, hm]
         have hJ : jumpH h2 x v = none := by rw [jumpH, if_pos (by assumption), htn2, getD_of hy3, if_neg (by simpa using c123)]
         rw [heights_none (by rw [hI, goH_step hx, show stepH h top i x = none from (by unfold stepH; simp only [hm2, ← hh1, ← hv2]; rw [if_neg hnf, hN]; simp [hJ])]; rfl)]
        refine To.skip (To.blockN (To.thenN (To.reg ?_)))
        refine To.r (Rd.inc rfl rfl rfl (by omega)) ?_
        refine To.m (To.nil (To.thenN ?_))
        have hm2 : max (h.getD i 0) 0 = m := by rw [getD_of hy, hm]
        have hJ : jumpH h2 x v = some (h2.set tn v) := by rw [jumpH, if_pos (by assumption), htn2, getD_of hy3, if_pos (by simpa using c123)]
        have hS : stepH h top i x = some ((h2.set tn v), top') := by
          unfold stepH; simp only [hm2, ← hh1, ← hv2]; rw [if_neg hnf, hN]; show ((jumpH h2 x v).map fun h3 => (h3, max (max top m) v)) = _; rw [hJ, htop']; rfl
        refine To.sub [(0, .slice A l.length q), (2, .int .i64 top'), (4, .pointer (some ⟨b4, 0, none⟩)), (6, .func (.func 46) #[] #[.pointer (some ⟨b4, 0, none⟩)]), (27, .slice A l.length q), (28, .int .i64 ((l.length : Nat) : Int)), (29, .int .i64 (((i + 1) : Nat) : Int))] ⟨rfl, rfl, rfl, rfl, rfl, rfl, rfl, trivial⟩ ?_
        refine To.only [0, 0, 2, 2] rfl ?_
        refine To.as [box b4 [.slice Ah (h2.set tn v).length qh] 132, rows encI 3 1 Ah qh (h2.set tn v), ros Ins.cells A l, tabC] (by first | rfl | rw [List.length_set] <;> rfl) ?_
        refine To.again (l.length - (i + 1)) (by omega) ⟨(h2.set tn v), top', i + 1, rfl, rfl, rfl, (by omega), (by rw [List.length_set]; omega), (all_set (fun y0 h0 => by have := hB2 y0 h0; omega) (by omega)), (by rw [hI, goH_step hx, hS]; rfl), (by omega)⟩
       refine To.k ?_
       refine To.k ?_
       refine To.k ?_
       refine To.k ?_
       refine To.k ?_
       refine To.r (Rd.pickF rfl rfl rfl) ?_
       refine To.nil (To.thenN ?_)
       refine To.condF rfl ?_
       refine To.skip (To.blockN (To.thenN (To.reg ?_)))
       refine To.r (Rd.inc rfl rfl rfl (by omega)) ?_
       refine To.m (To.nil (To.thenN ?_))
       have hm2 : max (h.getD i 0) 0 = m := by rw [getD_of hy, hm]
       have hJ : jumpH h2 x v = some h2 := by rw [jumpH, if_neg (by simp [g117])]
       have hS : stepH h top i x = some (h2, top') := by
         unfold stepH; simp only [hm2, ← hh1, ← hv2]; rw [if_neg hnf, hN]; show ((jumpH h2 x v).map fun h3 => (h3, max (max top m) v)) = _; rw [hJ, htop']; rfl
       refine To.sub [(0, .slice A l.length q), (2, .int .i64 top'), (4, .pointer (some ⟨b4, 0, none⟩)), (6, .func (.func 46) #[] #[.pointer (some ⟨b4, 0, none⟩)]), (27, .slice A l.length q), (28, .int .i64 ((l.length : Nat) : Int)), (29, .int .i64 (((i + 1) : Nat) : Int))] ⟨rfl, rfl, rfl, rfl, rfl, rfl, rfl, trivial⟩ ?_
       refine To.only [0, 0, 2, 2] rfl ?_
       refine To.as [box b4 [.slice Ah h2.length qh] 132, rows encI 3 1 Ah qh h2, ros Ins.cells A l, tabC] (by first | rfl | rw [List.length_set] <;> rfl) ?_
       refine To.again (l.length - (i + 1)) (by omega) ⟨h2, top', i + 1, rfl, rfl, rfl, (by omega), (by omega), hB2, (by rw [hI, goH_step hx, hS]; rfl), (by omega)⟩
      refine To.k ?_
      refine To.k ?_
      refine To.k ?_
      refine To.k ?_
      refine To.k ?_
      refine To.k ?_
      refine To.r (Rd.pickF rfl rfl rfl) ?_
      refine To.nil (To.thenN ?_)
      refine To.condF rfl ?_
      refine To.skip (To.thenN (To.seq ?_))
      have hnf : ¬ (m < popsN x ∨ (((x.op : Nat) : Int) = 34 ∧ m ≠ 0)) := by omega
      have hN : nextH h1 i x v = some h1 := by rw [nextH, if_neg (by omega)]
      have hB2 : ∀ y0 ∈ h1, (-1 : Int) ≤ y0 ∧ y0 ≤ ((i + 1 : Nat) : Int) := fun y0 h0 => by have := hB1 y0 h0; omega
      refine To.reg ?_
      refine To.r (Rd.loadS (i := 1) rfl rfl r64 rfl box_whole rfl) ?_
      refine To.callV rfl rfl rfl (Ent.fn rfl rfl ca45) (tgt_fn x) rfl (oks_nil _) ?_
      refine To.m ?_
      refine To.r (Rd.extract rfl rfl rfl) ?_
      refine To.r (Rd.extract rfl rfl rfl) ?_
      refine To.a ?_
      refine To.a (To.nil (To.thenN (To.seq ?_)))
      refine To.as [box b9 [.string (rowOf x.op).text, .string (rowOf x.op).uses, .int .i64 (popsN x), .int .i64 ((rowOf x.op).pushes)] 125, box b8 [.int .u8 ((x.op : Nat) : Int), .int .i64 x.a, .int .i64 x.b, .int .i64 x.n] 64, box b4 [.slice Ah h1.length qh] 132, rows encI 3 1 Ah qh h1, ros Ins.cells A l, tabC] rfl ?_
      obtain ⟨tn, htn⟩ : ∃ tn : Nat, (tgt x).getD 0 = ((tn : Nat) : Int) := ⟨((tgt x).getD 0).toNat, by omega⟩
      rw [htn]
      obtain ⟨y3, hy3⟩ : ∃ z0, h1[tn]? = some z0 := ⟨h1[tn]'(by omega), List.getElem?_eq_getElem _⟩
      have htn2 : ((tgt x).getD 0).toNat = tn := by omega
      refine To.reg (To.m ?_)
      refine To.rdB rfl rfl rfl (Rd.move rfl rfl) (fun g117 => ?_) (fun g117 => ?_)
      ·
       refine To.m ?_
       refine To.m ?_
       refine To.m ?_
       refine To.call [2, 2] rfl rfl rfl (Ent.func (first := []) (captured := [.pointer (some ⟨b4, 0, none⟩)]) rfl rfl rfl ca46) rfl (set_fn b4 Ah qh h1 tn v y3 hy3) ?_
       rintro _ _ ⟨rfl, rfl⟩
       refine To.r (Rd.not rfl rfl) ?_
       refine To.r (Rd.pickT rfl rfl rfl) ?_
       refine To.nil (To.thenN ?_)
       refine To.cond rfl (fun c123 => ?_) (fun c123 => ?_)
       ·
        refine To.seq (To.reg (To.a ?_))
        refine To.a (To.nil (To.thenN (To.ret (To.blockR (To.thenR (To.thenR (To.blockR (To.thenR ?_))))))))
        refine To.end2 (.inl rfl) Tryz.results18 rfl rfl ?_
        have hm2 : max (h.getD i 0) 0 = m := by rw [getD_of hy, hm]
        have hJ : jumpH h1 x v = none := by rw [jumpH, if_pos (by assumption), htn2, getD_of hy3, if_neg (by simpa using c123)]
        rw [heights_none (by rw [hI, goH_step hx, show stepH h top i x = none from (by unfold stepH; simp only [hm2, ← hh1, ← hv2]; rw [if_neg hnf, hN]; simp [hJ])]; rfl)]
       refine To.skip (To.blockN (To.thenN (To.reg ?_)))
       refine To.r (Rd.inc rfl rfl rfl (by omega)) ?_
       refine To.m (To.nil (To.thenN ?_))
       have hm2 : max (h.getD i 0) 0 = m := by rw [getD_of hy, hm]
       have hJ : jumpH h1 x v = some (h1.set tn v) := by rw [jumpH, if_pos (by assumption), htn2, getD_of hy3, if_pos (by simpa using c123)]
       have hS : stepH h top i x = some ((h1.set tn v), top') := by
         unfold stepH; simp only [hm2, ← hh1, ← hv2]; rw [if_neg hnf, hN]; show ((jumpH h1 x v).map fun h3 => (h3, max (max top m) v)) = _; rw [hJ, htop']; rfl
       refine To.sub [(0, .slice A l.length q), (2, .int .i64 top'), (4, .pointer (some ⟨b4, 0, none⟩)), (6, .func (.func 46) #[] #[.pointer (some ⟨b4, 0, none⟩)]), (27, .slice A l.length q), (28, .int .i64 ((l.length : Nat) : Int)), (29, .int .i64 (((i + 1) : Nat) : Int))] ⟨rfl, rfl, rfl, rfl, rfl, rfl, rfl, trivial⟩ ?_
       refine To.only [0, 0, 2, 2] rfl ?_
       refine To.as [box b4 [.slice Ah (h1.set tn v).length qh] 132, rows encI 3 1 Ah qh (h1.set tn v), ros Ins.cells A l, tabC] (by first | rfl | rw [List.length_set] <;> rfl) ?_
       refine To.again (l.length - (i + 1)) (by omega) ⟨(h1.set tn v), top', i + 1, rfl, rfl, rfl, (by omega), (by rw [List.length_set]; omega), (all_set (fun y0 h0 => by have := hB2 y0 h0; omega) (by omega)), (by rw [hI, goH_step hx, hS]; rfl), (by omega)⟩
      refine To.k ?_
      refine To.k ?_
      refine To.k ?_
      refine To.k ?_
      refine To.k ?_
      refine To.r (Rd.pickF rfl rfl rfl) ?_
      refine To.nil (To.thenN ?_)
      refine To.condF rfl ?_
      refine To.skip (To.blockN (To.thenN (To.reg ?_)))
      refine To.r (Rd.inc rfl rfl rfl (by omega)) ?_
      refine To.m (To.nil (To.thenN ?_))
      have hm2 : max (h.getD i 0) 0 = m := by rw [getD_of hy, hm]
      have hJ : jumpH h1 x v = some h1 := by rw [jumpH, if_neg (by simp [g117])]
      have hS : stepH h top i x = some (h1, top') := by
        unfold stepH; simp only [hm2, ← hh1, ← hv2]; rw [if_neg hnf, hN]; show ((jumpH h1 x v).map fun h3 => (h3, max (max top m) v)) = _; rw [hJ, htop']; rfl
      refine To.sub [(0, .slice A l.length q), (2, .int .i64 top'), (4, .pointer (some ⟨b4, 0, none⟩)), (6, .func (.func 46) #[] #[.pointer (some ⟨b4, 0, none⟩)]), (27, .slice A l.length q), (28, .int .i64 ((l.length : Nat) : Int)), (29, .int .i64 (((i + 1) : Nat) : Int))] ⟨rfl, rfl, rfl, rfl, rfl, rfl, rfl, trivial⟩ ?_
      refine To.only [2, 2, 2, 2] rfl ?_
      refine To.as [box b4 [.slice Ah h1.length qh] 132, rows encI 3 1 Ah qh h1, ros Ins.cells A l, tabC] (by first | rfl | rw [List.length_set] <;> rfl) ?_
      refine To.again (l.length - (i + 1)) (by omega) ⟨h1, top', i + 1, rfl, rfl, rfl, (by omega), (by omega), hB2, (by rw [hI, goH_step hx, hS]; rfl), (by omega)⟩
     refine To.k ?_
     refine To.k ?_
     refine To.k ?_
     refine To.r (Rd.pickF rfl rfl rfl) ?_
     refine To.m ?_
     refine To.k ?_
     refine To.k ?_
     refine To.k ?_
     refine To.k ?_
     refine To.k ?_
     refine To.k ?_
     refine To.r (Rd.pickF rfl rfl rfl) ?_
     refine To.nil (To.thenN ?_)
     refine To.condF rfl ?_
     refine To.skip (To.thenN (To.seq ?_))
     have hnf : ¬ (m < popsN x ∨ (((x.op : Nat) : Int) = 34 ∧ m ≠ 0)) := by omega
     have hN : nextH h1 i x v = some h1 := by rw [nextH, if_neg (by omega)]
     have hB2 : ∀ y0 ∈ h1, (-1 : Int) ≤ y0 ∧ y0 ≤ ((i + 1 : Nat) : Int) := fun y0 h0 => by have := hB1 y0 h0; omega
     refine To.reg ?_
     refine To.r (Rd.loadS (i := 1) rfl rfl r64 rfl box_whole rfl) ?_
     refine To.callV rfl rfl rfl (Ent.fn rfl rfl ca45) (tgt_fn x) rfl (oks_nil _) ?_
     refine To.m ?_
     refine To.r (Rd.extract rfl rfl rfl) ?_
     refine To.r (Rd.extract rfl rfl rfl) ?_
     refine To.a ?_
     refine To.a (To.nil (To.thenN (To.seq ?_)))
     refine To.as [box b9 [.string (rowOf x.op).text, .string (rowOf x.op).uses, .int .i64 (popsN x), .int .i64 ((rowOf x.op).pushes)] 125, box b8 [.int .u8 ((x.op : Nat) : Int), .int .i64 x.a, .int .i64 x.b, .int .i64 x.n] 64, box b4 [.slice Ah h1.length qh] 132, rows encI 3 1 Ah qh h1, ros Ins.cells A l, tabC] rfl ?_
     obtain ⟨tn, htn⟩ : ∃ tn : Nat, (tgt x).getD 0 = ((tn : Nat) : Int) := ⟨((tgt x).getD 0).toNat, by omega⟩
     rw [htn]
     obtain ⟨y3, hy3⟩ : ∃ z0, h1[tn]? = some z0 := ⟨h1[tn]'(by omega), List.getElem?_eq_getElem _⟩
     have htn2 : ((tgt x).getD 0).toNat = tn := by omega
     refine To.reg (To.m ?_)
     refine To.rdB rfl rfl rfl (Rd.move rfl rfl) (fun g117 => ?_) (fun g117 => ?_)
     ·
      refine To.m ?_
      refine To.m ?_
      refine To.m ?_
      refine To.call [2, 2] rfl rfl rfl (Ent.func (first := []) (captured := [.pointer (some ⟨b4, 0, none⟩)]) rfl rfl rfl ca46) rfl (set_fn b4 Ah qh h1 tn v y3 hy3) ?_
      rintro _ _ ⟨rfl, rfl⟩
      refine To.r (Rd.not rfl rfl) ?_
      refine To.r (Rd.pickT rfl rfl rfl) ?_
      refine To.nil (To.thenN ?_)
      refine To.cond rfl (fun c123 => ?_) (fun c123 => ?_)
      ·
       refine To.seq (To.reg (To.a ?_))
       refine To.a (To.nil (To.thenN (To.ret (To.blockR (To.thenR (To.thenR (To.blockR (To.thenR ?_))))))))
       refine To.end2 (.inl rfl) Tryz.results18 rfl rfl ?_
       have hm2 : max (h.getD i 0) 0 = m := by rw [getD_of hy, hm]
       have hJ : jumpH h1 x v = none := by rw [jumpH, if_pos (by assumption), htn2, getD_of hy3, if_neg (by simpa using c123)]
       rw [heights_none (by rw [hI, goH_step hx, show stepH h top i x = none from (by unfold stepH; simp only [hm2, ← hh1, ← hv2]; rw [if_neg hnf, hN]; simp [hJ])]; rfl)]
      refine To.skip (To.blockN (To.thenN (To.reg ?_)))
      refine To.r (Rd.inc rfl rfl rfl (by omega)) ?_
      refine To.m (To.nil (To.thenN ?_))
      have hm2 : max (h.getD i 0) 0 = m := by rw [getD_of hy, hm]
      have hJ : jumpH h1 x v = some (h1.set tn v) := by rw [jumpH, if_pos (by assumption), htn2, getD_of hy3, if_pos (by simpa using c123)]
      have hS : stepH h top i x = some ((h1.set tn v), top') := by
        unfold stepH; simp only [hm2, ← hh1, ← hv2]; rw [if_neg hnf, hN]; show ((jumpH h1 x v).map fun h3 => (h3, max (max top m) v)) = _; rw [hJ, htop']; rfl
      refine To.sub [(0, .slice A l.length q), (2, .int .i64 top'), (4, .pointer (some ⟨b4, 0, none⟩)), (6, .func (.func 46) #[] #[.pointer (some ⟨b4, 0, none⟩)]), (27, .slice A l.length q), (28, .int .i64 ((l.length : Nat) : Int)), (29, .int .i64 (((i + 1) : Nat) : Int))] ⟨rfl, rfl, rfl, rfl, rfl, rfl, rfl, trivial⟩ ?_
      refine To.only [0, 0, 2, 2] rfl ?_
      refine To.as [box b4 [.slice Ah (h1.set tn v).length qh] 132, rows encI 3 1 Ah qh (h1.set tn v), ros Ins.cells A l, tabC] (by first | rfl | rw [List.length_set] <;> rfl) ?_
      refine To.again (l.length - (i + 1)) (by omega) ⟨(h1.set tn v), top', i + 1, rfl, rfl, rfl, (by omega), (by rw [List.length_set]; omega), (all_set (fun y0 h0 => by have := hB2 y0 h0; omega) (by omega)), (by rw [hI, goH_step hx, hS]; rfl), (by omega)⟩
     refine To.k ?_
     refine To.k ?_
     refine To.k ?_
     refine To.k ?_
     refine To.k ?_
     refine To.r (Rd.pickF rfl rfl rfl) ?_
     refine To.nil (To.thenN ?_)
     refine To.condF rfl ?_
     refine To.skip (To.blockN (To.thenN (To.reg ?_)))
     refine To.r (Rd.inc rfl rfl rfl (by omega)) ?_
     refine To.m (To.nil (To.thenN ?_))
     have hm2 : max (h.getD i 0) 0 = m := by rw [getD_of hy, hm]
     have hJ : jumpH h1 x v = some h1 := by rw [jumpH, if_neg (by simp [g117])]
     have hS : stepH h top i x = some (h1, top') := by
       unfold stepH; simp only [hm2, ← hh1, ← hv2]; rw [if_neg hnf, hN]; show ((jumpH h1 x v).map fun h3 => (h3, max (max top m) v)) = _; rw [hJ, htop']; rfl
     refine To.sub [(0, .slice A l.length q), (2, .int .i64 top'), (4, .pointer (some ⟨b4, 0, none⟩)), (6, .func (.func 46) #[] #[.pointer (some ⟨b4, 0, none⟩)]), (27, .slice A l.length q), (28, .int .i64 ((l.length : Nat) : Int)), (29, .int .i64 (((i + 1) : Nat) : Int))] ⟨rfl, rfl, rfl, rfl, rfl, rfl, rfl, trivial⟩ ?_
     refine To.only [2, 2, 2, 2] rfl ?_
     refine To.as [box b4 [.slice Ah h1.length qh] 132, rows encI 3 1 Ah qh h1, ros Ins.cells A l, tabC] (by first | rfl | rw [List.length_set] <;> rfl) ?_
     refine To.again (l.length - (i + 1)) (by omega) ⟨h1, top', i + 1, rfl, rfl, rfl, (by omega), (by omega), hB2, (by rw [hI, goH_step hx, hS]; rfl), (by omega)⟩
    refine FlowS.skip (by decide) rfl rfl rfl rfl ?_
    refine FlowS.skip (by decide) rfl rfl rfl rfl ?_
    refine FlowS.skip (by decide) rfl rfl rfl rfl ?_
    refine FlowS.skip (by decide) rfl rfl rfl rfl ?_
    refine FlowS.skip (by decide) rfl rfl rfl rfl ?_
    refine FlowS.f rfl (Rd.pickF rfl rfl rfl) ?_
    refine FlowS.f rfl (Rd.pickF rfl rfl rfl) ?_
    refine FlowS.fin ?_
    refine To.thenN ?_
    refine To.condF rfl ?_
    refine To.skip (To.thenN (To.seq ?_))
    refine To.flow [] [⟨1, [], 0⟩, ⟨4, [], 0⟩, ⟨7, [], 0⟩, ⟨0, [], 1⟩, ⟨2, [], 1⟩, ⟨3, [], 1⟩, ⟨5, [], 1⟩, ⟨6, [], 0⟩, ⟨8, [], 1⟩, ⟨9, [], 0⟩, ⟨10, [], 0⟩] mixed (by kernel_rfl) (oks_nil _) ?_
    refine FlowS.mo ?_
    refine FlowS.fi fl125_2 ?_
    refine FlowS.fi fl125_3 ?_
    refine FlowS.lo 2 c132 ?_
    refine FlowS.r rfl (Rd.indexRows (i := 3) (j := i) rfl rfl rfl s132 rfl hy1) ?_
    refine FlowS.r rfl (Rd.load (i := 3) rfl rfl c3 rfl (gives_1 (rows_gives encI_ok hy1) rfl)) ?_
    refine FlowS.lo 0 c3 ?_
    refine FlowS.f rfl (Rd.sub64 rfl rfl rfl (by omega)) ?_
    refine FlowS.lo 0 c3 ?_
    refine FlowS.f rfl (Rd.add64 rfl rfl rfl (by omega)) ?_
    refine FlowS.f rfl (Rd.assign rfl rfl) ?_
    refine FlowS.fin ?_
    refine To.thenN (To.seq ?_)
    refine To.as [box b9 [.string (rowOf x.op).text, .string (rowOf x.op).uses, .int .i64 (popsN x), .int .i64 ((rowOf x.op).pushes)] 125, box b8 [.int .u8 ((x.op : Nat) : Int), .int .i64 x.a, .int .i64 x.b, .int .i64 x.n] 64, box b4 [.slice Ah h1.length qh] 132, rows encI 3 1 Ah qh h1, ros Ins.cells A l, tabC] rfl ?_
    obtain ⟨v, hv⟩ : ∃ z0, z0 = ((m - (popsN x)) + ((rowOf x.op).pushes)) := ⟨_, rfl⟩
    rw [← hv]
    have hv2 : v = aftH m x := by rw [hv, aftH]
    have hvb : 0 ≤ v ∧ v ≤ i + 1 := by omega
    refine To.reg (To.m ?_)
    refine To.lo 2 c132 ?_
    refine To.m ?_
    refine To.r (Rd.indexRows (i := 3) (j := i) rfl rfl rfl s132 rfl hy1) ?_
    refine To.r (Rd.load (i := 3) rfl rfl c3 rfl (gives_1 (rows_gives encI_ok hy1) rfl)) ?_
    refine To.m ?_
    refine To.r (Rd.max3 rfl rfl rfl rfl) ?_
    refine To.a (To.nil ?_)
    refine To.sub [(0, .slice A l.length q), (2, .int .i64 (max (max top m) v)), (4, .pointer (some ⟨b4, 0, none⟩)), (6, .func (.func 46) #[] #[.pointer (some ⟨b4, 0, none⟩)]), (27, .slice A l.length q), (28, .int .i64 ((l.length : Nat) : Int)), (29, .int .i64 ((i : Nat) : Int)), (30, .bool (decide (((i : Nat) : Int) < ((l.length : Nat) : Int)))), (8, .pointer (some ⟨b8, 0, none⟩)), (7, .int .i64 ((i : Nat) : Int)), (9, .pointer (some ⟨b9, 0, none⟩)), (52, .bool (decide (((x.op : Nat) : Int) = 31))), (77, .bool false), (10, .int .i64 v)] ⟨rfl, rfl, rfl, rfl, rfl, rfl, rfl, rfl, rfl, rfl, rfl, rfl, rfl, rfl, trivial⟩ ?_
    refine To.thenN (To.seq (To.seq ?_))
    obtain ⟨y2, hy2⟩ : ∃ z0, h1[i + 1]? = some z0 := ⟨h1[i + 1]'(by omega), List.getElem?_eq_getElem _⟩
    refine To.as [box b9 [.string (rowOf x.op).text, .string (rowOf x.op).uses, .int .i64 (popsN x), .int .i64 ((rowOf x.op).pushes)] 125, box b8 [.int .u8 ((x.op : Nat) : Int), .int .i64 x.a, .int .i64 x.b, .int .i64 x.n] 64, box b4 [.slice Ah h1.length qh] 132, rows encI 3 1 Ah qh h1, ros Ins.cells A l, tabC] rfl ?_
    obtain ⟨top', htop'⟩ : ∃ z0, z0 = (max (max top m) v) := ⟨_, rfl⟩
    rw [← htop']
    refine To.reg ?_
    refine To.f fl64_0 ?_
    refine To.lo 1 c62 ?_
    refine To.r (Rd.neq rfl rfl rfl) ?_
    refine To.rdP rfl rfl rfl (Rd.move rfl rfl) (fun g98 => ?_) (fun g98 => ?_)
    ·
     refine To.f fl64_0 ?_
     refine To.lo 1 c62 ?_
     refine To.r (Rd.neq rfl rfl rfl) ?_
     refine To.r (Rd.pickT rfl rfl rfl) ?_
     refine To.rdP rfl rfl rfl (Rd.move rfl rfl) (fun g103 => ?_) (fun g103 => ?_)
     ·
      refine To.m ?_
      refine To.m ?_
      refine To.r (Rd.inc rfl rfl rfl (by omega)) ?_
      refine To.m ?_
      refine To.call [2, 2] rfl rfl rfl (Ent.func (first := []) (captured := [.pointer (some ⟨b4, 0, none⟩)]) rfl rfl rfl ca46) rfl (set_fn b4 Ah qh h1 (i + 1) v y2 hy2) ?_
      rintro _ _ ⟨rfl, rfl⟩
      refine To.r (Rd.not rfl rfl) ?_
      refine To.r (Rd.pickT rfl rfl rfl) ?_
      refine To.nil (To.thenN ?_)
      refine To.cond rfl (fun c110 => ?_) (fun c110 => ?_)
      ·
       refine To.seq (To.reg (To.a ?_))
       refine To.a (To.nil (To.thenN (To.ret (To.thenR (To.blockR (To.thenR (To.thenR (To.blockR (To.thenR ?_)))))))))
       refine To.end2 (.inl rfl) Tryz.results18 rfl rfl ?_
       have hm2 : max (h.getD i 0) 0 = m := by rw [getD_of hy, hm]
       have hnf : ¬ (m < popsN x ∨ (((x.op : Nat) : Int) = 34 ∧ m ≠ 0)) := by omega
       have hN : nextH h1 i x v = none := by rw [nextH, if_pos (by omega), getD_of hy2, if_neg (by simpa using c110)]
       rw [heights_none (by rw [hI, goH_step hx, show stepH h top i x = none from (by unfold stepH; simp only [hm2, ← hh1, ← hv2]; rw [if_neg hnf, hN]; rfl)]; rfl)]
      refine To.skip (To.thenN (To.seq ?_))
      have hnf : ¬ (m < popsN x ∨ (((x.op : Nat) : Int) = 34 ∧ m ≠ 0)) := by omega
      refine To.as [box b4 [.slice Ah h1.length qh] 132, rows encI 3 1 Ah qh (h1.set (i + 1) v), box b9 [.string (rowOf x.op).text, .string (rowOf x.op).uses, .int .i64 (popsN x), .int .i64 ((rowOf x.op).pushes)] 125, box b8 [.int .u8 ((x.op : Nat) : Int), .int .i64 x.a, .int .i64 x.b, .int .i64 x.n] 64, ros Ins.cells A l, tabC] rfl ?_
      obtain ⟨h2, hh2⟩ : ∃ z0, z0 = (h1.set (i + 1) v) := ⟨_, rfl⟩
      rw [← hh2]
      have hlh2 : h2.length = h1.length := by rw [hh2]; rw [List.length_set]
      rw [← hlh2]
      have hN : nextH h1 i x v = some h2 := by rw [nextH, if_pos (by omega), getD_of hy2, if_pos (by simpa using c110), hh2]
      have hB2 : ∀ y0 ∈ h2, (-1 : Int) ≤ y0 ∧ y0 ≤ ((i + 1 : Nat) : Int) := by rw [hh2]; exact all_set (fun y0 h0 => by have := hB1 y0 h0; omega) (by omega)
      refine To.reg ?_
      refine To.r (Rd.loadS (i := 3) rfl rfl r64 rfl box_whole rfl) ?_
      refine To.callV rfl rfl rfl (Ent.fn rfl rfl ca45) (tgt_fn x) rfl (oks_nil _) ?_
      refine To.m ?_
      refine To.r (Rd.extract rfl rfl rfl) ?_
      refine To.r (Rd.extract rfl rfl rfl) ?_
      refine To.a ?_
      refine To.a (To.nil (To.thenN (To.seq ?_)))
      refine To.as [box b4 [.slice Ah h2.length qh] 132, rows encI 3 1 Ah qh h2, box b9 [.string (rowOf x.op).text, .string (rowOf x.op).uses, .int .i64 (popsN x), .int .i64 ((rowOf x.op).pushes)] 125, box b8 [.int .u8 ((x.op : Nat) : Int), .int .i64 x.a, .int .i64 x.b, .int .i64 x.n] 64, ros Ins.cells A l, tabC] rfl ?_
      obtain ⟨tn, htn⟩ : ∃ tn : Nat, (tgt x).getD 0 = ((tn : Nat) : Int) := ⟨((tgt x).getD 0).toNat, by omega⟩
      rw [htn]
      obtain ⟨y3, hy3⟩ : ∃ z0, h2[tn]? = some z0 := ⟨h2[tn]'(by omega), List.getElem?_eq_getElem _⟩
      have htn2 : ((tgt x).getD 0).toNat = tn := by omega
      refine To.reg (To.m ?_)
      refine To.rdB rfl rfl rfl (Rd.move rfl rfl) (fun g117 => ?_) (fun g117 => ?_)
      ·
       refine To.m ?_
       refine To.m ?_
       refine To.m ?_
       refine To.call [0, 0] rfl rfl rfl (Ent.func (first := []) (captured := [.pointer (some ⟨b4, 0, none⟩)]) rfl rfl rfl ca46) rfl (set_fn b4 Ah qh h2 tn v y3 hy3) ?_
       rintro _ _ ⟨rfl, rfl⟩
       refine To.r (Rd.not rfl rfl) ?_
       refine To.r (Rd.pickT rfl rfl rfl) ?_
       refine To.nil (To.thenN ?_)
       refine To.cond rfl (fun c123 => ?_) (fun c123 => ?_)
       ·
        refine To.seq (To.reg (To.a ?_))
        refine To.a (To.nil (To.thenN (To.ret (To.blockR (To.thenR (To.thenR (To.blockR (To.thenR ?_))))))))
        refine To.end2 (.inl rfl) Tryz.results18 rfl rfl ?_
        have hm2 : max (h.getD i 0) 0 = m := by rw [getD_of hy, hm]
        have hJ : jumpH h2 x v = none := by rw [jumpH, if_pos (by assumption), htn2, getD_of hy3, if_neg (by simpa using c123)]
        rw [heights_none (by rw [hI, goH_step hx, show stepH h top i x = none from (by unfold stepH; simp only [hm2, ← hh1, ← hv2]; rw [if_neg hnf, hN]; simp [hJ])]; rfl)]
       refine To.skip (To.blockN (To.thenN (To.reg ?_)))
       refine To.r (Rd.inc rfl rfl rfl (by omega)) ?_
       refine To.m (To.nil (To.thenN ?_))
       have hm2 : max (h.getD i 0) 0 = m := by rw [getD_of hy, hm]
       have hJ : jumpH h2 x v = some (h2.set tn v) := by rw [jumpH, if_pos (by assumption), htn2, getD_of hy3, if_pos (by simpa using c123)]
       have hS : stepH h top i x = some ((h2.set tn v), top') := by
         unfold stepH; simp only [hm2, ← hh1, ← hv2]; rw [if_neg hnf, hN]; show ((jumpH h2 x v).map fun h3 => (h3, max (max top m) v)) = _; rw [hJ, htop']; rfl
       refine To.sub [(0, .slice A l.length q), (2, .int .i64 top'), (4, .pointer (some ⟨b4, 0, none⟩)), (6, .func (.func 46) #[] #[.pointer (some ⟨b4, 0, none⟩)]), (27, .slice A l.length q), (28, .int .i64 ((l.length : Nat) : Int)), (29, .int .i64 (((i + 1) : Nat) : Int))] ⟨rfl, rfl, rfl, rfl, rfl, rfl, rfl, trivial⟩ ?_
       refine To.only [0, 0, 2, 2] rfl ?_
       refine To.as [box b4 [.slice Ah (h2.set tn v).length qh] 132, rows encI 3 1 Ah qh (h2.set tn v), ros Ins.cells A l, tabC] (by first | rfl | rw [List.length_set] <;> rfl) ?_
       refine To.again (l.length - (i + 1)) (by omega) ⟨(h2.set tn v), top', i + 1, rfl, rfl, rfl, (by omega), (by rw [List.length_set]; omega), (all_set (fun y0 h0 => by have := hB2 y0 h0; omega) (by omega)), (by rw [hI, goH_step hx, hS]; rfl), (by omega)⟩
      refine To.k ?_
      refine To.k ?_
      refine To.k ?_
      refine To.k ?_
      refine To.k ?_
      refine To.r (Rd.pickF rfl rfl rfl) ?_
      refine To.nil (To.thenN ?_)
      refine To.condF rfl ?_
      refine To.skip (To.blockN (To.thenN (To.reg ?_)))
      refine To.r (Rd.inc rfl rfl rfl (by omega)) ?_
      refine To.m (To.nil (To.thenN ?_))
      have hm2 : max (h.getD i 0) 0 = m := by rw [getD_of hy, hm]
      have hJ : jumpH h2 x v = some h2 := by rw [jumpH, if_neg (by simp [g117])]
      have hS : stepH h top i x = some (h2, top') := by
        unfold stepH; simp only [hm2, ← hh1, ← hv2]; rw [if_neg hnf, hN]; show ((jumpH h2 x v).map fun h3 => (h3, max (max top m) v)) = _; rw [hJ, htop']; rfl
      refine To.sub [(0, .slice A l.length q), (2, .int .i64 top'), (4, .pointer (some ⟨b4, 0, none⟩)), (6, .func (.func 46) #[] #[.pointer (some ⟨b4, 0, none⟩)]), (27, .slice A l.length q), (28, .int .i64 ((l.length : Nat) : Int)), (29, .int .i64 (((i + 1) : Nat) : Int))] ⟨rfl, rfl, rfl, rfl, rfl, rfl, rfl, trivial⟩ ?_
      refine To.only [0, 0, 2, 2] rfl ?_
      refine To.as [box b4 [.slice Ah h2.length qh] 132, rows encI 3 1 Ah qh h2, ros Ins.cells A l, tabC] (by first | rfl | rw [List.length_set] <;> rfl) ?_
      refine To.again (l.length - (i + 1)) (by omega) ⟨h2, top', i + 1, rfl, rfl, rfl, (by omega), (by omega), hB2, (by rw [hI, goH_step hx, hS]; rfl), (by omega)⟩
     refine To.k ?_
     refine To.k ?_
     refine To.k ?_
     refine To.k ?_
     refine To.k ?_
     refine To.k ?_
     refine To.r (Rd.pickF rfl rfl rfl) ?_
     refine To.nil (To.thenN ?_)
     refine To.condF rfl ?_
     refine To.skip (To.thenN (To.seq ?_))
     have hnf : ¬ (m < popsN x ∨ (((x.op : Nat) : Int) = 34 ∧ m ≠ 0)) := by omega
     have hN : nextH h1 i x v = some h1 := by rw [nextH, if_neg (by omega)]
     have hB2 : ∀ y0 ∈ h1, (-1 : Int) ≤ y0 ∧ y0 ≤ ((i + 1 : Nat) : Int) := fun y0 h0 => by have := hB1 y0 h0; omega
     refine To.reg ?_
     refine To.r (Rd.loadS (i := 1) rfl rfl r64 rfl box_whole rfl) ?_
     refine To.callV rfl rfl rfl (Ent.fn rfl rfl ca45) (tgt_fn x) rfl (oks_nil _) ?_
     refine To.m ?_
     refine To.r (Rd.extract rfl rfl rfl) ?_
     refine To.r (Rd.extract rfl rfl rfl) ?_
     refine To.a ?_
     refine To.a (To.nil (To.thenN (To.seq ?_)))
     refine To.as [box b9 [.string (rowOf x.op).text, .string (rowOf x.op).uses, .int .i64 (popsN x), .int .i64 ((rowOf x.op).pushes)] 125, box b8 [.int .u8 ((x.op : Nat) : Int), .int .i64 x.a, .int .i64 x.b, .int .i64 x.n] 64, box b4 [.slice Ah h1.length qh] 132, rows encI 3 1 Ah qh h1, ros Ins.cells A l, tabC] rfl ?_
     obtain ⟨tn, htn⟩ : ∃ tn : Nat, (tgt x).getD 0 = ((tn : Nat) : Int) := ⟨((tgt x).getD 0).toNat, by omega⟩
     rw [htn]
     obtain ⟨y3, hy3⟩ : ∃ z0, h1[tn]? = some z0 := ⟨h1[tn]'(by omega), List.getElem?_eq_getElem _⟩
     have htn2 : ((tgt x).getD 0).toNat = tn := by omega
     refine To.reg (To.m ?_)
     refine To.rdB rfl rfl rfl (Rd.move rfl rfl) (fun g117 => ?_) (fun g117 => ?_)
     ·
      refine To.m ?_
      refine To.m ?_
      refine To.m ?_
      refine To.call [2, 2] rfl rfl rfl (Ent.func (first := []) (captured := [.pointer (some ⟨b4, 0, none⟩)]) rfl rfl rfl ca46) rfl (set_fn b4 Ah qh h1 tn v y3 hy3) ?_
      rintro _ _ ⟨rfl, rfl⟩
      refine To.r (Rd.not rfl rfl) ?_
      refine To.r (Rd.pickT rfl rfl rfl) ?_
      refine To.nil (To.thenN ?_)
      refine To.cond rfl (fun c123 => ?_) (fun c123 => ?_)
      ·
       refine To.seq (To.reg (To.a ?_))
       refine To.a (To.nil (To.thenN (To.ret (To.blockR (To.thenR (To.thenR (To.blockR (To.thenR ?_))))))))
       refine To.end2 (.inl rfl) Tryz.results18 rfl rfl ?_
       have hm2 : max (h.getD i 0) 0 = m := by rw [getD_of hy, hm]
       have hJ : jumpH h1 x v = none := by rw [jumpH, if_pos (by assumption), htn2, getD_of hy3, if_neg (by simpa using c123)]
       rw [heights_none (by rw [hI, goH_step hx, show stepH h top i x = none from (by unfold stepH; simp only [hm2, ← hh1, ← hv2]; rw [if_neg hnf, hN]; simp [hJ])]; rfl)]
      refine To.skip (To.blockN (To.thenN (To.reg ?_)))
      refine To.r (Rd.inc rfl rfl rfl (by omega)) ?_
      refine To.m (To.nil (To.thenN ?_))
      have hm2 : max (h.getD i 0) 0 = m := by rw [getD_of hy, hm]
      have hJ : jumpH h1 x v = some (h1.set tn v) := by rw [jumpH, if_pos (by assumption), htn2, getD_of hy3, if_pos (by simpa using c123)]
      have hS : stepH h top i x = some ((h1.set tn v), top') := by
        unfold stepH; simp only [hm2, ← hh1, ← hv2]; rw [if_neg hnf, hN]; show ((jumpH h1 x v).map fun h3 => (h3, max (max top m) v)) = _; rw [hJ, htop']; rfl
      refine To.sub [(0, .slice A l.length q), (2, .int .i64 top'), (4, .pointer (some ⟨b4, 0, none⟩)), (6, .func (.func 46) #[] #[.pointer (some ⟨b4, 0, none⟩)]), (27, .slice A l.length q), (28, .int .i64 ((l.length : Nat) : Int)), (29, .int .i64 (((i + 1) : Nat) : Int))] ⟨rfl, rfl, rfl, rfl, rfl, rfl, rfl, trivial⟩ ?_
      refine To.only [0, 0, 2, 2] rfl ?_
      refine To.as [box b4 [.slice Ah (h1.set tn v).length qh] 132, rows encI 3 1 Ah qh (h1.set tn v), ros Ins.cells A l, tabC] (by first | rfl | rw [List.length_set] <;> rfl) ?_
      refine To.again (l.length - (i + 1)) (by omega) ⟨(h1.set tn v), top', i + 1, rfl, rfl, rfl, (by omega), (by rw [List.length_set]; omega), (all_set (fun y0 h0 => by have := hB2 y0 h0; omega) (by omega)), (by rw [hI, goH_step hx, hS]; rfl), (by omega)⟩
     refine To.k ?_
     refine To.k ?_
     refine To.k ?_
     refine To.k ?_
     refine To.k ?_
     refine To.r (Rd.pickF rfl rfl rfl) ?_
     refine To.nil (To.thenN ?_)
     refine To.condF rfl ?_
     refine To.skip (To.blockN (To.thenN (To.reg ?_)))
     refine To.r (Rd.inc rfl rfl rfl (by omega)) ?_
     refine To.m (To.nil (To.thenN ?_))
     have hm2 : max (h.getD i 0) 0 = m := by rw [getD_of hy, hm]
     have hJ : jumpH h1 x v = some h1 := by rw [jumpH, if_neg (by simp [g117])]
     have hS : stepH h top i x = some (h1, top') := by
       unfold stepH; simp only [hm2, ← hh1, ← hv2]; rw [if_neg hnf, hN]; show ((jumpH h1 x v).map fun h3 => (h3, max (max top m) v)) = _; rw [hJ, htop']; rfl
     refine To.sub [(0, .slice A l.length q), (2, .int .i64 top'), (4, .pointer (some ⟨b4, 0, none⟩)), (6, .func (.func 46) #[] #[.pointer (some ⟨b4, 0, none⟩)]), (27, .slice A l.length q), (28, .int .i64 ((l.length : Nat) : Int)), (29, .int .i64 (((i + 1) : Nat) : Int))] ⟨rfl, rfl, rfl, rfl, rfl, rfl, rfl, trivial⟩ ?_
     refine To.only [2, 2, 2, 2] rfl ?_
     refine To.as [box b4 [.slice Ah h1.length qh] 132, rows encI 3 1 Ah qh h1, ros Ins.cells A l, tabC] (by first | rfl | rw [List.length_set] <;> rfl) ?_
     refine To.again (l.length - (i + 1)) (by omega) ⟨h1, top', i + 1, rfl, rfl, rfl, (by omega), (by omega), hB2, (by rw [hI, goH_step hx, hS]; rfl), (by omega)⟩
    refine To.k ?_
    refine To.k ?_
    refine To.k ?_
    refine To.r (Rd.pickF rfl rfl rfl) ?_
    refine To.m ?_
    refine To.k ?_
    refine To.k ?_
    refine To.k ?_
    refine To.k ?_
    refine To.k ?_
    refine To.k ?_
    refine To.r (Rd.pickF rfl rfl rfl) ?_
    refine To.nil (To.thenN ?_)
    refine To.condF rfl ?_
    refine To.skip (To.thenN (To.seq ?_))
    have hnf : ¬ (m < popsN x ∨ (((x.op : Nat) : Int) = 34 ∧ m ≠ 0)) := by omega
    have hN : nextH h1 i x v = some h1 := by rw [nextH, if_neg (by omega)]
    have hB2 : ∀ y0 ∈ h1, (-1 : Int) ≤ y0 ∧ y0 ≤ ((i + 1 : Nat) : Int) := fun y0 h0 => by have := hB1 y0 h0; omega
    refine To.reg ?_
    refine To.r (Rd.loadS (i := 1) rfl rfl r64 rfl box_whole rfl) ?_
    refine To.callV rfl rfl rfl (Ent.fn rfl rfl ca45) (tgt_fn x) rfl (oks_nil _) ?_
    refine To.m ?_
    refine To.r (Rd.extract rfl rfl rfl) ?_
    refine To.r (Rd.extract rfl rfl rfl) ?_
    refine To.a ?_
    refine To.a (To.nil (To.thenN (To.seq ?_)))
    refine To.as [box b9 [.string (rowOf x.op).text, .string (rowOf x.op).uses, .int .i64 (popsN x), .int .i64 ((rowOf x.op).pushes)] 125, box b8 [.int .u8 ((x.op : Nat) : Int), .int .i64 x.a, .int .i64 x.b, .int .i64 x.n] 64, box b4 [.slice Ah h1.length qh] 132, rows encI 3 1 Ah qh h1, ros Ins.cells A l, tabC] rfl ?_
    obtain ⟨tn, htn⟩ : ∃ tn : Nat, (tgt x).getD 0 = ((tn : Nat) : Int) := ⟨((tgt x).getD 0).toNat, by omega⟩
    rw [htn]
    obtain ⟨y3, hy3⟩ : ∃ z0, h1[tn]? = some z0 := ⟨h1[tn]'(by omega), List.getElem?_eq_getElem _⟩
    have htn2 : ((tgt x).getD 0).toNat = tn := by omega
    refine To.reg (To.m ?_)
    refine To.rdB rfl rfl rfl (Rd.move rfl rfl) (fun g117 => ?_) (fun g117 => ?_)
    ·
     refine To.m ?_
     refine To.m ?_
     refine To.m ?_
     refine To.call [2, 2] rfl rfl rfl (Ent.func (first := []) (captured := [.pointer (some ⟨b4, 0, none⟩)]) rfl rfl rfl ca46) rfl (set_fn b4 Ah qh h1 tn v y3 hy3) ?_
     rintro _ _ ⟨rfl, rfl⟩
     refine To.r (Rd.not rfl rfl) ?_
     refine To.r (Rd.pickT rfl rfl rfl) ?_
     refine To.nil (To.thenN ?_)
     refine To.cond rfl (fun c123 => ?_) (fun c123 => ?_)
     ·
      refine To.seq (To.reg (To.a ?_))
      refine To.a (To.nil (To.thenN (To.ret (To.blockR (To.thenR (To.thenR (To.blockR (To.thenR ?_))))))))
      refine To.end2 (.inl rfl) Tryz.results18 rfl rfl ?_
      have hm2 : max (h.getD i 0) 0 = m := by rw [getD_of hy, hm]
      have hJ : jumpH h1 x v = none := by rw [jumpH, if_pos (by assumption), htn2, getD_of hy3, if_neg (by simpa using c123)]
      rw [heights_none (by rw [hI, goH_step hx, show stepH h top i x = none from (by unfold stepH; simp only [hm2, ← hh1, ← hv2]; rw [if_neg hnf, hN]; simp [hJ])]; rfl)]
     refine To.skip (To.blockN (To.thenN (To.reg ?_)))
     refine To.r (Rd.inc rfl rfl rfl (by omega)) ?_
     refine To.m (To.nil (To.thenN ?_))
     have hm2 : max (h.getD i 0) 0 = m := by rw [getD_of hy, hm]
     have hJ : jumpH h1 x v = some (h1.set tn v) := by rw [jumpH, if_pos (by assumption), htn2, getD_of hy3, if_pos (by simpa using c123)]
     have hS : stepH h top i x = some ((h1.set tn v), top') := by
       unfold stepH; simp only [hm2, ← hh1, ← hv2]; rw [if_neg hnf, hN]; show ((jumpH h1 x v).map fun h3 => (h3, max (max top m) v)) = _; rw [hJ, htop']; rfl
     refine To.sub [(0, .slice A l.length q), (2, .int .i64 top'), (4, .pointer (some ⟨b4, 0, none⟩)), (6, .func (.func 46) #[] #[.pointer (some ⟨b4, 0, none⟩)]), (27, .slice A l.length q), (28, .int .i64 ((l.length : Nat) : Int)), (29, .int .i64 (((i + 1) : Nat) : Int))] ⟨rfl, rfl, rfl, rfl, rfl, rfl, rfl, trivial⟩ ?_
     refine To.only [0, 0, 2, 2] rfl ?_
     refine To.as [box b4 [.slice Ah (h1.set tn v).length qh] 132, rows encI 3 1 Ah qh (h1.set tn v), ros Ins.cells A l, tabC] (by first | rfl | rw [List.length_set] <;> rfl) ?_
     refine To.again (l.length - (i + 1)) (by omega) ⟨(h1.set tn v), top', i + 1, rfl, rfl, rfl, (by omega), (by rw [List.length_set]; omega), (all_set (fun y0 h0 => by have := hB2 y0 h0; omega) (by omega)), (by rw [hI, goH_step hx, hS]; rfl), (by omega)⟩
    refine To.k ?_
    refine To.k ?_
    refine To.k ?_
    refine To.k ?_
    refine To.k ?_
    refine To.r (Rd.pickF rfl rfl rfl) ?_
    refine To.nil (To.thenN ?_)
    refine To.condF rfl ?_
    refine To.skip (To.blockN (To.thenN (To.reg ?_)))
    refine To.r (Rd.inc rfl rfl rfl (by omega)) ?_
    refine To.m (To.nil (To.thenN ?_))
    have hm2 : max (h.getD i 0) 0 = m := by rw [getD_of hy, hm]
    have hJ : jumpH h1 x v = some h1 := by rw [jumpH, if_neg (by simp [g117])]
    have hS : stepH h top i x = some (h1, top') := by
      unfold stepH; simp only [hm2, ← hh1, ← hv2]; rw [if_neg hnf, hN]; show ((jumpH h1 x v).map fun h3 => (h3, max (max top m) v)) = _; rw [hJ, htop']; rfl
    refine To.sub [(0, .slice A l.length q), (2, .int .i64 top'), (4, .pointer (some ⟨b4, 0, none⟩)), (6, .func (.func 46) #[] #[.pointer (some ⟨b4, 0, none⟩)]), (27, .slice A l.length q), (28, .int .i64 ((l.length : Nat) : Int)), (29, .int .i64 (((i + 1) : Nat) : Int))] ⟨rfl, rfl, rfl, rfl, rfl, rfl, rfl, trivial⟩ ?_
    refine To.only [2, 2, 2, 2] rfl ?_
    refine To.as [box b4 [.slice Ah h1.length qh] 132, rows encI 3 1 Ah qh h1, ros Ins.cells A l, tabC] (by first | rfl | rw [List.length_set] <;> rfl) ?_
    refine To.again (l.length - (i + 1)) (by omega) ⟨h1, top', i + 1, rfl, rfl, rfl, (by omega), (by omega), hB2, (by rw [hI, goH_step hx, hS]; rfl), (by omega)⟩
   refine To.skip (To.thenN (To.seq (To.seq ?_)))
   have hpn : (rowOf x.op).pops = popsN x := by unfold popsN; rw [if_neg (by omega)]
   refine To.as [box b9 [.string (rowOf x.op).text, .string (rowOf x.op).uses, .int .i64 ((rowOf x.op).pops), .int .i64 ((rowOf x.op).pushes)] 125, box b8 [.int .u8 ((x.op : Nat) : Int), .int .i64 x.a, .int .i64 x.b, .int .i64 x.n] 64, box b4 [.slice Ah h1.length qh] 132, rows encI 3 1 Ah qh h1, ros Ins.cells A l, tabC] rfl ?_
   rw [hpn]
   have hpb2 : 0 ≤ popsN x ∧ popsN x ≤ 6 := by omega
   refine To.flow [] [⟨1, [], 0⟩, ⟨4, [], 0⟩, ⟨0, [], 1⟩, ⟨2, [], 1⟩, ⟨3, [], 1⟩, ⟨5, [], 1⟩, ⟨6, [], 0⟩, ⟨7, [], 0⟩, ⟨8, [], 0⟩, ⟨9, [], 1⟩, ⟨10, [], 0⟩, ⟨11, [], 0⟩, ⟨13, [], 0⟩, ⟨12, [], 1⟩, ⟨14, [], 1⟩, ⟨15, [], 1⟩, ⟨16, [], 0⟩, ⟨17, [], 0⟩, ⟨18, [], 0⟩] mixed (by kernel_rfl) (oks_nil _) ?_
   refine FlowS.mo ?_
   refine FlowS.fi fl125_2 ?_
   refine FlowS.lo 2 c132 ?_
   refine FlowS.r rfl (Rd.indexRows (i := 3) (j := i) rfl rfl rfl s132 rfl hy1) ?_
   refine FlowS.r rfl (Rd.load (i := 3) rfl rfl c3 rfl (gives_1 (rows_gives encI_ok hy1) rfl)) ?_
   refine FlowS.lo 0 c3 ?_
   refine FlowS.f rfl (Rd.lss rfl rfl rfl) ?_
   refine FlowS.rdP rfl rfl rfl rfl (Rd.move rfl rfl) (fun g66 => ?_) (fun g66 => ?_)
   ·
    refine FlowS.skip (by decide) rfl rfl rfl rfl ?_
    refine FlowS.skip (by decide) rfl rfl rfl rfl ?_
    refine FlowS.skip (by decide) rfl rfl rfl rfl ?_
    refine FlowS.skip (by decide) rfl rfl rfl rfl ?_
    refine FlowS.skip (by decide) rfl rfl rfl rfl ?_
    refine FlowS.skip (by decide) rfl rfl rfl rfl ?_
    refine FlowS.skip (by decide) rfl rfl rfl rfl ?_
    refine FlowS.skip (by decide) rfl rfl rfl rfl ?_
    refine FlowS.skip (by decide) rfl rfl rfl rfl ?_
    refine FlowS.skip (by decide) rfl rfl rfl rfl ?_
    refine FlowS.f rfl (Rd.pickT rfl rfl rfl) ?_
    refine FlowS.fin ?_
    refine To.thenN ?_
    refine To.condT rfl ?_
    refine To.seq (To.reg (To.a ?_))
    refine To.a (To.nil (To.thenN (To.ret (To.thenR (To.blockR (To.thenR (To.thenR (To.blockR (To.thenR ?_)))))))))
    refine To.end2 (.inl rfl) Tryz.results18 rfl rfl ?_
    have hm2 : max (h.getD i 0) 0 = m := by rw [getD_of hy, hm]
    rw [heights_none (by rw [hI, goH_step hx, show stepH h top i x = none from (by unfold stepH; simp only [hm2]; rw [if_pos (by omega)])]; rfl)]
   refine FlowS.fi fl64_0 ?_
   refine FlowS.lo 1 c62 ?_
   refine FlowS.f rfl (Rd.eql rfl rfl rfl) ?_
   refine FlowS.rdP rfl rfl rfl rfl (Rd.move rfl rfl) (fun g70 => ?_) (fun g70 => ?_)
   ·
    refine FlowS.mo ?_
    refine FlowS.lo 2 c132 ?_
    refine FlowS.r rfl (Rd.indexRows (i := 3) (j := i) rfl rfl rfl s132 rfl hy1) ?_
    refine FlowS.r rfl (Rd.load (i := 3) rfl rfl c3 rfl (gives_1 (rows_gives encI_ok hy1) rfl)) ?_
    refine FlowS.f rfl (Rd.neq rfl rfl rfl) ?_
    refine FlowS.f rfl (Rd.pickT rfl rfl rfl) ?_
    refine FlowS.f rfl (Rd.pickF rfl rfl rfl) ?_
    refine FlowS.fin ?_
    refine To.thenN ?_
    refine To.condP rfl (fun c77 => ?_) (fun c77 => ?_)
    ·
     refine To.seq (To.reg (To.a ?_))
     refine To.a (To.nil (To.thenN (To.ret (To.thenR (To.blockR (To.thenR (To.thenR (To.blockR (To.thenR ?_)))))))))
     refine To.end2 (.inl rfl) Tryz.results18 rfl rfl ?_
     have hm2 : max (h.getD i 0) 0 = m := by rw [getD_of hy, hm]
     rw [heights_none (by rw [hI, goH_step hx, show stepH h top i x = none from (by unfold stepH; simp only [hm2]; rw [if_pos (by omega)])]; rfl)]
    refine To.skip (To.thenN (To.seq ?_))
    refine To.flow [] [⟨1, [], 0⟩, ⟨4, [], 0⟩, ⟨7, [], 0⟩, ⟨0, [], 1⟩, ⟨2, [], 1⟩, ⟨3, [], 1⟩, ⟨5, [], 1⟩, ⟨6, [], 0⟩, ⟨8, [], 1⟩, ⟨9, [], 0⟩, ⟨10, [], 0⟩] mixed (by kernel_rfl) (oks_nil _) ?_
    refine FlowS.mo ?_
    refine FlowS.fi fl125_2 ?_
    refine FlowS.fi fl125_3 ?_
    refine FlowS.lo 2 c132 ?_
    refine FlowS.r rfl (Rd.indexRows (i := 3) (j := i) rfl rfl rfl s132 rfl hy1) ?_
    refine FlowS.r rfl (Rd.load (i := 3) rfl rfl c3 rfl (gives_1 (rows_gives encI_ok hy1) rfl)) ?_
    refine FlowS.lo 0 c3 ?_
    refine FlowS.f rfl (Rd.sub64 rfl rfl rfl (by omega)) ?_
    refine FlowS.lo 0 c3 ?_
    refine FlowS.f rfl (Rd.add64 rfl rfl rfl (by omega)) ?_
    refine FlowS.f rfl (Rd.assign rfl rfl) ?_
    refine FlowS.fin ?_
    refine To.thenN (To.seq ?_)
    refine To.as [box b9 [.string (rowOf x.op).text, .string (rowOf x.op).uses, .int .i64 (popsN x), .int .i64 ((rowOf x.op).pushes)] 125, box b8 [.int .u8 ((x.op : Nat) : Int), .int .i64 x.a, .int .i64 x.b, .int .i64 x.n] 64, box b4 [.slice Ah h1.length qh] 132, rows encI 3 1 Ah qh h1, ros Ins.cells A l, tabC] rfl ?_
    obtain ⟨v, hv⟩ : ∃ z0, z0 = ((m - (popsN x)) + ((rowOf x.op).pushes)) := ⟨_, rfl⟩
    rw [← hv]
    have hv2 : v = aftH m x := by rw [hv, aftH]
    have hvb : 0 ≤ v ∧ v ≤ i + 1 := by omega
    refine To.reg (To.m ?_)
    refine To.lo 2 c132 ?_
    refine To.m ?_
    refine To.r (Rd.indexRows (i := 3) (j := i) rfl rfl rfl s132 rfl hy1) ?_
    refine To.r (Rd.load (i := 3) rfl rfl c3 rfl (gives_1 (rows_gives encI_ok hy1) rfl)) ?_
    refine To.m ?_
    refine To.r (Rd.max3 rfl rfl rfl rfl) ?_
    refine To.a (To.nil (To.thenN (To.seq (To.seq ?_))))
    obtain ⟨y2, hy2⟩ : ∃ z0, h1[i + 1]? = some z0 := ⟨h1[i + 1]'(by omega), List.getElem?_eq_getElem _⟩
    refine To.as [box b9 [.string (rowOf x.op).text, .string (rowOf x.op).uses, .int .i64 (popsN x), .int .i64 ((rowOf x.op).pushes)] 125, box b8 [.int .u8 ((x.op : Nat) : Int), .int .i64 x.a, .int .i64 x.b, .int .i64 x.n] 64, box b4 [.slice Ah h1.length qh] 132, rows encI 3 1 Ah qh h1, ros Ins.cells A l, tabC] rfl ?_
    obtain ⟨top', htop'⟩ : ∃ z0, z0 = (max (max top m) v) := ⟨_, rfl⟩
    rw [← htop']
    refine To.reg ?_
    refine To.f fl64_0 ?_
    refine To.lo 1 c62 ?_
    refine To.r (Rd.neq rfl rfl rfl) ?_
    refine To.rdP rfl rfl rfl (Rd.move rfl rfl) (fun g98 => ?_) (fun g98 => ?_)
    ·
     refine To.f fl64_0 ?_
     refine To.lo 1 c62 ?_
     refine To.r (Rd.neq rfl rfl rfl) ?_
     refine To.r (Rd.pickT rfl rfl rfl) ?_
     refine To.rdP rfl rfl rfl (Rd.move rfl rfl) (fun g103 => ?_) (fun g103 => ?_)
     ·
      refine To.m ?_
      refine To.m ?_
      refine To.r (Rd.inc rfl rfl rfl (by omega)) ?_
      refine To.m ?_
      refine To.call [2, 2] rfl rfl rfl (Ent.func (first := []) (captured := [.pointer (some ⟨b4, 0, none⟩)]) rfl rfl rfl ca46) rfl (set_fn b4 Ah qh h1 (i + 1) v y2 hy2) ?_
      rintro _ _ ⟨rfl, rfl⟩
      refine To.r (Rd.not rfl rfl) ?_
      refine To.r (Rd.pickT rfl rfl rfl) ?_
      refine To.nil ?_
      refine To.sub [(0, .slice A l.length q), (2, .int .i64 top'), (4, .pointer (some ⟨b4, 0, none⟩)), (6, .func (.func 46) #[] #[.pointer (some ⟨b4, 0, none⟩)]), (27, .slice A l.length q), (28, .int .i64 ((l.length : Nat) : Int)), (29, .int .i64 ((i : Nat) : Int)), (30, .bool (decide (((i : Nat) : Int) < ((l.length : Nat) : Int)))), (8, .pointer (some ⟨b8, 0, none⟩)), (7, .int .i64 ((i : Nat) : Int)), (9, .pointer (some ⟨b9, 0, none⟩)), (52, .bool (decide (((x.op : Nat) : Int) = 31))), (77, .bool (decide (m ≠ 0))), (10, .int .i64 v), (110, .bool (!(decide (okH y2 v))))] ⟨rfl, rfl, rfl, rfl, rfl, rfl, rfl, rfl, rfl, rfl, rfl, rfl, rfl, rfl, rfl, trivial⟩ ?_
      refine To.thenN ?_
      refine To.cond rfl (fun c110 => ?_) (fun c110 => ?_)
      ·
       refine To.seq (To.reg (To.a ?_))
       refine To.a (To.nil (To.thenN (To.ret (To.thenR (To.blockR (To.thenR (To.thenR (To.blockR (To.thenR ?_)))))))))
       refine To.end2 (.inl rfl) Tryz.results18 rfl rfl ?_
       have hm2 : max (h.getD i 0) 0 = m := by rw [getD_of hy, hm]
       have hnf : ¬ (m < popsN x ∨ (((x.op : Nat) : Int) = 34 ∧ m ≠ 0)) := by omega
       have hN : nextH h1 i x v = none := by rw [nextH, if_pos (by omega), getD_of hy2, if_neg (by simpa using c110)]
       rw [heights_none (by rw [hI, goH_step hx, show stepH h top i x = none from (by unfold stepH; simp only [hm2, ← hh1, ← hv2]; rw [if_neg hnf, hN]; rfl)]; rfl)]
      refine To.skip (To.thenN (To.seq ?_))
      have hnf : ¬ (m < popsN x ∨ (((x.op : Nat) : Int) = 34 ∧ m ≠ 0)) := by omega
      refine To.as [box b4 [.slice Ah h1.length qh] 132, rows encI 3 1 Ah qh (h1.set (i + 1) v), box b9 [.string (rowOf x.op).text, .string (rowOf x.op).uses, .int .i64 (popsN x), .int .i64 ((rowOf x.op).pushes)] 125, box b8 [.int .u8 ((x.op : Nat) : Int), .int .i64 x.a, .int .i64 x.b, .int .i64 x.n] 64, ros Ins.cells A l, tabC] rfl ?_
      obtain ⟨h2, hh2⟩ : ∃ z0, z0 = (h1.set (i + 1) v) := ⟨_, rfl⟩
      rw [← hh2]
      have hlh2 : h2.length = h1.length := by rw [hh2]; rw [List.length_set]
      rw [← hlh2]
      have hN : nextH h1 i x v = some h2 := by rw [nextH, if_pos (by omega), getD_of hy2, if_pos (by simpa using c110), hh2]
      have hB2 : ∀ y0 ∈ h2, (-1 : Int) ≤ y0 ∧ y0 ≤ ((i + 1 : Nat) : Int) := by rw [hh2]; exact all_set (fun y0 h0 => by have := hB1 y0 h0; omega) (by omega)
      refine To.reg ?_
      refine To.r (Rd.loadS (i := 3) rfl rfl r64 rfl box_whole rfl) ?_
      refine To.callV rfl rfl rfl (Ent.fn rfl rfl ca45) (tgt_fn x) rfl (oks_nil _) ?_
      refine To.m ?_
      refine To.r (Rd.extract rfl rfl rfl) ?_
      refine To.r (Rd.extract rfl rfl rfl) ?_
      refine To.a ?_
      refine To.a (To.nil (To.thenN (To.seq ?_)))
      refine To.as [box b4 [.slice Ah h2.length qh] 132, rows encI 3 1 Ah qh h2, box b9 [.string (rowOf x.op).text, .string (rowOf x.op).uses, .int .i64 (popsN x), .int .i64 ((rowOf x.op).pushes)] 125, box b8 [.int .u8 ((x.op : Nat) : Int), .int .i64 x.a, .int .i64 x.b, .int .i64 x.n] 64, ros Ins.cells A l, tabC] rfl ?_
      obtain ⟨tn, htn⟩ : ∃ tn : Nat, (tgt x).getD 0 = ((tn : Nat) : Int) := ⟨((tgt x).getD 0).toNat, by omega⟩
      rw [htn]
      obtain ⟨y3, hy3⟩ : ∃ z0, h2[tn]? = some z0 := ⟨h2[tn]'(by omega), List.getElem?_eq_getElem _⟩
      have htn2 : ((tgt x).getD 0).toNat = tn := by omega
      refine To.reg (To.m ?_)
      refine To.rdB rfl rfl rfl (Rd.move rfl rfl) (fun g117 => ?_) (fun g117 => ?_)
      ·
       refine To.m ?_
       refine To.m ?_
       refine To.m ?_
       refine To.call [0, 0] rfl rfl rfl (Ent.func (first := []) (captured := [.pointer (some ⟨b4, 0, none⟩)]) rfl rfl rfl ca46) rfl (set_fn b4 Ah qh h2 tn v y3 hy3) ?_
       rintro _ _ ⟨rfl, rfl⟩
       refine To.r (Rd.not rfl rfl) ?_
       refine To.r (Rd.pickT rfl rfl rfl) ?_
       refine To.nil (To.thenN ?_)
       refine To.cond rfl (fun c123 => ?_) (fun c123 => ?_)
       ·
        refine To.seq (To.reg (To.a ?_))
        refine To.a (To.nil (To.thenN (To.ret (To.blockR (To.thenR (To.thenR (To.blockR (To.thenR ?_))))))))
        refine To.end2 (.inl rfl) Tryz.results18 rfl rfl ?_
        have hm2 : max (h.getD i 0) 0 = m := by rw [getD_of hy, hm]
        have hJ : jumpH h2 x v = none := by rw [jumpH, if_pos (by assumption), htn2, getD_of hy3, if_neg (by simpa using c123)]
        rw [heights_none (by rw [hI, goH_step hx, show stepH h top i x = none from (by unfold stepH; simp only [hm2, ← hh1, ← hv2]; rw [if_neg hnf, hN]; simp [hJ])]; rfl)]
       refine To.skip (To.blockN (To.thenN (To.reg ?_)))
       refine To.r (Rd.inc rfl rfl rfl (by omega)) ?_
       refine To.m (To.nil (To.thenN ?_))
       have hm2 : max (h.getD i 0) 0 = m := by rw [getD_of hy, hm]
       have hJ : jumpH h2 x v = some (h2.set tn v) := by rw [jumpH, if_pos (by assumption), htn2, getD_of hy3, if_pos (by simpa using c123)]
       have hS : stepH h top i x = some ((h2.set tn v), top') := by
         unfold stepH; simp only [hm2, ← hh1, ← hv2]; rw [if_neg hnf, hN]; show ((jumpH h2 x v).map fun h3 => (h3, max (max top m) v)) = _; rw [hJ, htop']; rfl
       refine To.sub [(0, .slice A l.length q), (2, .int .i64 top'), (4, .pointer (some ⟨b4, 0, none⟩)), (6, .func (.func 46) #[] #[.pointer (some ⟨b4, 0, none⟩)]), (27, .slice A l.length q), (28, .int .i64 ((l.length : Nat) : Int)), (29, .int .i64 (((i + 1) : Nat) : Int))] ⟨rfl, rfl, rfl, rfl, rfl, rfl, rfl, trivial⟩ ?_
       refine To.only [0, 0, 2, 2] rfl ?_
       refine To.as [box b4 [.slice Ah (h2.set tn v).length qh] 132, rows encI 3 1 Ah qh (h2.set tn v), ros Ins.cells A l, tabC] (by first | rfl | rw [List.length_set] <;> rfl) ?_
       refine To.again (l.length - (i + 1)) (by omega) ⟨(h2.set tn v), top', i + 1, rfl, rfl, rfl, (by omega), (by rw [List.length_set]; omega), (all_set (fun y0 h0 => by have := hB2 y0 h0; omega) (by omega)), (by rw [hI, goH_step hx, hS]; rfl), (by omega)⟩
      refine To.k ?_
      refine To.k ?_
      refine To.k ?_
      refine To.k ?_
      refine To.k ?_
      refine To.r (Rd.pickF rfl rfl rfl) ?_
      refine To.nil (To.thenN ?_)
      refine To.condF rfl ?_
      refine To.skip (To.blockN (To.thenN (To.reg ?_)))
      refine To.r (Rd.inc rfl rfl rfl (by omega)) ?_
      refine To.m (To.nil (To.thenN ?_))
      have hm2 : max (h.getD i 0) 0 = m := by rw [getD_of hy, hm]
      have hJ : jumpH h2 x v = some h2 := by rw [jumpH, if_neg (by simp [g117])]
      have hS : stepH h top i x = some (h2, top') := by
        unfold stepH; simp only [hm2, ← hh1, ← hv2]; rw [if_neg hnf, hN]; show ((jumpH h2 x v).map fun h3 => (h3, max (max top m) v)) = _; rw [hJ, htop']; rfl
      refine To.sub [(0, .slice A l.length q), (2, .int .i64 top'), (4, .pointer (some ⟨b4, 0, none⟩)), (6, .func (.func 46) #[] #[.pointer (some ⟨b4, 0, none⟩)]), (27, .slice A l.length q), (28, .int .i64 ((l.length : Nat) : Int)), (29, .int .i64 (((i + 1) : Nat) : Int))] ⟨rfl, rfl, rfl, rfl, rfl, rfl, rfl, trivial⟩ ?_
      refine To.only [0, 0, 2, 2] rfl ?_
      refine To.as [box b4 [.slice Ah h2.length qh] 132, rows encI 3 1 Ah qh h2, ros Ins.cells A l, tabC] (by first | rfl | rw [List.length_set] <;> rfl) ?_
      refine To.again (l.length - (i + 1)) (by omega) ⟨h2, top', i + 1, rfl, rfl, rfl, (by omega), (by omega), hB2, (by rw [hI, goH_step hx, hS]; rfl), (by omega)⟩
     refine To.k ?_
     refine To.k ?_
     refine To.k ?_
     refine To.k ?_
     refine To.k ?_
     refine To.k ?_
     refine To.r (Rd.pickF rfl rfl rfl) ?_
     refine To.nil ?_
     refine To.sub [(0, .slice A l.length q), (2, .int .i64 top'), (4, .pointer (some ⟨b4, 0, none⟩)), (6, .func (.func 46) #[] #[.pointer (some ⟨b4, 0, none⟩)]), (27, .slice A l.length q), (28, .int .i64 ((l.length : Nat) : Int)), (29, .int .i64 ((i : Nat) : Int)), (30, .bool (decide (((i : Nat) : Int) < ((l.length : Nat) : Int)))), (8, .pointer (some ⟨b8, 0, none⟩)), (7, .int .i64 ((i : Nat) : Int)), (9, .pointer (some ⟨b9, 0, none⟩)), (52, .bool (decide (((x.op : Nat) : Int) = 31))), (77, .bool (decide (m ≠ 0))), (10, .int .i64 v), (110, .bool false)] ⟨rfl, rfl, rfl, rfl, rfl, rfl, rfl, rfl, rfl, rfl, rfl, rfl, rfl, rfl, rfl, trivial⟩ ?_
     refine To.thenN ?_
     refine To.condF rfl ?_
     refine To.skip (To.thenN (To.seq ?_))
     have hnf : ¬ (m < popsN x ∨ (((x.op : Nat) : Int) = 34 ∧ m ≠ 0)) := by omega
     have hN : nextH h1 i x v = some h1 := by rw [nextH, if_neg (by omega)]
     have hB2 : ∀ y0 ∈ h1, (-1 : Int) ≤ y0 ∧ y0 ≤ ((i + 1 : Nat) : Int) := fun y0 h0 => by have := hB1 y0 h0; omega
     refine To.reg ?_
     refine To.r (Rd.loadS (i := 1) rfl rfl r64 rfl box_whole rfl) ?_
     refine To.callV rfl rfl rfl (Ent.fn rfl rfl ca45) (tgt_fn x) rfl (oks_nil _) ?_
     refine To.m ?_
     refine To.r (Rd.extract rfl rfl rfl) ?_
     refine To.r (Rd.extract rfl rfl rfl) ?_
     refine To.a ?_
     refine To.a (To.nil (To.thenN (To.seq ?_)))
     refine To.as [box b9 [.string (rowOf x.op).text, .string (rowOf x.op).uses, .int .i64 (popsN x), .int .i64 ((rowOf x.op).pushes)] 125, box b8 [.int .u8 ((x.op : Nat) : Int), .int .i64 x.a, .int .i64 x.b, .int .i64 x.n] 64, box b4 [.slice Ah h1.length qh] 132, rows encI 3 1 Ah qh h1, ros Ins.cells A l, tabC] rfl ?_
     obtain ⟨tn, htn⟩ : ∃ tn : Nat, (tgt x).getD 0 = ((tn : Nat) : Int) := ⟨((tgt x).getD 0).toNat, by omega⟩
     rw [htn]
     obtain ⟨y3, hy3⟩ : ∃ z0, h1[tn]? = some z0 := ⟨h1[tn]'(by omega), List.getElem?_eq_getElem _⟩
     have htn2 : ((tgt x).getD 0).toNat = tn := by omega
     refine To.reg (To.m ?_)
     refine To.rdB rfl rfl rfl (Rd.move rfl rfl) (fun g117 => ?_) (fun g117 => ?_)
     ·
      refine To.m ?_
      refine To.m ?_
      refine To.m ?_
      refine To.call [2, 2] rfl rfl rfl (Ent.func (first := []) (captured := [.pointer (some ⟨b4, 0, none⟩)]) rfl rfl rfl ca46) rfl (set_fn b4 Ah qh h1 tn v y3 hy3) ?_
      rintro _ _ ⟨rfl, rfl⟩
      refine To.r (Rd.not rfl rfl) ?_
      refine To.r (Rd.pickT rfl rfl rfl) ?_
      refine To.nil (To.thenN ?_)
      refine To.cond rfl (fun c123 => ?_) (fun c123 => ?_)
      ·
       refine To.seq (To.reg (To.a ?_))
       refine To.a (To.nil (To.thenN (To.ret (To.blockR (To.thenR (To.thenR (To.blockR (To.thenR ?_))))))))
       refine To.end2 (.inl rfl) Tryz.results18 rfl rfl ?_
       have hm2 : max (h.getD i 0) 0 = m := by rw [getD_of hy, hm]
       have hJ : jumpH h1 x v = none := by rw [jumpH, if_pos (by assumption), htn2, getD_of hy3, if_neg (by simpa using c123)]
       rw [heights_none (by rw [hI, goH_step hx, show stepH h top i x = none from (by unfold stepH; simp only [hm2, ← hh1, ← hv2]; rw [if_neg hnf, hN]; simp [hJ])]; rfl)]
      refine To.skip (To.blockN (To.thenN (To.reg ?_)))
      refine To.r (Rd.inc rfl rfl rfl (by omega)) ?_
      refine To.m (To.nil (To.thenN ?_))
      have hm2 : max (h.getD i 0) 0 = m := by rw [getD_of hy, hm]
      have hJ : jumpH h1 x v = some (h1.set tn v) := by rw [jumpH, if_pos (by assumption), htn2, getD_of hy3, if_pos (by simpa using c123)]
      have hS : stepH h top i x = some ((h1.set tn v), top') := by
        unfold stepH; simp only [hm2, ← hh1, ← hv2]; rw [if_neg hnf, hN]; show ((jumpH h1 x v).map fun h3 => (h3, max (max top m) v)) = _; rw [hJ, htop']; rfl
      refine To.sub [(0, .slice A l.length q), (2, .int .i64 top'), (4, .pointer (some ⟨b4, 0, none⟩)), (6, .func (.func 46) #[] #[.pointer (some ⟨b4, 0, none⟩)]), (27, .slice A l.length q), (28, .int .i64 ((l.length : Nat) : Int)), (29, .int .i64 (((i + 1) : Nat) : Int))] ⟨rfl, rfl, rfl, rfl, rfl, rfl, rfl, trivial⟩ ?_
      refine To.only [0, 0, 2, 2] rfl ?_
      refine To.as [box b4 [.slice Ah (h1.set tn v).length qh] 132, rows encI 3 1 Ah qh (h1.set tn v), ros Ins.cells A l, tabC] (by first | rfl | rw [List.length_set] <;> rfl) ?_
      refine To.again (l.length - (i + 1)) (by omega) ⟨(h1.set tn v), top', i + 1, rfl, rfl, rfl, (by omega), (by rw [List.length_set]; omega), (all_set (fun y0 h0 => by have := hB2 y0 h0; omega) (by omega)), (by rw [hI, goH_step hx, hS]; rfl), (by omega)⟩
     refine To.k ?_
     refine To.k ?_
     refine To.k ?_
     refine To.k ?_
     refine To.k ?_
     refine To.r (Rd.pickF rfl rfl rfl) ?_
     refine To.nil (To.thenN ?_)
     refine To.condF rfl ?_
     refine To.skip (To.blockN (To.thenN (To.reg ?_)))
     refine To.r (Rd.inc rfl rfl rfl (by omega)) ?_
     refine To.m (To.nil (To.thenN ?_))
     have hm2 : max (h.getD i 0) 0 = m := by rw [getD_of hy, hm]
     have hJ : jumpH h1 x v = some h1 := by rw [jumpH, if_neg (by simp [g117])]
     have hS : stepH h top i x = some (h1, top') := by
       unfold stepH; simp only [hm2, ← hh1, ← hv2]; rw [if_neg hnf, hN]; show ((jumpH h1 x v).map fun h3 => (h3, max (max top m) v)) = _; rw [hJ, htop']; rfl
     refine To.sub [(0, .slice A l.length q), (2, .int .i64 top'), (4, .pointer (some ⟨b4, 0, none⟩)), (6, .func (.func 46) #[] #[.pointer (some ⟨b4, 0, none⟩)]), (27, .slice A l.length q), (28, .int .i64 ((l.length : Nat) : Int)), (29, .int .i64 (((i + 1) : Nat) : Int))] ⟨rfl, rfl, rfl, rfl, rfl, rfl, rfl, trivial⟩ ?_
     refine To.only [2, 2, 2, 2] rfl ?_
     refine To.as [box b4 [.slice Ah h1.length qh] 132, rows encI 3 1 Ah qh h1, ros Ins.cells A l, tabC] (by first | rfl | rw [List.length_set] <;> rfl) ?_
     refine To.again (l.length - (i + 1)) (by omega) ⟨h1, top', i + 1, rfl, rfl, rfl, (by omega), (by omega), hB2, (by rw [hI, goH_step hx, hS]; rfl), (by omega)⟩
    refine To.k ?_
    refine To.k ?_
    refine To.k ?_
    refine To.r (Rd.pickF rfl rfl rfl) ?_
    refine To.m ?_
    refine To.k ?_
    refine To.k ?_
    refine To.k ?_
    refine To.k ?_
    refine To.k ?_
    refine To.k ?_
    refine To.r (Rd.pickF rfl rfl rfl) ?_
    refine To.nil ?_
    refine To.sub [(0, .slice A l.length q), (2, .int .i64 top'), (4, .pointer (some ⟨b4, 0, none⟩)), (6, .func (.func 46) #[] #[.pointer (some ⟨b4, 0, none⟩)]), (27, .slice A l.length q), (28, .int .i64 ((l.length : Nat) : Int)), (29, .int .i64 ((i : Nat) : Int)), (30, .bool (decide (((i : Nat) : Int) < ((l.length : Nat) : Int)))), (8, .pointer (some ⟨b8, 0, none⟩)), (7, .int .i64 ((i : Nat) : Int)), (9, .pointer (some ⟨b9, 0, none⟩)), (52, .bool (decide (((x.op : Nat) : Int) = 31))), (77, .bool (decide (m ≠ 0))), (10, .int .i64 v), (110, .bool false)] ⟨rfl, rfl, rfl, rfl, rfl, rfl, rfl, rfl, rfl, rfl, rfl, rfl, rfl, rfl, rfl, trivial⟩ ?_
    refine To.thenN ?_
    refine To.condF rfl ?_
    refine To.skip (To.thenN (To.seq ?_))
    have hnf : ¬ (m < popsN x ∨ (((x.op : Nat) : Int) = 34 ∧ m ≠ 0)) := by omega
    have hN : nextH h1 i x v = some h1 := by rw [nextH, if_neg (by omega)]
    have hB2 : ∀ y0 ∈ h1, (-1 : Int) ≤ y0 ∧ y0 ≤ ((i + 1 : Nat) : Int) := fun y0 h0 => by have := hB1 y0 h0; omega
    refine To.reg ?_
    refine To.r (Rd.loadS (i := 1) rfl rfl r64 rfl box_whole rfl) ?_
    refine To.callV rfl rfl rfl (Ent.fn rfl rfl ca45) (tgt_fn x) rfl (oks_nil _) ?_
    refine To.m ?_
    refine To.r (Rd.extract rfl rfl rfl) ?_
    refine To.r (Rd.extract rfl rfl rfl) ?_
    refine To.a ?_
    refine To.a (To.nil (To.thenN (To.seq ?_)))
    refine To.as [box b9 [.string (rowOf x.op).text, .string (rowOf x.op).uses, .int .i64 (popsN x), .int .i64 ((rowOf x.op).pushes)] 125, box b8 [.int .u8 ((x.op : Nat) : Int), .int .i64 x.a, .int .i64 x.b, .int .i64 x.n] 64, box b4 [.slice Ah h1.length qh] 132, rows encI 3 1 Ah qh h1, ros Ins.cells A l, tabC] rfl ?_
    obtain ⟨tn, htn⟩ : ∃ tn : Nat, (tgt x).getD 0 = ((tn : Nat) : Int) := ⟨((tgt x).getD 0).toNat, by omega⟩
    rw [htn]
    obtain ⟨y3, hy3⟩ : ∃ z0, h1[tn]? = some z0 := ⟨h1[tn]'(by omega), List.getElem?_eq_getElem _⟩
    have htn2 : ((tgt x).getD 0).toNat = tn := by omega
    refine To.reg (To.m ?_)
    refine To.rdB rfl rfl rfl (Rd.move rfl rfl) (fun g117 => ?_) (fun g117 => ?_)
    ·
     refine To.m ?_
     refine To.m ?_
     refine To.m ?_
     refine To.call [2, 2] rfl rfl rfl (Ent.func (first := []) (captured := [.pointer (some ⟨b4, 0, none⟩)]) rfl rfl rfl ca46) rfl (set_fn b4 Ah qh h1 tn v y3 hy3) ?_
     rintro _ _ ⟨rfl, rfl⟩
     refine To.r (Rd.not rfl rfl) ?_
     refine To.r (Rd.pickT rfl rfl rfl) ?_
     refine To.nil (To.thenN ?_)
     refine To.cond rfl (fun c123 => ?_) (fun c123 => ?_)
     ·
      refine To.seq (To.reg (To.a ?_))
      refine To.a (To.nil (To.thenN (To.ret (To.blockR (To.thenR (To.thenR (To.blockR (To.thenR ?_))))))))
      refine To.end2 (.inl rfl) Tryz.results18 rfl rfl ?_
      have hm2 : max (h.getD i 0) 0 = m := by rw [getD_of hy, hm]
      have hJ : jumpH h1 x v = none := by rw [jumpH, if_pos (by assumption), htn2, getD_of hy3, if_neg (by simpa using c123)]
      rw [heights_none (by rw [hI, goH_step hx, show stepH h top i x = none from (by unfold stepH; simp only [hm2, ← hh1, ← hv2]; rw [if_neg hnf, hN]; simp [hJ])]; rfl)]
     refine To.skip (To.blockN (To.thenN (To.reg ?_)))
     refine To.r (Rd.inc rfl rfl rfl (by omega)) ?_
     refine To.m (To.nil (To.thenN ?_))
     have hm2 : max (h.getD i 0) 0 = m := by rw [getD_of hy, hm]
     have hJ : jumpH h1 x v = some (h1.set tn v) := by rw [jumpH, if_pos (by assumption), htn2, getD_of hy3, if_pos (by simpa using c123)]
     have hS : stepH h top i x = some ((h1.set tn v), top') := by
       unfold stepH; simp only [hm2, ← hh1, ← hv2]; rw [if_neg hnf, hN]; show ((jumpH h1 x v).map fun h3 => (h3, max (max top m) v)) = _; rw [hJ, htop']; rfl
     refine To.sub [(0, .slice A l.length q), (2, .int .i64 top'), (4, .pointer (some ⟨b4, 0, none⟩)), (6, .func (.func 46) #[] #[.pointer (some ⟨b4, 0, none⟩)]), (27, .slice A l.length q), (28, .int .i64 ((l.length : Nat) : Int)), (29, .int .i64 (((i + 1) : Nat) : Int))] ⟨rfl, rfl, rfl, rfl, rfl, rfl, rfl, trivial⟩ ?_
     refine To.only [0, 0, 2, 2] rfl ?_
     refine To.as [box b4 [.slice Ah (h1.set tn v).length qh] 132, rows encI 3 1 Ah qh (h1.set tn v), ros Ins.cells A l, tabC] (by first | rfl | rw [List.length_set] <;> rfl) ?_
     refine To.again (l.length - (i + 1)) (by omega) ⟨(h1.set tn v), top', i + 1, rfl, rfl, rfl, (by omega), (by rw [List.length_set]; omega), (all_set (fun y0 h0 => by have := hB2 y0 h0; omega) (by omega)), (by rw [hI, goH_step hx, hS]; rfl), (by omega)⟩
    refine To.k ?_
    refine To.k ?_
    refine To.k ?_
    refine To.k ?_
    refine To.k ?_
    refine To.r (Rd.pickF rfl rfl rfl) ?_
    refine To.nil (To.thenN ?_)
    refine To.condF rfl ?_
    refine To.skip (To.blockN (To.thenN (To.reg ?_)))
    refine To.r (Rd.inc rfl rfl rfl (by omega)) ?_
    refine To.m (To.nil (To.thenN ?_))
    have hm2 : max (h.getD i 0) 0 = m := by rw [getD_of hy, hm]
    have hJ : jumpH h1 x v = some h1 := by rw [jumpH, if_neg (by simp [g117])]
    have hS : stepH h top i x = some (h1, top') := by
      unfold stepH; simp only [hm2, ← hh1, ← hv2]; rw [if_neg hnf, hN]; show ((jumpH h1 x v).map fun h3 => (h3, max (max top m) v)) = _; rw [hJ, htop']; rfl
    refine To.sub [(0, .slice A l.length q), (2, .int .i64 top'), (4, .pointer (some ⟨b4, 0, none⟩)), (6, .func (.func 46) #[] #[.pointer (some ⟨b4, 0, none⟩)]), (27, .slice A l.length q), (28, .int .i64 ((l.length : Nat) : Int)), (29, .int .i64 (((i + 1) : Nat) : Int))] ⟨rfl, rfl, rfl, rfl, rfl, rfl, rfl, trivial⟩ ?_
    refine To.only [2, 2, 2, 2] rfl ?_
    refine To.as [box b4 [.slice Ah h1.length qh] 132, rows encI 3 1 Ah qh h1, ros Ins.cells A l, tabC] (by first | rfl | rw [List.length_set] <;> rfl) ?_
    refine To.again (l.length - (i + 1)) (by omega) ⟨h1, top', i + 1, rfl, rfl, rfl, (by omega), (by omega), hB2, (by rw [hI, goH_step hx, hS]; rfl), (by omega)⟩
   refine FlowS.skip (by decide) rfl rfl rfl rfl ?_
   refine FlowS.skip (by decide) rfl rfl rfl rfl ?_
   refine FlowS.skip (by decide) rfl rfl rfl rfl ?_
   refine FlowS.skip (by decide) rfl rfl rfl rfl ?_
   refine FlowS.skip (by decide) rfl rfl rfl rfl ?_
   refine FlowS.f rfl (Rd.pickF rfl rfl rfl) ?_
   refine FlowS.f rfl (Rd.pickF rfl rfl rfl) ?_
   refine FlowS.fin ?_
   refine To.thenN ?_
   refine To.condF rfl ?_
   refine To.skip (To.thenN (To.seq ?_))
   refine To.flow [] [⟨1, [], 0⟩, ⟨4, [], 0⟩, ⟨7, [], 0⟩, ⟨0, [], 1⟩, ⟨2, [], 1⟩, ⟨3, [], 1⟩, ⟨5, [], 1⟩, ⟨6, [], 0⟩, ⟨8, [], 1⟩, ⟨9, [], 0⟩, ⟨10, [], 0⟩] mixed (by kernel_rfl) (oks_nil _) ?_
   refine FlowS.mo ?_
   refine FlowS.fi fl125_2 ?_
   refine FlowS.fi fl125_3 ?_
   refine FlowS.lo 2 c132 ?_
   refine FlowS.r rfl (Rd.indexRows (i := 3) (j := i) rfl rfl rfl s132 rfl hy1) ?_
   refine FlowS.r rfl (Rd.load (i := 3) rfl rfl c3 rfl (gives_1 (rows_gives encI_ok hy1) rfl)) ?_
   refine FlowS.lo 0 c3 ?_
   refine FlowS.f rfl (Rd.sub64 rfl rfl rfl (by omega)) ?_
   refine FlowS.lo 0 c3 ?_
   refine FlowS.f rfl (Rd.add64 rfl rfl rfl (by omega)) ?_
   refine FlowS.f rfl (Rd.assign rfl rfl) ?_
   refine FlowS.fin ?_
   refine To.thenN (To.seq ?_)
   refine To.as [box b9 [.string (rowOf x.op).text, .string (rowOf x.op).uses, .int .i64 (popsN x), .int .i64 ((rowOf x.op).pushes)] 125, box b8 [.int .u8 ((x.op : Nat) : Int), .int .i64 x.a, .int .i64 x.b, .int .i64 x.n] 64, box b4 [.slice Ah h1.length qh] 132, rows encI 3 1 Ah qh h1, ros Ins.cells A l, tabC] rfl ?_
   obtain ⟨v, hv⟩ : ∃ z0, z0 = ((m - (popsN x)) + ((rowOf x.op).pushes)) := ⟨_, rfl⟩
   rw [← hv]
   have hv2 : v = aftH m x := by rw [hv, aftH]
   have hvb : 0 ≤ v ∧ v ≤ i + 1 := by omega
   refine To.reg (To.m ?_)
   refine To.lo 2 c132 ?_
   refine To.m ?_
   refine To.r (Rd.indexRows (i := 3) (j := i) rfl rfl rfl s132 rfl hy1) ?_
   refine To.r (Rd.load (i := 3) rfl rfl c3 rfl (gives_1 (rows_gives encI_ok hy1) rfl)) ?_
   refine To.m ?_
   refine To.r (Rd.max3 rfl rfl rfl rfl) ?_
   refine To.a (To.nil (To.thenN (To.seq (To.seq ?_))))
   obtain ⟨y2, hy2⟩ : ∃ z0, h1[i + 1]? = some z0 := ⟨h1[i + 1]'(by omega), List.getElem?_eq_getElem _⟩
   refine To.as [box b9 [.string (rowOf x.op).text, .string (rowOf x.op).uses, .int .i64 (popsN x), .int .i64 ((rowOf x.op).pushes)] 125, box b8 [.int .u8 ((x.op : Nat) : Int), .int .i64 x.a, .int .i64 x.b, .int .i64 x.n] 64, box b4 [.slice Ah h1.length qh] 132, rows encI 3 1 Ah qh h1, ros Ins.cells A l, tabC] rfl ?_
   obtain ⟨top', htop'⟩ : ∃ z0, z0 = (max (max top m) v) := ⟨_, rfl⟩
   rw [← htop']
   refine To.reg ?_
   refine To.f fl64_0 ?_
   refine To.lo 1 c62 ?_
   refine To.r (Rd.neq rfl rfl rfl) ?_
   refine To.rdP rfl rfl rfl (Rd.move rfl rfl) (fun g98 => ?_) (fun g98 => ?_)
   ·
    refine To.f fl64_0 ?_
    refine To.lo 1 c62 ?_
    refine To.r (Rd.neq rfl rfl rfl) ?_
    refine To.r (Rd.pickT rfl rfl rfl) ?_
    refine To.rdP rfl rfl rfl (Rd.move rfl rfl) (fun g103 => ?_) (fun g103 => ?_)
    ·
     refine To.m ?_
     refine To.m ?_
     refine To.r (Rd.inc rfl rfl rfl (by omega)) ?_
     refine To.m ?_
     refine To.call [2, 2] rfl rfl rfl (Ent.func (first := []) (captured := [.pointer (some ⟨b4, 0, none⟩)]) rfl rfl rfl ca46) rfl (set_fn b4 Ah qh h1 (i + 1) v y2 hy2) ?_
     rintro _ _ ⟨rfl, rfl⟩
     refine To.r (Rd.not rfl rfl) ?_
     refine To.r (Rd.pickT rfl rfl rfl) ?_
     refine To.nil ?_
     refine To.sub [(0, .slice A l.length q), (2, .int .i64 top'), (4, .pointer (some ⟨b4, 0, none⟩)), (6, .func (.func 46) #[] #[.pointer (some ⟨b4, 0, none⟩)]), (27, .slice A l.length q), (28, .int .i64 ((l.length : Nat) : Int)), (29, .int .i64 ((i : Nat) : Int)), (30, .bool (decide (((i : Nat) : Int) < ((l.length : Nat) : Int)))), (8, .pointer (some ⟨b8, 0, none⟩)), (7, .int .i64 ((i : Nat) : Int)), (9, .pointer (some ⟨b9, 0, none⟩)), (52, .bool (decide (((x.op : Nat) : Int) = 31))), (77, .bool false), (10, .int .i64 v), (110, .bool (!(decide (okH y2 v))))] ⟨rfl, rfl, rfl, rfl, rfl, rfl, rfl, rfl, rfl, rfl, rfl, rfl, rfl, rfl, rfl, trivial⟩ ?_
     refine To.thenN ?_
     refine To.cond rfl (fun c110 => ?_) (fun c110 => ?_)
     ·
      refine To.seq (To.reg (To.a ?_))
      refine To.a (To.nil (To.thenN (To.ret (To.thenR (To.blockR (To.thenR (To.thenR (To.blockR (To.thenR ?_)))))))))
      refine To.end2 (.inl rfl) Tryz.results18 rfl rfl ?_
      have hm2 : max (h.getD i 0) 0 = m := by rw [getD_of hy, hm]
      have hnf : ¬ (m < popsN x ∨ (((x.op : Nat) : Int) = 34 ∧ m ≠ 0)) := by omega
      have hN : nextH h1 i x v = none := by rw [nextH, if_pos (by omega), getD_of hy2, if_neg (by simpa using c110)]
      rw [heights_none (by rw [hI, goH_step hx, show stepH h top i x = none from (by unfold stepH; simp only [hm2, ← hh1, ← hv2]; rw [if_neg hnf, hN]; rfl)]; rfl)]
     refine To.skip (To.thenN (To.seq ?_))
     have hnf : ¬ (m < popsN x ∨ (((x.op : Nat) : Int) = 34 ∧ m ≠ 0)) := by omega
     refine To.as [box b4 [.slice Ah h1.length qh] 132, rows encI 3 1 Ah qh (h1.set (i + 1) v), box b9 [.string (rowOf x.op).text, .string (rowOf x.op).uses, .int .i64 (popsN x), .int .i64 ((rowOf x.op).pushes)] 125, box b8 [.int .u8 ((x.op : Nat) : Int), .int .i64 x.a, .int .i64 x.b, .int .i64 x.n] 64, ros Ins.cells A l, tabC] rfl ?_
     obtain ⟨h2, hh2⟩ : ∃ z0, z0 = (h1.set (i + 1) v) := ⟨_, rfl⟩
     rw [← hh2]
     have hlh2 : h2.length = h1.length := by rw [hh2]; rw [List.length_set]
     rw [← hlh2]
     have hN : nextH h1 i x v = some h2 := by rw [nextH, if_pos (by omega), getD_of hy2, if_pos (by simpa using c110), hh2]
     have hB2 : ∀ y0 ∈ h2, (-1 : Int) ≤ y0 ∧ y0 ≤ ((i + 1 : Nat) : Int) := by rw [hh2]; exact all_set (fun y0 h0 => by have := hB1 y0 h0; omega) (by omega)
     refine To.reg ?_
     refine To.r (Rd.loadS (i := 3) rfl rfl r64 rfl box_whole rfl) ?_
     refine To.callV rfl rfl rfl (Ent.fn rfl rfl ca45) (tgt_fn x) rfl (oks_nil _) ?_
     refine To.m ?_
     refine To.r (Rd.extract rfl rfl rfl) ?_
     refine To.r (Rd.extract rfl rfl rfl) ?_
     refine To.a ?_
     refine To.a (To.nil (To.thenN (To.seq ?_)))
     refine To.as [box b4 [.slice Ah h2.length qh] 132, rows encI 3 1 Ah qh h2, box b9 [.string (rowOf x.op).text, .string (rowOf x.op).uses, .int .i64 (popsN x), .int .i64 ((rowOf x.op).pushes)] 125, box b8 [.int .u8 ((x.op : Nat) : Int), .int .i64 x.a, .int .i64 x.b, .int .i64 x.n] 64, ros Ins.cells A l, tabC] rfl ?_
     obtain ⟨tn, htn⟩ : ∃ tn : Nat, (tgt x).getD 0 = ((tn : Nat) : Int) := ⟨((tgt x).getD 0).toNat, by omega⟩
     rw [htn]
     obtain ⟨y3, hy3⟩ : ∃ z0, h2[tn]? = some z0 := ⟨h2[tn]'(by omega), List.getElem?_eq_getElem _⟩
     have htn2 : ((tgt x).getD 0).toNat = tn := by omega
     refine To.reg (To.m ?_)
     refine To.rdB rfl rfl rfl (Rd.move rfl rfl) (fun g117 => ?_) (fun g117 => ?_)
     ·
      refine To.m ?_
      refine To.m ?_
      refine To.m ?_
      refine To.call [0, 0] rfl rfl rfl (Ent.func (first := []) (captured := [.pointer (some ⟨b4, 0, none⟩)]) rfl rfl rfl ca46) rfl (set_fn b4 Ah qh h2 tn v y3 hy3) ?_
      rintro _ _ ⟨rfl, rfl⟩
      refine To.r (Rd.not rfl rfl) ?_
      refine To.r (Rd.pickT rfl rfl rfl) ?_
      refine To.nil (To.thenN ?_)
      refine To.cond rfl (fun c123 => ?_) (fun c123 => ?_)
      ·
       refine To.seq (To.reg (To.a ?_))
       refine To.a (To.nil (To.thenN (To.ret (To.blockR (To.thenR (To.thenR (To.blockR (To.thenR ?_))))))))
       refine To.end2 (.inl rfl) Tryz.results18 rfl rfl ?_
       have hm2 : max (h.getD i 0) 0 = m := by rw [getD_of hy, hm]
       have hJ : jumpH h2 x v = none := by rw [jumpH, if_pos (by assumption), htn2, getD_of hy3, if_neg (by simpa using c123)]
       rw [heights_none (by rw [hI, goH_step hx, show stepH h top i x = none from (by unfold stepH; simp only [hm2, ← hh1, ← hv2]; rw [if_neg hnf, hN]; simp [hJ])]; rfl)]
      refine To.skip (To.blockN (To.thenN (To.reg ?_)))
      refine To.r (Rd.inc rfl rfl rfl (by omega)) ?_
      refine To.m (To.nil (To.thenN ?_))
      have hm2 : max (h.getD i 0) 0 = m := by rw [getD_of hy, hm]
      have hJ : jumpH h2 x v = some (h2.set tn v) := by rw [jumpH, if_pos (by assumption), htn2, getD_of hy3, if_pos (by simpa using c123)]
      have hS : stepH h top i x = some ((h2.set tn v), top') := by
        unfold stepH; simp only [hm2, ← hh1, ← hv2]; rw [if_neg hnf, hN]; show ((jumpH h2 x v).map fun h3 => (h3, max (max top m) v)) = _; rw [hJ, htop']; rfl
      refine To.sub [(0, .slice A l.length q), (2, .int .i64 top'), (4, .pointer (some ⟨b4, 0, none⟩)), (6, .func (.func 46) #[] #[.pointer (some ⟨b4, 0, none⟩)]), (27, .slice A l.length q), (28, .int .i64 ((l.length : Nat) : Int)), (29, .int .i64 (((i + 1) : Nat) : Int))] ⟨rfl, rfl, rfl, rfl, rfl, rfl, rfl, trivial⟩ ?_
      refine To.only [0, 0, 2, 2] rfl ?_
      refine To.as [box b4 [.slice Ah (h2.set tn v).length qh] 132, rows encI 3 1 Ah qh (h2.set tn v), ros Ins.cells A l, tabC] (by first | rfl | rw [List.length_set] <;> rfl) ?_
      refine To.again (l.length - (i + 1)) (by omega) ⟨(h2.set tn v), top', i + 1, rfl, rfl, rfl, (by omega), (by rw [List.length_set]; omega), (all_set (fun y0 h0 => by have := hB2 y0 h0; omega) (by omega)), (by rw [hI, goH_step hx, hS]; rfl), (by omega)⟩
     refine To.k ?_
     refine To.k ?_
     refine To.k ?_
     refine To.k ?_
     refine To.k ?_
     refine To.r (Rd.pickF rfl rfl rfl) ?_
     refine To.nil (To.thenN ?_)
     refine To.condF rfl ?_
     refine To.skip (To.blockN (To.thenN (To.reg ?_)))
     refine To.r (Rd.inc rfl rfl rfl (by omega)) ?_
     refine To.m (To.nil (To.thenN ?_))
     have hm2 : max (h.getD i 0) 0 = m := by rw [getD_of hy, hm]
     have hJ : jumpH h2 x v = some h2 := by rw [jumpH, if_neg (by simp [g117])]
     have hS : stepH h top i x = some (h2, top') := by
       unfold stepH; simp only [hm2, ← hh1, ← hv2]; rw [if_neg hnf, hN]; show ((jumpH h2 x v).map fun h3 => (h3, max (max top m) v)) = _; rw [hJ, htop']; rfl
     refine To.sub [(0, .slice A l.length q), (2, .int .i64 top'), (4, .pointer (some ⟨b4, 0, none⟩)), (6, .func (.func 46) #[] #[.pointer (some ⟨b4, 0, none⟩)]), (27, .slice A l.length q), (28, .int .i64 ((l.length : Nat) : Int)), (29, .int .i64 (((i + 1) : Nat) : Int))] ⟨rfl, rfl, rfl, rfl, rfl, rfl, rfl, trivial⟩ ?_
     refine To.only [0, 0, 2, 2] rfl ?_
     refine To.as [box b4 [.slice Ah h2.length qh] 132, rows encI 3 1 Ah qh h2, ros Ins.cells A l, tabC] (by first | rfl | rw [List.length_set] <;> rfl) ?_
     refine To.again (l.length - (i + 1)) (by omega) ⟨h2, top', i + 1, rfl, rfl, rfl, (by omega), (by omega), hB2, (by rw [hI, goH_step hx, hS]; rfl), (by omega)⟩
    refine To.k ?_
    refine To.k ?_
    refine To.k ?_
    refine To.k ?_
    refine To.k ?_
    refine To.k ?_
    refine To.r (Rd.pickF rfl rfl rfl) ?_
    refine To.nil ?_
    refine To.sub [(0, .slice A l.length q), (2, .int .i64 top'), (4, .pointer (some ⟨b4, 0, none⟩)), (6, .func (.func 46) #[] #[.pointer (some ⟨b4, 0, none⟩)]), (27, .slice A l.length q), (28, .int .i64 ((l.length : Nat) : Int)), (29, .int .i64 ((i : Nat) : Int)), (30, .bool (decide (((i : Nat) : Int) < ((l.length : Nat) : Int)))), (8, .pointer (some ⟨b8, 0, none⟩)), (7, .int .i64 ((i : Nat) : Int)), (9, .pointer (some ⟨b9, 0, none⟩)), (52, .bool (decide (((x.op : Nat) : Int) = 31))), (77, .bool false), (10, .int .i64 v), (110, .bool false)] ⟨rfl, rfl, rfl, rfl, rfl, rfl, rfl, rfl, rfl, rfl, rfl, rfl, rfl, rfl, rfl, trivial⟩ ?_
    refine To.thenN ?_
    refine To.condF rfl ?_
    refine To.skip (To.thenN (To.seq ?_))
    have hnf : ¬ (m < popsN x ∨ (((x.op : Nat) : Int) = 34 ∧ m ≠ 0)) := by omega
    have hN : nextH h1 i x v = some h1 := by rw [nextH, if_neg (by omega)]
    have hB2 : ∀ y0 ∈ h1, (-1 : Int) ≤ y0 ∧ y0 ≤ ((i + 1 : Nat) : Int) := fun y0 h0 => by have := hB1 y0 h0; omega
    refine To.reg ?_
    refine To.r (Rd.loadS (i := 1) rfl rfl r64 rfl box_whole rfl) ?_
    refine To.callV rfl rfl rfl (Ent.fn rfl rfl ca45) (tgt_fn x) rfl (oks_nil _) ?_
    refine To.m ?_
    refine To.r (Rd.extract rfl rfl rfl) ?_
    refine To.r (Rd.extract rfl rfl rfl) ?_
    refine To.a ?_
    refine To.a (To.nil (To.thenN (To.seq ?_)))
    refine To.as [box b9 [.string (rowOf x.op).text, .string (rowOf x.op).uses, .int .i64 (popsN x), .int .i64 ((rowOf x.op).pushes)] 125, box b8 [.int .u8 ((x.op : Nat) : Int), .int .i64 x.a, .int .i64 x.b, .int .i64 x.n] 64, box b4 [.slice Ah h1.length qh] 132, rows encI 3 1 Ah qh h1, ros Ins.cells A l, tabC] rfl ?_
    obtain ⟨tn, htn⟩ : ∃ tn : Nat, (tgt x).getD 0 = ((tn : Nat) : Int) := ⟨((tgt x).getD 0).toNat, by omega⟩
    rw [htn]
    obtain ⟨y3, hy3⟩ : ∃ z0, h1[tn]? = some z0 := ⟨h1[tn]'(by omega), List.getElem?_eq_getElem _⟩
    have htn2 : ((tgt x).getD 0).toNat = tn := by omega
    refine To.reg (To.m ?_)
    refine To.rdB rfl rfl rfl (Rd.move rfl rfl) (fun g117 => ?_) (fun g117 => ?_)
    ·
     refine To.m ?_
     refine To.m ?_
     refine To.m ?_
     refine To.call [2, 2] rfl rfl rfl (Ent.func (first := []) (captured := [.pointer (some ⟨b4, 0, none⟩)]) rfl rfl rfl ca46) rfl (set_fn b4 Ah qh h1 tn v y3 hy3) ?_
     rintro _ _ ⟨rfl, rfl⟩
     refine To.r (Rd.not rfl rfl) ?_
     refine To.r (Rd.pickT rfl rfl rfl) ?_
     refine To.nil (To.thenN ?_)
     refine To.cond rfl (fun c123 => ?_) (fun c123 => ?_)
     ·
      refine To.seq (To.reg (To.a ?_))
      refine To.a (To.nil (To.thenN (To.ret (To.blockR (To.thenR (To.thenR (To.blockR (To.thenR ?_))))))))
      refine To.end2 (.inl rfl) Tryz.results18 rfl rfl ?_
      have hm2 : max (h.getD i 0) 0 = m := by rw [getD_of hy, hm]
      have hJ : jumpH h1 x v = none := by rw [jumpH, if_pos (by assumption), htn2, getD_of hy3, if_neg (by simpa using c123)]
      rw [heights_none (by rw [hI, goH_step hx, show stepH h top i x = none from (by unfold stepH; simp only [hm2, ← hh1, ← hv2]; rw [if_neg hnf, hN]; simp [hJ])]; rfl)]
     refine To.skip (To.blockN (To.thenN (To.reg ?_)))
     refine To.r (Rd.inc rfl rfl rfl (by omega)) ?_
     refine To.m (To.nil (To.thenN ?_))
     have hm2 : max (h.getD i 0) 0 = m := by rw [getD_of hy, hm]
     have hJ : jumpH h1 x v = some (h1.set tn v) := by rw [jumpH, if_pos (by assumption), htn2, getD_of hy3, if_pos (by simpa using c123)]
     have hS : stepH h top i x = some ((h1.set tn v), top') := by
       unfold stepH; simp only [hm2, ← hh1, ← hv2]; rw [if_neg hnf, hN]; show ((jumpH h1 x v).map fun h3 => (h3, max (max top m) v)) = _; rw [hJ, htop']; rfl
     refine To.sub [(0, .slice A l.length q), (2, .int .i64 top'), (4, .pointer (some ⟨b4, 0, none⟩)), (6, .func (.func 46) #[] #[.pointer (some ⟨b4, 0, none⟩)]), (27, .slice A l.length q), (28, .int .i64 ((l.length : Nat) : Int)), (29, .int .i64 (((i + 1) : Nat) : Int))] ⟨rfl, rfl, rfl, rfl, rfl, rfl, rfl, trivial⟩ ?_
     refine To.only [0, 0, 2, 2] rfl ?_
     refine To.as [box b4 [.slice Ah (h1.set tn v).length qh] 132, rows encI 3 1 Ah qh (h1.set tn v), ros Ins.cells A l, tabC] (by first | rfl | rw [List.length_set] <;> rfl) ?_
     refine To.again (l.length - (i + 1)) (by omega) ⟨(h1.set tn v), top', i + 1, rfl, rfl, rfl, (by omega), (by rw [List.length_set]; omega), (all_set (fun y0 h0 => by have := hB2 y0 h0; omega) (by omega)), (by rw [hI, goH_step hx, hS]; rfl), (by omega)⟩
    refine To.k ?_
    refine To.k ?_
    refine To.k ?_
    refine To.k ?_
    refine To.k ?_
    refine To.r (Rd.pickF rfl rfl rfl) ?_
    refine To.nil (To.thenN ?_)
    refine To.condF rfl ?_
    refine To.skip (To.blockN (To.thenN (To.reg ?_)))
    refine To.r (Rd.inc rfl rfl rfl (by omega)) ?_
    refine To.m (To.nil (To.thenN ?_))
    have hm2 : max (h.getD i 0) 0 = m := by rw [getD_of hy, hm]
    have hJ : jumpH h1 x v = some h1 := by rw [jumpH, if_neg (by simp [g117])]
    have hS : stepH h top i x = some (h1, top') := by
      unfold stepH; simp only [hm2, ← hh1, ← hv2]; rw [if_neg hnf, hN]; show ((jumpH h1 x v).map fun h3 => (h3, max (max top m) v)) = _; rw [hJ, htop']; rfl
    refine To.sub [(0, .slice A l.length q), (2, .int .i64 top'), (4, .pointer (some ⟨b4, 0, none⟩)), (6, .func (.func 46) #[] #[.pointer (some ⟨b4, 0, none⟩)]), (27, .slice A l.length q), (28, .int .i64 ((l.length : Nat) : Int)), (29, .int .i64 (((i + 1) : Nat) : Int))] ⟨rfl, rfl, rfl, rfl, rfl, rfl, rfl, trivial⟩ ?_
    refine To.only [2, 2, 2, 2] rfl ?_
    refine To.as [box b4 [.slice Ah h1.length qh] 132, rows encI 3 1 Ah qh h1, ros Ins.cells A l, tabC] (by first | rfl | rw [List.length_set] <;> rfl) ?_
    refine To.again (l.length - (i + 1)) (by omega) ⟨h1, top', i + 1, rfl, rfl, rfl, (by omega), (by omega), hB2, (by rw [hI, goH_step hx, hS]; rfl), (by omega)⟩
   refine To.k ?_
   refine To.k ?_
   refine To.k ?_
   refine To.r (Rd.pickF rfl rfl rfl) ?_
   refine To.m ?_
   refine To.k ?_
   refine To.k ?_
   refine To.k ?_
   refine To.k ?_
   refine To.k ?_
   refine To.k ?_
   refine To.r (Rd.pickF rfl rfl rfl) ?_
   refine To.nil ?_
   refine To.sub [(0, .slice A l.length q), (2, .int .i64 top'), (4, .pointer (some ⟨b4, 0, none⟩)), (6, .func (.func 46) #[] #[.pointer (some ⟨b4, 0, none⟩)]), (27, .slice A l.length q), (28, .int .i64 ((l.length : Nat) : Int)), (29, .int .i64 ((i : Nat) : Int)), (30, .bool (decide (((i : Nat) : Int) < ((l.length : Nat) : Int)))), (8, .pointer (some ⟨b8, 0, none⟩)), (7, .int .i64 ((i : Nat) : Int)), (9, .pointer (some ⟨b9, 0, none⟩)), (52, .bool (decide (((x.op : Nat) : Int) = 31))), (77, .bool false), (10, .int .i64 v), (110, .bool false)] ⟨rfl, rfl, rfl, rfl, rfl, rfl, rfl, rfl, rfl, rfl, rfl, rfl, rfl, rfl, rfl, trivial⟩ ?_
   refine To.thenN ?_
   refine To.condF rfl ?_
   refine To.skip (To.thenN (To.seq ?_))
   have hnf : ¬ (m < popsN x ∨ (((x.op : Nat) : Int) = 34 ∧ m ≠ 0)) := by omega
   have hN : nextH h1 i x v = some h1 := by rw [nextH, if_neg (by omega)]
   have hB2 : ∀ y0 ∈ h1, (-1 : Int) ≤ y0 ∧ y0 ≤ ((i + 1 : Nat) : Int) := fun y0 h0 => by have := hB1 y0 h0; omega
   refine To.reg ?_
   refine To.r (Rd.loadS (i := 1) rfl rfl r64 rfl box_whole rfl) ?_
   refine To.callV rfl rfl rfl (Ent.fn rfl rfl ca45) (tgt_fn x) rfl (oks_nil _) ?_
   refine To.m ?_
   refine To.r (Rd.extract rfl rfl rfl) ?_
   refine To.r (Rd.extract rfl rfl rfl) ?_
   refine To.a ?_
   refine To.a (To.nil (To.thenN (To.seq ?_)))
   refine To.as [box b9 [.string (rowOf x.op).text, .string (rowOf x.op).uses, .int .i64 (popsN x), .int .i64 ((rowOf x.op).pushes)] 125, box b8 [.int .u8 ((x.op : Nat) : Int), .int .i64 x.a, .int .i64 x.b, .int .i64 x.n] 64, box b4 [.slice Ah h1.length qh] 132, rows encI 3 1 Ah qh h1, ros Ins.cells A l, tabC] rfl ?_
   obtain ⟨tn, htn⟩ : ∃ tn : Nat, (tgt x).getD 0 = ((tn : Nat) : Int) := ⟨((tgt x).getD 0).toNat, by omega⟩
   rw [htn]
   obtain ⟨y3, hy3⟩ : ∃ z0, h1[tn]? = some z0 := ⟨h1[tn]'(by omega), List.getElem?_eq_getElem _⟩
   have htn2 : ((tgt x).getD 0).toNat = tn := by omega
   refine To.reg (To.m ?_)
   refine To.rdB rfl rfl rfl (Rd.move rfl rfl) (fun g117 => ?_) (fun g117 => ?_)
   ·
    refine To.m ?_
    refine To.m ?_
    refine To.m ?_
    refine To.call [2, 2] rfl rfl rfl (Ent.func (first := []) (captured := [.pointer (some ⟨b4, 0, none⟩)]) rfl rfl rfl ca46) rfl (set_fn b4 Ah qh h1 tn v y3 hy3) ?_
    rintro _ _ ⟨rfl, rfl⟩
    refine To.r (Rd.not rfl rfl) ?_
    refine To.r (Rd.pickT rfl rfl rfl) ?_
    refine To.nil (To.thenN ?_)
    refine To.cond rfl (fun c123 => ?_) (fun c123 => ?_)
    ·
     refine To.seq (To.reg (To.a ?_))
     refine To.a (To.nil (To.thenN (To.ret (To.blockR (To.thenR (To.thenR (To.blockR (To.thenR ?_))))))))
     refine To.end2 (.inl rfl) Tryz.results18 rfl rfl ?_
     have hm2 : max (h.getD i 0) 0 = m := by rw [getD_of hy, hm]
     have hJ : jumpH h1 x v = none := by rw [jumpH, if_pos (by assumption), htn2, getD_of hy3, if_neg (by simpa using c123)]
     rw [heights_none (by rw [hI, goH_step hx, show stepH h top i x = none from (by unfold stepH; simp only [hm2, ← hh1, ← hv2]; rw [if_neg hnf, hN]; simp [hJ])]; rfl)]
    refine To.skip (To.blockN (To.thenN (To.reg ?_)))
    refine To.r (Rd.inc rfl rfl rfl (by omega)) ?_
    refine To.m (To.nil (To.thenN ?_))
    have hm2 : max (h.getD i 0) 0 = m := by rw [getD_of hy, hm]
    have hJ : jumpH h1 x v = some (h1.set tn v) := by rw [jumpH, if_pos (by assumption), htn2, getD_of hy3, if_pos (by simpa using c123)]
    have hS : stepH h top i x = some ((h1.set tn v), top') := by
      unfold stepH; simp only [hm2, ← hh1, ← hv2]; rw [if_neg hnf, hN]; show ((jumpH h1 x v).map fun h3 => (h3, max (max top m) v)) = _; rw [hJ, htop']; rfl
    refine To.sub [(0, .slice A l.length q), (2, .int .i64 top'), (4, .pointer (some ⟨b4, 0, none⟩)), (6, .func (.func 46) #[] #[.pointer (some ⟨b4, 0, none⟩)]), (27, .slice A l.length q), (28, .int .i64 ((l.length : Nat) : Int)), (29, .int .i64 (((i + 1) : Nat) : Int))] ⟨rfl, rfl, rfl, rfl, rfl, rfl, rfl, trivial⟩ ?_
    refine To.only [0, 0, 2, 2] rfl ?_
    refine To.as [box b4 [.slice Ah (h1.set tn v).length qh] 132, rows encI 3 1 Ah qh (h1.set tn v), ros Ins.cells A l, tabC] (by first | rfl | rw [List.length_set] <;> rfl) ?_
    refine To.again (l.length - (i + 1)) (by omega) ⟨(h1.set tn v), top', i + 1, rfl, rfl, rfl, (by omega), (by rw [List.length_set]; omega), (all_set (fun y0 h0 => by have := hB2 y0 h0; omega) (by omega)), (by rw [hI, goH_step hx, hS]; rfl), (by omega)⟩
   refine To.k ?_
   refine To.k ?_
   refine To.k ?_
   refine To.k ?_
   refine To.k ?_
   refine To.r (Rd.pickF rfl rfl rfl) ?_
   refine To.nil (To.thenN ?_)
   refine To.condF rfl ?_
   refine To.skip (To.blockN (To.thenN (To.reg ?_)))
   refine To.r (Rd.inc rfl rfl rfl (by omega)) ?_
   refine To.m (To.nil (To.thenN ?_))
   have hm2 : max (h.getD i 0) 0 = m := by rw [getD_of hy, hm]
   have hJ : jumpH h1 x v = some h1 := by rw [jumpH, if_neg (by simp [g117])]
   have hS : stepH h top i x = some (h1, top') := by
     unfold stepH; simp only [hm2, ← hh1, ← hv2]; rw [if_neg hnf, hN]; show ((jumpH h1 x v).map fun h3 => (h3, max (max top m) v)) = _; rw [hJ, htop']; rfl
   refine To.sub [(0, .slice A l.length q), (2, .int .i64 top'), (4, .pointer (some ⟨b4, 0, none⟩)), (6, .func (.func 46) #[] #[.pointer (some ⟨b4, 0, none⟩)]), (27, .slice A l.length q), (28, .int .i64 ((l.length : Nat) : Int)), (29, .int .i64 (((i + 1) : Nat) : Int))] ⟨rfl, rfl, rfl, rfl, rfl, rfl, rfl, trivial⟩ ?_
   refine To.only [2, 2, 2, 2] rfl ?_
   refine To.as [box b4 [.slice Ah h1.length qh] 132, rows encI 3 1 Ah qh h1, ros Ins.cells A l, tabC] (by first | rfl | rw [List.length_set] <;> rfl) ?_
   refine To.again (l.length - (i + 1)) (by omega) ⟨h1, top', i + 1, rfl, rfl, rfl, (by omega), (by omega), hB2, (by rw [hI, goH_step hx, hS]; rfl), (by omega)⟩
  refine To.exit (To.thenX (To.thenX (To.blockX (To.thenN (To.seq ?_)))))
  obtain ⟨y4, hy4⟩ : ∃ z0, h[l.length]? = some z0 := ⟨h[l.length]'(by omega), List.getElem?_eq_getElem _⟩
  refine To.flow [] [⟨0, [], 0⟩, ⟨2, [], 0⟩, ⟨3, [], 0⟩, ⟨7, [], 0⟩, ⟨1, [], 1⟩, ⟨4, [], 1⟩, ⟨5, [], 1⟩, ⟨6, [], 0⟩, ⟨8, [], 0⟩] mixed (by kernel_rfl) (oks_nil _) ?_
  refine FlowS.mo ?_
  refine FlowS.mo ?_
  refine FlowS.f rfl (Rd.len rfl rfl Tryz.underlying30) ?_
  refine FlowS.f rfl (Rd.assign rfl rfl) ?_
  refine FlowS.lo 0 c132 ?_
  refine FlowS.r rfl (Rd.indexRows (i := 1) (j := l.length) rfl rfl rfl s132 rfl hy4) ?_
  refine FlowS.r rfl (Rd.load (i := 1) rfl rfl c3 rfl (gives_1 (rows_gives encI_ok hy4) rfl)) ?_
  refine FlowS.f rfl (Rd.leq rfl rfl rfl) ?_
  refine FlowS.f rfl (Rd.assign rfl rfl) ?_
  refine FlowS.fin ?_
  refine To.thenN (To.ret ?_)
  refine To.end2 (.inl rfl) Tryz.results18 rfl rfl ?_
  rw [show heightsV l = (top, decide (y4 ≤ 0)) from (by unfold heightsV; rw [hI, List.drop_eq_nil_of_le (by omega)]; simp only [goH]; rw [getD_of hy4])]
end Go.Proofs.YtfkmjkooemjekaaGreatDoor
