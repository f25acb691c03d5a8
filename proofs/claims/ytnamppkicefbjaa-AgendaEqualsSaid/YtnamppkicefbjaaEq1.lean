/- The walk of AgendaEquals. Own text (walks printed by sx.py). -/
import Derived.Test.YtnamppkicefbjaaQ1
import Derived.Test.YtnamppkicefbjaaSt1
namespace Go.Proofs.Ytnamppkicefbjaa
open Go.RowKit Go.Flow Go.Mem Go.Sep
/-- Both lists hold the same of component k. -/
def PC (l m : List En) (k : Nat) : Prop := (l.filter (inTake (k : Int) 1000)).map En.bare = (m.filter (inTake (k : Int) 1000)).map En.bare
theorem comp_split {L : List En} (hs : SortedE L) (hr : ∀ e ∈ L, e.t ≤ 11) (k : Int) : (L.filter fun x => decide (x.c < k + 1)) = (L.filter fun x => decide (x.c < k)) ++ L.filter (inTake k 1000) := by
  rw [filter_split (fun x : En => decide (x.c < k)) (fun x => decide (x.c < k + 1)) (fun x hx => by simp only [decide_eq_true_eq] at hx ⊢; omega) L (hs.imp fun {x y} hxy hy _ => by
    simp only [decide_eq_true_eq] at hy ⊢
    rcases le_head hxy with h | h <;> omega)]
  congr 1
  rw [List.filter_filter]
  refine List.filter_congr fun x hx => ?_
  have := hr x hx
  simp only [inTake]
  rw [← decide_not, ← Bool.decide_and]
  exact decide_eq_decide.2 (by omega)
theorem comp_all {L : List En} (hs : SortedE L) (hr : ∀ e ∈ L, 0 ≤ e.t ∧ e.t ≤ 11 ∧ 0 ≤ e.c ∧ e.c ≤ 2) : L = L.filter (inTake 0 1000) ++ L.filter (inTake 1 1000) ++ L.filter (inTake 2 1000) := by
  have hr' : ∀ e ∈ L, e.t ≤ 11 := fun e he => (hr e he).2.1
  have h0 := comp_split hs hr' 0
  have h1 := comp_split hs hr' 1
  have h2 := comp_split hs hr' 2
  have e0 : (L.filter fun x => decide (x.c < 0)) = [] := List.filter_eq_nil_iff.2 fun e he => by have := hr e he; simp; omega
  have e3 : (L.filter fun x => decide (x.c < 2 + 1)) = L := List.filter_eq_self.2 fun e he => by have := hr e he; simp; omega
  rw [e0, List.nil_append] at h0
  simp only [Int.zero_add] at h0
  rw [show (1 : Int) + 1 = 2 by rfl] at h1
  rw [h0] at h1
  rw [h1, e3] at h2
  exact h2
theorem eq_iff {L l M m : List En} (hL : Filled L l 40) (hM : Filled M m 40) (sL : SortedE L) (sM : SortedE M) : L.map En.bare = M.map En.bare ↔ l.length = m.length ∧ ∀ k : Nat, k < 3 → PC l m k := by
  constructor
  · intro h
    refine ⟨by rw [← hL.same.len, ← hM.same.len]; simpa using congrArg List.length h, fun k _ => ?_⟩
    unfold PC
    rw [← hL.same.take, ← hM.same.take]
    exact filter_bare h _ (fun _ => rfl)
  · rintro ⟨_, h⟩
    have hk : ∀ k : Nat, k < 3 → (L.filter (inTake (k : Int) 1000)).map En.bare = (M.filter (inTake (k : Int) 1000)).map En.bare := fun k hk => by rw [hL.same.take, hM.same.take]; exact h k hk
    rw [comp_all sL hL.rng, comp_all sM hM.rng]
    simp only [List.map_append]
    rw [show (L.filter (inTake 0 1000)).map En.bare = _ from hk 0 (by omega), show (L.filter (inTake 1 1000)).map En.bare = _ from hk 1 (by omega), show (L.filter (inTake 2 1000)).map En.bare = _ from hk 2 (by omega)]
    rfl
def Want (l m : List En) (c : Nat) (w : Bool) : Prop := w = true ↔ (l.length = m.length ∧ ∀ k : Nat, k < c → PC l m k)
def Wanti (p q : List En) (w0 : Bool) (i : Nat) (w : Bool) : Prop := w = true ↔ (w0 = true ∧ p.length = q.length ∧ (p.take i).map En.bare = (q.take i).map En.bare)
theorem bare_ti (x y : En) : x.bare = y.bare ↔ x.t = y.t ∧ x.itm = y.itm := by rw [bare_iff, itm_eq]
theorem take_iff {p q : List En} {i : Nat} {x y : En} (hx : p[i]? = some x) (hy : q[i]? = some y) : (p.take (i + 1)).map En.bare = (q.take (i + 1)).map En.bare ↔ ((p.take i).map En.bare = (q.take i).map En.bare ∧ x.bare = y.bare) := by
  rw [take_of_get hx, take_of_get hy, List.map_append, List.map_append]
  constructor
  · intro h
    have hl : ((p.take i).map En.bare).length = ((q.take i).map En.bare).length := by
      have := (List.getElem?_eq_some_iff.1 hx).1; have := (List.getElem?_eq_some_iff.1 hy).1
      simp; omega
    have := List.append_inj h hl
    exact ⟨this.1, by simpa using this.2⟩
  · rintro ⟨h1, h2⟩; rw [h1]; simp [h2]
theorem wanti_yes {p q : List En} {w0 w : Bool} {i : Nat} {x y : En} (hw : Wanti p q w0 i w) (hg : w = true) (hx : p[i]? = some x) (hy : q[i]? = some y) (ht : x.t = y.t) : Wanti p q w0 (i + 1) (decide ([x].map En.itm = [y].map En.itm)) := by
  obtain ⟨h1, h2, h3⟩ := hw.1 hg
  unfold Wanti
  rw [decide_eq_true_eq, itm1, take_iff hx hy, bare_ti]
  exact ⟨fun h => ⟨h1, h2, h3, ht, h⟩, fun h => h.2.2.2.2⟩
theorem wanti_no {p q : List En} {w0 : Bool} {i : Nat} {x y : En} (hx : p[i]? = some x) (hy : q[i]? = some y) (ht : ¬ x.t = y.t) : Wanti p q w0 (i + 1) false := by
  unfold Wanti
  rw [take_iff hx hy, bare_ti]
  exact ⟨(fun h => by cases h), fun h => absurd h.2.2.2.1 ht⟩
theorem wanti_start {p q : List En} {w0 w : Bool} (h : w = true ↔ (w0 = true ∧ p.length = q.length)) : Wanti p q w0 0 w := by unfold Wanti; simp [h]
theorem want_step {l m : List En} {c : Nat} {w0 w : Bool} {i : Nat} (h0 : Want l m c w0) (h : Wanti (l.filter (inTake (c : Int) 1000)) (m.filter (inTake (c : Int) 1000)) w0 i w) (hend : w = true → i = (l.filter (inTake (c : Int) 1000)).length) : Want l m (c + 1) w := by
  unfold Want at *
  unfold Wanti at h
  constructor
  · intro hw
    obtain ⟨h1, h2, h3⟩ := h.1 hw
    obtain ⟨h4, h5⟩ := h0.1 h1
    refine ⟨h4, fun k hk => ?_⟩
    rcases Nat.lt_succ_iff_lt_or_eq.1 hk with h6 | h6
    · exact h5 k h6
    · subst h6
      exact eq_all h2 (hend hw) h3
  · rintro ⟨h1, h2⟩
    refine h.2 ⟨h0.2 ⟨h1, fun k hk => h2 k (by omega)⟩, ?_, ?_⟩
    · simpa using congrArg List.length (h2 c (by omega))
    · have := congrArg (List.take i) (h2 c (by omega))
      simpa [List.map_take] using this
theorem argsS_more {Γ : List Chunk} {l1 l2 n : List Opr} (i j : Nat) (hi : Γ[i]? = some (argsS (l1.map Opr.ar))) (hj : Γ[j]? = some (argsS (l2.map Opr.ar))) (h : ∀ o ∈ n, o ∈ l1 ∨ o ∈ l2) : (∀ w, oks Γ w → (argsS (n.map Opr.ar)).holds w) ∧ ∀ g ∈ (argsS (n.map Opr.ar)).reads, g ∈ reads Γ := by
  constructor
  · intro w hw p hp
    obtain ⟨o, ho, rfl⟩ := List.mem_map.1 hp
    rcases h o ho with h1 | h1
    · exact hw _ (List.mem_of_getElem? hi) _ (List.mem_map.2 ⟨o, h1, rfl⟩)
    · exact hw _ (List.mem_of_getElem? hj) _ (List.mem_map.2 ⟨o, h1, rfl⟩)
  · intro g hg
    obtain ⟨p, hp, hg2⟩ := List.mem_flatMap.1 hg
    obtain ⟨o, ho, rfl⟩ := List.mem_map.1 hp
    rcases h o ho with h1 | h1
    · exact reads_at i hi (List.mem_flatMap.2 ⟨_, List.mem_map.2 ⟨o, h1, rfl⟩, hg2⟩)
    · exact reads_at j hj (List.mem_flatMap.2 ⟨_, List.mem_map.2 ⟨o, h1, rfl⟩, hg2⟩)
theorem mem_two {c x : List Opr} : ∀ o ∈ ([] : List Opr) ++ c.take 20 ++ x.take 6, o ∈ c ∨ o ∈ x := fun o ho => by
  rcases List.mem_append.1 ho with h | h
  · rcases List.mem_append.1 h with h | h
    · simp at h
    · exact .inl (List.mem_of_mem_take h)
  · exact .inr (List.mem_of_mem_take h)
set_option maxHeartbeats 2000000 in
set_option maxRecDepth 100000 in
theorem equals_fn (Ax Ay Ac : Option Addr) (qx qy qc : Nat) (xx yy cc : List Opr) (hxx : ∀ o ∈ xx, o.ok) (hyy : ∀ o ∈ yy, o.ok) (hcc : ∀ o ∈ cc, o.ok) (hlx : xx.length ≤ qx) (hly : yy.length ≤ qy) (hlc : cc.length ≤ qc) :
    Does Try.prog 7 [.slice Ax xx.length qx, .slice Ay yy.length qy, .slice Ac cc.length qc] [ros Opr.cells Ax xx, argsS (xx.map Opr.ar), ros Opr.cells Ay yy, argsS (yy.map Opr.ar), ros Opr.cells Ac cc, argsS (cc.map Opr.ar)] (fun v _ => v = .bool true) := by
  refine Does.enter Try.func7 rfl Try.ntmps7 rfl (fun w0 => ?_)
  refine To.seq ?_
  refine To.reg ?_
  refine To.rd rfl rfl rfl (Rd.assign rfl rfl) ?_
  refine To.nil ?_
  refine To.thenN ?_
  refine To.seq ?_
  refine To.seq ?_
  refine To.reg ?_
  refine To.callV rfl rfl rfl (Ent.fn rfl rfl ca11) (awake_fn) rfl (oks_nil _) ?_
  refine To.rd rfl rfl rfl (Rd.not rfl rfl) ?_
  refine To.nil ?_
  refine To.thenN ?_
  refine To.condF rfl ?_
  refine To.skip ?_
  refine To.thenN ?_
  refine To.seq ?_
  refine To.take 20 4 rfl ?_
  refine To.take 6 3 rfl ?_
  refine To.take 6 2 rfl ?_
  have ht1 := List.length_take_le 6 xx
  have ht2 := List.length_take_le 6 yy
  have ht3 := List.length_take_le 20 cc
  have ht4 := List.length_take_le' 6 xx
  have ht5 := List.length_take_le' 6 yy
  have ht6 := List.length_take_le' 20 cc
  refine To.flow [] [⟨0, [], 0⟩, ⟨1, [], 0⟩, ⟨2, [], 0⟩, ⟨3, [], 0⟩, ⟨4, [], 0⟩, ⟨5, [], 0⟩, ⟨6, [], 0⟩, ⟨7, [], 0⟩, ⟨8, [], 0⟩, ⟨9, [], 0⟩, ⟨10, [], 0⟩, ⟨11, [], 0⟩, ⟨12, [], 0⟩, ⟨13, [], 0⟩, ⟨14, [], 0⟩, ⟨15, [], 0⟩, ⟨16, [], 0⟩, ⟨17, [], 0⟩] mixed (by kernel_rfl) (oks_nil _) ?_
  refine FlowS.free rfl rfl rfl rfl (Rd.move rfl rfl) ?_
  refine FlowS.free rfl rfl rfl rfl (Rd.move rfl rfl) ?_
  refine FlowS.free rfl rfl rfl rfl (Rd.len rfl rfl Try.underlying22) ?_
  refine FlowS.free rfl rfl rfl rfl (Rd.minTake (l := xx) (n := 6) rfl rfl rfl) ?_
  refine FlowS.free rfl rfl rfl rfl (Rd.sliceHi (hi := ((xx.take 6).length)) rfl s22 rfl rfl (by omega)) ?_
  refine FlowS.free rfl rfl rfl rfl (Rd.move rfl rfl) ?_
  refine FlowS.free rfl rfl rfl rfl (Rd.move rfl rfl) ?_
  refine FlowS.free rfl rfl rfl rfl (Rd.len rfl rfl Try.underlying22) ?_
  refine FlowS.free rfl rfl rfl rfl (Rd.minTake (l := yy) (n := 6) rfl rfl rfl) ?_
  refine FlowS.free rfl rfl rfl rfl (Rd.sliceHi (hi := ((yy.take 6).length)) rfl s22 rfl rfl (by omega)) ?_
  refine FlowS.free rfl rfl rfl rfl (Rd.move rfl rfl) ?_
  refine FlowS.free rfl rfl rfl rfl (Rd.move rfl rfl) ?_
  refine FlowS.free rfl rfl rfl rfl (Rd.len rfl rfl Try.underlying22) ?_
  refine FlowS.free rfl rfl rfl rfl (Rd.minTake (l := cc) (n := 20) rfl rfl rfl) ?_
  refine FlowS.free rfl rfl rfl rfl (Rd.sliceHi (hi := ((cc.take 20).length)) rfl s22 rfl rfl (by omega)) ?_
  refine FlowS.free rfl rfl rfl rfl (Rd.assign rfl rfl) ?_
  refine FlowS.free rfl rfl rfl rfl (Rd.assign rfl rfl) ?_
  refine FlowS.free rfl rfl rfl rfl (Rd.assign rfl rfl) ?_
  refine FlowS.fin ?_
  refine To.as [ros Opr.cells Ax (xx.take 6), ros Opr.cells Ay (yy.take 6), ros Opr.cells Ac (cc.take 20), ros Opr.cells Ax xx, argsS (xx.map Opr.ar), ros Opr.cells Ay yy, argsS (yy.map Opr.ar), ros Opr.cells Ac cc, argsS (cc.map Opr.ar)] rfl ?_
  refine To.sub [(0, .slice Ax ((xx.take 6).length) qx), (1, .slice Ay ((yy.take 6).length) qy), (2, .slice Ac ((cc.take 20).length) qc), (6, .bool false), (18, .bool true), (19, .bool false)] ⟨rfl, rfl, rfl, rfl, rfl, rfl, trivial⟩ ?_
  refine To.thenN ?_
  refine To.seq ?_
  refine To.reg ?_
  refine To.mk rfl rfl rfl (Mk.slice0 rfl s22) ?_
  rintro _ _ ⟨A36, rfl, rfl⟩
  refine To.as [row 56 9 A36 0 0 [], ros Opr.cells Ax (xx.take 6), ros Opr.cells Ay (yy.take 6), ros Opr.cells Ac (cc.take 20), ros Opr.cells Ax xx, argsS (xx.map Opr.ar), ros Opr.cells Ay yy, argsS (yy.map Opr.ar), ros Opr.cells Ac cc, argsS (cc.map Opr.ar)] rfl ?_
  refine To.as [rows Opr.cells 56 9 A36 0 ([] : List Opr), ros Opr.cells Ax (xx.take 6), ros Opr.cells Ay (yy.take 6), ros Opr.cells Ac (cc.take 20), ros Opr.cells Ax xx, argsS (xx.map Opr.ar), ros Opr.cells Ay yy, argsS (yy.map Opr.ar), ros Opr.cells Ac cc, argsS (cc.map Opr.ar)] rfl ?_
  refine To.rd rfl rfl rfl (Rd.move rfl rfl) ?_
  refine To.ge rfl rfl rfl (Ge.appendL encO (i := 0) (m := (cc.take 20)) rfl s22 rfl rfl rfl (src_ro (i := 3) rfl) (by first | omega | (simp only [List.length_append, List.length_cons, List.length_nil]; omega)) (by first | omega | (simp only [List.length_append, List.length_cons, List.length_nil]; omega))) ?_
  rintro _ _ ⟨A38, q38, rfl, rfl⟩
  refine To.as [rows Opr.cells 56 9 A38 q38 (([] : List Opr) ++ (cc.take 20)), ros Opr.cells Ax (xx.take 6), ros Opr.cells Ay (yy.take 6), ros Opr.cells Ac (cc.take 20), ros Opr.cells Ax xx, argsS (xx.map Opr.ar), ros Opr.cells Ay yy, argsS (yy.map Opr.ar), ros Opr.cells Ac cc, argsS (cc.map Opr.ar)] rfl ?_
  refine To.rd rfl rfl rfl (Rd.move rfl rfl) ?_
  refine To.ge rfl rfl rfl (Ge.appendL encO (i := 0) (m := (xx.take 6)) rfl s22 rfl rfl rfl (src_ro (i := 1) rfl) (by first | omega | (simp only [List.length_append, List.length_cons, List.length_nil]; omega)) (by first | omega | (simp only [List.length_append, List.length_cons, List.length_nil]; omega))) ?_
  rintro _ _ ⟨A40, q40, rfl, rfl⟩
  refine To.as [rows Opr.cells 56 9 A40 q40 (([] : List Opr) ++ (cc.take 20) ++ (xx.take 6)), ros Opr.cells Ax (xx.take 6), ros Opr.cells Ay (yy.take 6), ros Opr.cells Ac (cc.take 20), ros Opr.cells Ax xx, argsS (xx.map Opr.ar), ros Opr.cells Ay yy, argsS (yy.map Opr.ar), ros Opr.cells Ac cc, argsS (cc.map Opr.ar)] rfl ?_
  refine To.layRow ?_
  refine To.derive (argsS ((([] : List Opr) ++ (cc.take 20) ++ (xx.take 6)).map Opr.ar)) rfl (argsS_more 9 5 rfl rfl mem_two).2 (argsS_more 9 5 rfl rfl mem_two).1 ?_
  refine To.call [1, 0] rfl rfl rfl (Ent.fn rfl rfl ca12) rfl (fill_fn A40 q40 (([] : List Opr) ++ (cc.take 20) ++ (xx.take 6)) (fun o ho => (mem_two o ho).elim (hcc o) (hxx o)) (by simp only [List.length_append, List.length_nil]; omega)) ?_
  rintro _ _ ⟨a, va, L, l, Al, ql, rfl, rfl, hFl⟩
  refine To.as [agc a va L, rows En.rcells 30 8 Al ql l, argsS (l.map En.ar), ros Opr.cells Ax (xx.take 6), ros Opr.cells Ay (yy.take 6), ros Opr.cells Ac (cc.take 20), ros Opr.cells Ax xx, argsS (xx.map Opr.ar), ros Opr.cells Ay yy, argsS (yy.map Opr.ar), ros Opr.cells Ac cc, argsS (cc.map Opr.ar)] rfl ?_
  refine To.rd rfl rfl rfl (Rd.move rfl rfl) ?_
  refine To.rd rfl rfl rfl (Rd.extract rfl rfl rfl) ?_
  refine To.rd rfl rfl rfl (Rd.extract rfl rfl rfl) ?_
  refine To.rd rfl rfl rfl (Rd.assign rfl rfl) ?_
  refine To.rd rfl rfl rfl (Rd.assign rfl rfl) ?_
  refine To.nil ?_
  refine To.thenN ?_
  refine To.seq ?_
  refine To.reg ?_
  refine To.mk rfl rfl rfl (Mk.slice0 rfl s22) ?_
  rintro _ _ ⟨A45, rfl, rfl⟩
  refine To.as [row 56 9 A45 0 0 [], agc a va L, rows En.rcells 30 8 Al ql l, argsS (l.map En.ar), ros Opr.cells Ax (xx.take 6), ros Opr.cells Ay (yy.take 6), ros Opr.cells Ac (cc.take 20), ros Opr.cells Ax xx, argsS (xx.map Opr.ar), ros Opr.cells Ay yy, argsS (yy.map Opr.ar), ros Opr.cells Ac cc, argsS (cc.map Opr.ar)] rfl ?_
  refine To.as [rows Opr.cells 56 9 A45 0 ([] : List Opr), agc a va L, rows En.rcells 30 8 Al ql l, argsS (l.map En.ar), ros Opr.cells Ax (xx.take 6), ros Opr.cells Ay (yy.take 6), ros Opr.cells Ac (cc.take 20), ros Opr.cells Ax xx, argsS (xx.map Opr.ar), ros Opr.cells Ay yy, argsS (yy.map Opr.ar), ros Opr.cells Ac cc, argsS (cc.map Opr.ar)] rfl ?_
  refine To.rd rfl rfl rfl (Rd.move rfl rfl) ?_
  refine To.ge rfl rfl rfl (Ge.appendL encO (i := 0) (m := (cc.take 20)) rfl s22 rfl rfl rfl (src_ro (i := 6) rfl) (by first | omega | (simp only [List.length_append, List.length_cons, List.length_nil]; omega)) (by first | omega | (simp only [List.length_append, List.length_cons, List.length_nil]; omega))) ?_
  rintro _ _ ⟨A47, q47, rfl, rfl⟩
  refine To.as [rows Opr.cells 56 9 A47 q47 (([] : List Opr) ++ (cc.take 20)), agc a va L, rows En.rcells 30 8 Al ql l, argsS (l.map En.ar), ros Opr.cells Ax (xx.take 6), ros Opr.cells Ay (yy.take 6), ros Opr.cells Ac (cc.take 20), ros Opr.cells Ax xx, argsS (xx.map Opr.ar), ros Opr.cells Ay yy, argsS (yy.map Opr.ar), ros Opr.cells Ac cc, argsS (cc.map Opr.ar)] rfl ?_
  refine To.rd rfl rfl rfl (Rd.move rfl rfl) ?_
  refine To.ge rfl rfl rfl (Ge.appendL encO (i := 0) (m := (yy.take 6)) rfl s22 rfl rfl rfl (src_ro (i := 5) rfl) (by first | omega | (simp only [List.length_append, List.length_cons, List.length_nil]; omega)) (by first | omega | (simp only [List.length_append, List.length_cons, List.length_nil]; omega))) ?_
  rintro _ _ ⟨A49, q49, rfl, rfl⟩
  refine To.as [rows Opr.cells 56 9 A49 q49 (([] : List Opr) ++ (cc.take 20) ++ (yy.take 6)), agc a va L, rows En.rcells 30 8 Al ql l, argsS (l.map En.ar), ros Opr.cells Ax (xx.take 6), ros Opr.cells Ay (yy.take 6), ros Opr.cells Ac (cc.take 20), ros Opr.cells Ax xx, argsS (xx.map Opr.ar), ros Opr.cells Ay yy, argsS (yy.map Opr.ar), ros Opr.cells Ac cc, argsS (cc.map Opr.ar)] rfl ?_
  refine To.layRow ?_
  refine To.derive (argsS ((([] : List Opr) ++ (cc.take 20) ++ (yy.take 6)).map Opr.ar)) rfl (argsS_more 12 10 rfl rfl mem_two).2 (argsS_more 12 10 rfl rfl mem_two).1 ?_
  refine To.call [1, 0] rfl rfl rfl (Ent.fn rfl rfl ca12) rfl (fill_fn A49 q49 (([] : List Opr) ++ (cc.take 20) ++ (yy.take 6)) (fun o ho => (mem_two o ho).elim (hcc o) (hyy o)) (by simp only [List.length_append, List.length_nil]; omega)) ?_
  rintro _ _ ⟨b, vb, M, m, Am, qm, rfl, rfl, hFm⟩
  refine To.as [agc b vb M, rows En.rcells 30 8 Am qm m, argsS (m.map En.ar), agc a va L, rows En.rcells 30 8 Al ql l, argsS (l.map En.ar), ros Opr.cells Ax (xx.take 6), ros Opr.cells Ay (yy.take 6), ros Opr.cells Ac (cc.take 20), ros Opr.cells Ax xx, argsS (xx.map Opr.ar), ros Opr.cells Ay yy, argsS (yy.map Opr.ar), ros Opr.cells Ac cc, argsS (cc.map Opr.ar)] rfl ?_
  refine To.rd rfl rfl rfl (Rd.move rfl rfl) ?_
  refine To.rd rfl rfl rfl (Rd.extract rfl rfl rfl) ?_
  refine To.rd rfl rfl rfl (Rd.extract rfl rfl rfl) ?_
  refine To.rd rfl rfl rfl (Rd.assign rfl rfl) ?_
  refine To.rd rfl rfl rfl (Rd.assign rfl rfl) ?_
  refine To.nil ?_
  refine To.thenN ?_
  refine To.seq ?_
  refine To.reg ?_
  refine To.rd rfl rfl rfl (Rd.move rfl rfl) ?_
  refine To.rd rfl rfl rfl (Rd.len rfl rfl Try.underlying25) ?_
  refine To.rd rfl rfl rfl (Rd.move rfl rfl) ?_
  refine To.rd rfl rfl rfl (Rd.len rfl rfl Try.underlying25) ?_
  refine To.rd rfl rfl rfl (Rd.eql rfl rfl rfl) ?_
  refine To.rd rfl rfl rfl (Rd.assign rfl rfl) ?_
  refine To.nil ?_
  refine To.thenN ?_
  refine To.seq ?_
  refine To.seq ?_
  refine To.reg ?_
  refine To.rd rfl rfl rfl (Rd.move rfl rfl) ?_
  refine To.nil ?_
  refine To.thenN ?_
  refine To.block ?_
  refine To.know (p := SortedE L) (fun w hs => (hs.each (agc a va L) (by simp) : Ag w 0 a va L).sorted) (fun sL => ?_)
  refine To.know (p := SortedE M) (fun w hs => (hs.each (agc b vb M) (by simp) : Ag w 0 b vb M).sorted) (fun sM => ?_)
  refine To.sub [(7, .pointer (some ⟨a, 0, none⟩)), (9, .pointer (some ⟨b, 0, none⟩)), (8, .slice Al l.length ql), (10, .slice Am m.length qm), (11, .bool (decide (((l.length : Nat) : Int) = ((m.length : Nat) : Int)))), (58, .int .i64 ((0 : Nat) : Int))] ⟨rfl, rfl, rfl, rfl, rfl, rfl, trivial⟩ ?_
  refine To.only [3, 0, 2, 0, 1, 0] rfl ?_
  refine To.loop (fun mz ρ Γ => ∃ (c : Nat) (wv : Bool), ρ = [(7, .pointer (some ⟨a, 0, none⟩)), (9, .pointer (some ⟨b, 0, none⟩)), (8, .slice Al l.length ql), (10, .slice Am m.length qm), (11, .bool wv), (58, .int .i64 ((c : Nat) : Int))] ∧ Γ = [agc a va L, agc b vb M, rows En.rcells 30 8 Al ql l, rows En.rcells 30 8 Am qm m, argsS (l.map En.ar), argsS (m.map En.ar)] ∧ mz = 3 - c ∧ (c ≤ 3) ∧ (Want l m c wv)) (3 - 0) ⟨0, (decide (((l.length : Nat) : Int) = ((m.length : Nat) : Int))), rfl, rfl, rfl, (by omega), ⟨fun h => ⟨by have := of_decide_eq_true h; omega, fun k hk => absurd hk (by omega)⟩, fun h => decide_eq_true (by have := h.1; omega)⟩⟩ ?_
  rintro mz _ _ ⟨c, wv, rfl, rfl, rfl, hc, hw⟩
  refine To.seq ?_
  refine To.reg ?_
  refine To.rd rfl rfl rfl (Rd.lss rfl rfl rfl) ?_
  refine To.nil ?_
  refine To.thenN ?_
  refine To.seq ?_
  refine To.condP rfl (fun c59 => ?_) (fun c59 => ?_)
  ·
    refine To.skip ?_
    refine To.thenN ?_
    refine To.seq ?_
    refine To.block ?_
    refine To.seq ?_
    refine To.reg ?_
    refine To.rd rfl rfl rfl (Rd.move rfl rfl) ?_
    refine To.rd rfl rfl rfl (Rd.assign rfl rfl) ?_
    refine To.nil ?_
    refine To.thenN ?_
    refine To.seq ?_
    refine To.reg ?_
    refine To.rd rfl rfl rfl (Rd.move rfl rfl) ?_
    refine To.rd rfl rfl rfl (Rd.move rfl rfl) ?_
    refine To.callQ rfl rfl rfl (Ent.fn rfl rfl ca23) (rtake_fn Al ql l 1000 ((c : Nat) : Int) (by have := hFl.len; omega)) rfl (oks_cons (oks_row 2 rfl) (oks_nil _)) ?_
    rintro _ _ ⟨Ap, qp, Ap2, qp2, rfl, rfl⟩
    refine ⟨rfl, ?_⟩
    refine To.as [rows En.rcells 30 8 Ap qp (l.filter (inTake ((c : Nat) : Int) 1000)), rows En.rcells 30 8 Ap2 qp2 (l.filter fun x => !inTake ((c : Nat) : Int) 1000 x), agc a va L, agc b vb M, rows En.rcells 30 8 Al ql l, rows En.rcells 30 8 Am qm m, argsS (l.map En.ar), argsS (m.map En.ar)] rfl ?_
    refine To.rd rfl rfl rfl (Rd.move rfl rfl) ?_
    refine To.rd rfl rfl rfl (Rd.extract rfl rfl rfl) ?_
    refine To.rd rfl rfl rfl (Rd.extract rfl rfl rfl) ?_
    refine To.rd rfl rfl rfl (Rd.assign rfl rfl) ?_
    refine To.rd rfl rfl rfl (Rd.assign rfl rfl) ?_
    refine To.nil ?_
    refine To.thenN ?_
    refine To.seq ?_
    refine To.reg ?_
    refine To.rd rfl rfl rfl (Rd.move rfl rfl) ?_
    refine To.rd rfl rfl rfl (Rd.move rfl rfl) ?_
    refine To.callQ rfl rfl rfl (Ent.fn rfl rfl ca23) (rtake_fn Am qm m 1000 ((c : Nat) : Int) (by have := hFm.len; omega)) rfl (oks_cons (oks_row 5 rfl) (oks_nil _)) ?_
    rintro _ _ ⟨Aq, qq, Aq2, qq2, rfl, rfl⟩
    refine ⟨rfl, ?_⟩
    refine To.as [rows En.rcells 30 8 Aq qq (m.filter (inTake ((c : Nat) : Int) 1000)), rows En.rcells 30 8 Aq2 qq2 (m.filter fun x => !inTake ((c : Nat) : Int) 1000 x), rows En.rcells 30 8 Ap qp (l.filter (inTake ((c : Nat) : Int) 1000)), rows En.rcells 30 8 Ap2 qp2 (l.filter fun x => !inTake ((c : Nat) : Int) 1000 x), agc a va L, agc b vb M, rows En.rcells 30 8 Al ql l, rows En.rcells 30 8 Am qm m, argsS (l.map En.ar), argsS (m.map En.ar)] rfl ?_
    refine To.rd rfl rfl rfl (Rd.move rfl rfl) ?_
    refine To.rd rfl rfl rfl (Rd.extract rfl rfl rfl) ?_
    refine To.rd rfl rfl rfl (Rd.extract rfl rfl rfl) ?_
    refine To.rd rfl rfl rfl (Rd.assign rfl rfl) ?_
    refine To.rd rfl rfl rfl (Rd.assign rfl rfl) ?_
    refine To.nil ?_
    refine To.thenN ?_
    refine To.seq ?_
    refine To.reg ?_
    refine To.rd rfl rfl rfl (Rd.move rfl rfl) ?_
    refine To.rdB rfl rfl rfl (Rd.move rfl rfl) (fun g74 => ?_) (fun g74 => ?_)
    ·
      refine To.rd rfl rfl rfl (Rd.move rfl rfl) ?_
      refine To.rd rfl rfl rfl (Rd.len rfl rfl Try.underlying25) ?_
      refine To.rd rfl rfl rfl (Rd.move rfl rfl) ?_
      refine To.rd rfl rfl rfl (Rd.len rfl rfl Try.underlying25) ?_
      refine To.rd rfl rfl rfl (Rd.eql rfl rfl rfl) ?_
      refine To.rd rfl rfl rfl (Rd.pickT rfl rfl rfl) ?_
      refine To.rd rfl rfl rfl (Rd.assign rfl rfl) ?_
      refine To.nil ?_
      refine To.thenN ?_
      refine To.seq ?_
      refine To.reg ?_
      refine To.rd rfl rfl rfl (Rd.assign rfl rfl) ?_
      refine To.nil ?_
      refine To.thenN ?_
      refine To.block ?_
      refine To.know (p := (m.filter (inTake ((c : Nat) : Int) 1000)).length ≤ qq) (fun w hs => by obtain ⟨_, _, h1, _, h2, _⟩ := own_form (show w.ownsRow 0 30 8 (.slice Aq (m.filter (inTake ((c : Nat) : Int) 1000)).length qq) (m.filter (inTake ((c : Nat) : Int) 1000)).length _ from hs.each (rows En.rcells 30 8 Aq qq (m.filter (inTake ((c : Nat) : Int) 1000))) (by simp)); simp only [Value.slice.injEq] at h1; omega) (fun hqq => ?_)
      have hpl : (l.filter (inTake ((c : Nat) : Int) 1000)).length ≤ 40 := Nat.le_trans (List.length_filter_le _ _) hFl.len
      have hql : (m.filter (inTake ((c : Nat) : Int) 1000)).length ≤ 40 := Nat.le_trans (List.length_filter_le _ _) hFm.len
      refine To.sub [(7, .pointer (some ⟨a, 0, none⟩)), (9, .pointer (some ⟨b, 0, none⟩)), (8, .slice Al l.length ql), (10, .slice Am m.length qm), (58, .int .i64 ((c : Nat) : Int)), (11, .bool (decide ((((l.filter (inTake ((c : Nat) : Int) 1000)).length : Nat) : Int) = (((m.filter (inTake ((c : Nat) : Int) 1000)).length : Nat) : Int)))), (13, .slice Ap ((l.filter (inTake ((c : Nat) : Int) 1000)).length) qp), (15, .slice Aq ((m.filter (inTake ((c : Nat) : Int) 1000)).length) qq), (17, .int .i64 ((0 : Nat) : Int))] ⟨rfl, rfl, rfl, rfl, rfl, rfl, rfl, rfl, rfl, trivial⟩ ?_
      refine To.only [4, 4, 4, 4, 4, 4, 2, 0] rfl ?_
      refine To.loop (fun mz ρ Γ => ∃ (i : Nat) (wi : Bool), ρ = [(7, .pointer (some ⟨a, 0, none⟩)), (9, .pointer (some ⟨b, 0, none⟩)), (8, .slice Al l.length ql), (10, .slice Am m.length qm), (58, .int .i64 ((c : Nat) : Int)), (11, .bool wi), (13, .slice Ap ((l.filter (inTake ((c : Nat) : Int) 1000)).length) qp), (15, .slice Aq ((m.filter (inTake ((c : Nat) : Int) 1000)).length) qq), (17, .int .i64 ((i : Nat) : Int))] ∧ Γ = [agc a va L, agc b vb M, rows En.rcells 30 8 Al ql l, rows En.rcells 30 8 Am qm m, argsS (l.map En.ar), argsS (m.map En.ar), rows En.rcells 30 8 Ap qp (l.filter (inTake ((c : Nat) : Int) 1000)), rows En.rcells 30 8 Aq qq (m.filter (inTake ((c : Nat) : Int) 1000))] ∧ mz = (l.filter (inTake ((c : Nat) : Int) 1000)).length - i ∧ (i ≤ (l.filter (inTake ((c : Nat) : Int) 1000)).length) ∧ (Wanti (l.filter (inTake ((c : Nat) : Int) 1000)) (m.filter (inTake ((c : Nat) : Int) 1000)) wv i wi)) ((l.filter (inTake ((c : Nat) : Int) 1000)).length - 0) ⟨0, decide ((((l.filter (inTake ((c : Nat) : Int) 1000)).length : Nat) : Int) = (((m.filter (inTake ((c : Nat) : Int) 1000)).length : Nat) : Int)), rfl, rfl, rfl, (Nat.zero_le _), (wanti_start ⟨fun h => ⟨g74, by have := of_decide_eq_true h; omega⟩, fun h => decide_eq_true (by have := h.2; omega)⟩)⟩ ?_
      rintro mz _ _ ⟨i, wi, rfl, rfl, rfl, hi, hwi⟩
      refine To.seq ?_
      refine To.seq ?_
      refine To.reg ?_
      refine To.rd rfl rfl rfl (Rd.move rfl rfl) ?_
      refine To.rdB rfl rfl rfl (Rd.move rfl rfl) (fun g82 => ?_) (fun g82 => ?_)
      ·
        refine To.rd rfl rfl rfl (Rd.move rfl rfl) ?_
        refine To.rd rfl rfl rfl (Rd.move rfl rfl) ?_
        refine To.rd rfl rfl rfl (Rd.len rfl rfl Try.underlying25) ?_
        refine To.rd rfl rfl rfl (Rd.lss rfl rfl rfl) ?_
        refine To.rd rfl rfl rfl (Rd.pickT rfl rfl rfl) ?_
        refine To.nil ?_
        refine To.thenN ?_
        refine To.condP rfl (fun c87 => ?_) (fun c87 => ?_)
        ·
          have hpq := (hwi.1 g82).2.1
          obtain ⟨x, hx⟩ : ∃ y, (l.filter (inTake ((c : Nat) : Int) 1000))[i]? = some y := ⟨(l.filter (inTake ((c : Nat) : Int) 1000))[i]'(by omega), List.getElem?_eq_getElem _⟩
          obtain ⟨y, hy⟩ : ∃ y, (m.filter (inTake ((c : Nat) : Int) 1000))[i]? = some y := ⟨(m.filter (inTake ((c : Nat) : Int) 1000))[i]'(by omega), List.getElem?_eq_getElem _⟩
          refine To.skip ?_
          refine To.thenN ?_
          refine To.seq ?_
          refine To.block ?_
          refine To.flow [] [⟨0, [], 0⟩, ⟨1, [], 0⟩, ⟨5, [], 0⟩, ⟨6, [], 0⟩, ⟨2, [], 1⟩, ⟨3, [], 0⟩, ⟨4, [], 1⟩, ⟨7, [], 1⟩, ⟨8, [], 0⟩, ⟨9, [], 1⟩, ⟨10, [], 0⟩, ⟨11, [], 0⟩, ⟨12, [], 0⟩, ⟨13, [], 0⟩, ⟨18, [], 0⟩, ⟨19, [], 0⟩, ⟨20, [], 0⟩, ⟨21, [], 0⟩, ⟨22, [], 0⟩, ⟨14, [], 1⟩, ⟨15, [], 1⟩, ⟨16, [], 3⟩, ⟨17, [], 2⟩, ⟨23, [17], 3⟩, ⟨24, [17], 0⟩, ⟨25, [17], 0⟩] mixed (by kernel_rfl) (oks_nil _) ?_
          refine FlowS.free rfl rfl rfl rfl (Rd.move rfl rfl) ?_
          refine FlowS.free rfl rfl rfl rfl (Rd.move rfl rfl) ?_
          refine FlowS.free rfl rfl rfl rfl (Rd.move rfl rfl) ?_
          refine FlowS.free rfl rfl rfl rfl (Rd.move rfl rfl) ?_
          refine FlowS.rd rfl rfl rfl rfl (Rd.indexRows (i := 6) (j := i) rfl rfl rfl s25 rfl hx) ?_
          refine FlowS.free rfl rfl rfl rfl (Rd.field rfl rfl fl30_0) ?_
          refine FlowS.rd rfl rfl rfl rfl (Rd.load (i := 6) rfl rfl c3 rfl (gives_at (f := 0) (rows_gives encR hx) rfl)) ?_
          refine FlowS.rd rfl rfl rfl rfl (Rd.indexRows (i := 7) (j := i) rfl rfl rfl s25 rfl hy) ?_
          refine FlowS.free rfl rfl rfl rfl (Rd.field rfl rfl fl30_0) ?_
          refine FlowS.rd rfl rfl rfl rfl (Rd.load (i := 7) rfl rfl c3 rfl (gives_at (f := 0) (rows_gives encR hy) rfl)) ?_
          refine FlowS.free rfl rfl rfl rfl (Rd.eql rfl rfl rfl) ?_
          refine FlowS.rdP rfl rfl rfl rfl (Rd.move rfl rfl) (fun g101 => ?_) (fun g101 => ?_)
          ·
            refine FlowS.free rfl rfl rfl rfl (Rd.move rfl rfl) ?_
            refine FlowS.free rfl rfl rfl rfl (Rd.move rfl rfl) ?_
            refine FlowS.free rfl rfl rfl rfl (Rd.move rfl rfl) ?_
            refine FlowS.free rfl rfl rfl rfl (Rd.move rfl rfl) ?_
            refine FlowS.free rfl rfl rfl rfl (Rd.move rfl rfl) ?_
            refine FlowS.free rfl rfl rfl rfl (Rd.inc rfl rfl rfl (by omega)) ?_
            refine FlowS.free rfl rfl rfl rfl (Rd.sliceLH (lo := i) (hi := (i + 1)) rfl s25 rfl rfl rfl (by omega) (by omega)) ?_
            refine FlowS.rd rfl rfl rfl rfl (Rd.indexRows (i := 6) (j := i) rfl rfl rfl s25 rfl hx) ?_
            refine FlowS.rd rfl rfl rfl rfl (Rd.loadS (i := 6) rfl rfl r30 rfl (rows_gives encR hx) (encR.len _)) ?_
            refine FlowS.callQ rfl rfl rfl rfl (Ent.fn rfl rfl ca24) (item_fn x (by have := good_s (hFl.same.gl x (List.mem_filter.1 (List.mem_of_getElem? hx)).1); omega)) rfl (oks_nil _) ?_
            refine FlowS.mkG rfl rfl rfl rfl rfl (Mk.sliceN (us := [.int .u8 x.s, .int .i64 x.c, .int .i64 x.p, .int .i64 x.n, .int .i64 x.k, .int .i64 x.h, .slice x.A x.args.length x.cap]) rfl s31 rfl rfl rfl rfl rfl rfl) ?_
            rintro _ _ ⟨b107, rfl, rfl⟩
            refine FlowS.callQ rfl rfl rfl rfl (Ent.fn rfl rfl ca14) ((by rw [show i + 1 - i = 1 by omega]; exact same_fn _ (slAt Aq qq i 8) 1 (qq - i) [x] [y] (by simp; have := good_s (hFm.same.gl y (List.mem_filter.1 (List.mem_of_getElem? hy)).1); omega) (by simp; have := hFl.argsl x (List.mem_filter.1 (List.mem_of_getElem? hx)).1; omega) (by simp) (by simp))) rfl (oks_cons (oks_row 0 rfl) (oks_cons (oks_elem encR 8 rfl hy (by omega)) (oks_cons (oks_SS (N := [x]) 5 rfl (fun e he => by rw [List.mem_singleton.1 he]; exact (List.mem_filter.1 (List.mem_of_getElem? hx)).1)) (oks_cons (oks_SS (N := [y]) 6 rfl (fun e he => by rw [List.mem_singleton.1 he]; exact (List.mem_filter.1 (List.mem_of_getElem? hy)).1)) (oks_nil _))))) ?_
            refine FlowS.free rfl rfl rfl rfl (Rd.pickT rfl rfl rfl) ?_
            refine FlowS.free rfl rfl rfl rfl (Rd.assign rfl rfl) ?_
            refine FlowS.fin ?_
            refine To.as [row 35 7 (some ⟨b107, 0, none⟩) 1 1 [.int .u8 x.s, .int .i64 x.c, .int .i64 x.p, .int .i64 x.n, .int .i64 x.k, .int .i64 x.h, .slice x.A x.args.length x.cap], agc a va L, agc b vb M, rows En.rcells 30 8 Al ql l, rows En.rcells 30 8 Am qm m, argsS (l.map En.ar), argsS (m.map En.ar), rows En.rcells 30 8 Ap qp (l.filter (inTake ((c : Nat) : Int) 1000)), rows En.rcells 30 8 Aq qq (m.filter (inTake ((c : Nat) : Int) 1000))] rfl ?_
            refine To.sub [(7, .pointer (some ⟨a, 0, none⟩)), (9, .pointer (some ⟨b, 0, none⟩)), (8, .slice Al l.length ql), (10, .slice Am m.length qm), (58, .int .i64 ((c : Nat) : Int)), (11, .bool (decide ([x].map En.itm = [y].map En.itm))), (13, .slice Ap ((l.filter (inTake ((c : Nat) : Int) 1000)).length) qp), (15, .slice Aq ((m.filter (inTake ((c : Nat) : Int) 1000)).length) qq), (17, .int .i64 ((i : Nat) : Int)), (81, .bool wi), (82, .bool true), (83, .int .i64 ((i : Nat) : Int)), (84, .slice Ap ((l.filter (inTake ((c : Nat) : Int) 1000)).length) qp), (85, .int .i64 (((l.filter (inTake ((c : Nat) : Int) 1000)).length : Nat) : Int)), (86, .bool (decide (((i : Nat) : Int) < (((l.filter (inTake ((c : Nat) : Int) 1000)).length : Nat) : Int)))), (87, .bool (decide (((i : Nat) : Int) < (((l.filter (inTake ((c : Nat) : Int) 1000)).length : Nat) : Int))))] ⟨rfl, rfl, rfl, rfl, rfl, rfl, rfl, rfl, rfl, rfl, rfl, rfl, rfl, rfl, rfl, rfl, trivial⟩ ?_
            refine To.blockN ?_
            refine To.thenN ?_
            refine To.reg ?_
            refine To.rd rfl rfl rfl (Rd.move rfl rfl) ?_
            refine To.rd rfl rfl rfl (Rd.inc rfl rfl rfl (by omega)) ?_
            refine To.rd rfl rfl rfl (Rd.assign rfl rfl) ?_
            refine To.nil ?_
            refine To.thenN ?_
            refine To.sub [(7, .pointer (some ⟨a, 0, none⟩)), (9, .pointer (some ⟨b, 0, none⟩)), (8, .slice Al l.length ql), (10, .slice Am m.length qm), (58, .int .i64 ((c : Nat) : Int)), (11, .bool (decide ([x].map En.itm = [y].map En.itm))), (13, .slice Ap ((l.filter (inTake ((c : Nat) : Int) 1000)).length) qp), (15, .slice Aq ((m.filter (inTake ((c : Nat) : Int) 1000)).length) qq), (17, .int .i64 (((i + 1) : Nat) : Int))] ⟨rfl, rfl, rfl, rfl, rfl, rfl, rfl, rfl, rfl, trivial⟩ ?_
            refine To.only [1, 1, 1, 1, 1, 1, 1, 1] rfl ?_
            refine To.again ((l.filter (inTake ((c : Nat) : Int) 1000)).length - (i + 1)) (by omega) ⟨i + 1, decide ([x].map En.itm = [y].map En.itm), rfl, rfl, rfl, (by omega), (wanti_yes hwi g82 hx hy g101)⟩
          ·
            refine FlowS.skip (by decide) rfl rfl rfl rfl ?_
            refine FlowS.skip (by decide) rfl rfl rfl rfl ?_
            refine FlowS.skip (by decide) rfl rfl rfl rfl ?_
            refine FlowS.skip (by decide) rfl rfl rfl rfl ?_
            refine FlowS.skip (by decide) rfl rfl rfl rfl ?_
            refine FlowS.skip (by decide) rfl rfl rfl rfl ?_
            refine FlowS.skip (by decide) rfl rfl rfl rfl ?_
            refine FlowS.skip (by decide) rfl rfl rfl rfl ?_
            refine FlowS.skip (by decide) rfl rfl rfl rfl ?_
            refine FlowS.skip (by decide) rfl rfl rfl rfl ?_
            refine FlowS.skipM rfl rfl rfl rfl rfl ?_
            refine FlowS.skip (by decide) rfl rfl rfl rfl ?_
            refine FlowS.free rfl rfl rfl rfl (Rd.pickF rfl rfl rfl) ?_
            refine FlowS.free rfl rfl rfl rfl (Rd.assign rfl rfl) ?_
            refine FlowS.fin ?_
            refine To.as [agc a va L, agc b vb M, rows En.rcells 30 8 Al ql l, rows En.rcells 30 8 Am qm m, argsS (l.map En.ar), argsS (m.map En.ar), rows En.rcells 30 8 Ap qp (l.filter (inTake ((c : Nat) : Int) 1000)), rows En.rcells 30 8 Aq qq (m.filter (inTake ((c : Nat) : Int) 1000))] rfl ?_
            refine To.sub [(7, .pointer (some ⟨a, 0, none⟩)), (9, .pointer (some ⟨b, 0, none⟩)), (8, .slice Al l.length ql), (10, .slice Am m.length qm), (58, .int .i64 ((c : Nat) : Int)), (11, .bool false), (13, .slice Ap ((l.filter (inTake ((c : Nat) : Int) 1000)).length) qp), (15, .slice Aq ((m.filter (inTake ((c : Nat) : Int) 1000)).length) qq), (17, .int .i64 ((i : Nat) : Int)), (81, .bool wi), (82, .bool true), (83, .int .i64 ((i : Nat) : Int)), (84, .slice Ap ((l.filter (inTake ((c : Nat) : Int) 1000)).length) qp), (85, .int .i64 (((l.filter (inTake ((c : Nat) : Int) 1000)).length : Nat) : Int)), (86, .bool (decide (((i : Nat) : Int) < (((l.filter (inTake ((c : Nat) : Int) 1000)).length : Nat) : Int)))), (87, .bool (decide (((i : Nat) : Int) < (((l.filter (inTake ((c : Nat) : Int) 1000)).length : Nat) : Int))))] ⟨rfl, rfl, rfl, rfl, rfl, rfl, rfl, rfl, rfl, rfl, rfl, rfl, rfl, rfl, rfl, rfl, trivial⟩ ?_
            refine To.blockN ?_
            refine To.thenN ?_
            refine To.reg ?_
            refine To.rd rfl rfl rfl (Rd.move rfl rfl) ?_
            refine To.rd rfl rfl rfl (Rd.inc rfl rfl rfl (by omega)) ?_
            refine To.rd rfl rfl rfl (Rd.assign rfl rfl) ?_
            refine To.nil ?_
            refine To.thenN ?_
            refine To.sub [(7, .pointer (some ⟨a, 0, none⟩)), (9, .pointer (some ⟨b, 0, none⟩)), (8, .slice Al l.length ql), (10, .slice Am m.length qm), (58, .int .i64 ((c : Nat) : Int)), (11, .bool false), (13, .slice Ap ((l.filter (inTake ((c : Nat) : Int) 1000)).length) qp), (15, .slice Aq ((m.filter (inTake ((c : Nat) : Int) 1000)).length) qq), (17, .int .i64 (((i + 1) : Nat) : Int))] ⟨rfl, rfl, rfl, rfl, rfl, rfl, rfl, rfl, rfl, trivial⟩ ?_
            refine To.only [0, 0, 0, 0, 0, 0, 0, 0] rfl ?_
            refine To.again ((l.filter (inTake ((c : Nat) : Int) 1000)).length - (i + 1)) (by omega) ⟨i + 1, false, rfl, rfl, rfl, (by omega), (wanti_no hx hy g101)⟩
        ·
          refine To.exit ?_
          refine To.thenX ?_
          refine To.thenX ?_
          refine To.blockX ?_
          refine To.blockN ?_
          refine To.thenN ?_
          refine To.reg ?_
          refine To.rd rfl rfl rfl (Rd.inc rfl rfl rfl (by omega)) ?_
          refine To.rd rfl rfl rfl (Rd.move rfl rfl) ?_
          refine To.nil ?_
          refine To.thenN ?_
          refine To.sub [(7, .pointer (some ⟨a, 0, none⟩)), (9, .pointer (some ⟨b, 0, none⟩)), (8, .slice Al l.length ql), (10, .slice Am m.length qm), (11, .bool wi), (58, .int .i64 (((c + 1) : Nat) : Int))] ⟨rfl, rfl, rfl, rfl, rfl, rfl, trivial⟩ ?_
          refine To.only [0, 0, 0, 0, 0, 0] rfl ?_
          refine To.again (3 - (c + 1)) (by omega) ⟨c + 1, wi, rfl, rfl, rfl, (by omega), (want_step hw hwi (fun _ => by omega))⟩
      ·
        refine To.sk rfl rfl rfl ?_
        refine To.sk rfl rfl rfl ?_
        refine To.sk rfl rfl rfl ?_
        refine To.sk rfl rfl rfl ?_
        refine To.rd rfl rfl rfl (Rd.pickF rfl rfl rfl) ?_
        refine To.nil ?_
        refine To.thenN ?_
        refine To.condF rfl ?_
        refine To.exit ?_
        refine To.thenX ?_
        refine To.thenX ?_
        refine To.blockX ?_
        refine To.blockN ?_
        refine To.thenN ?_
        refine To.reg ?_
        refine To.rd rfl rfl rfl (Rd.inc rfl rfl rfl (by omega)) ?_
        refine To.rd rfl rfl rfl (Rd.move rfl rfl) ?_
        refine To.nil ?_
        refine To.thenN ?_
        refine To.sub [(7, .pointer (some ⟨a, 0, none⟩)), (9, .pointer (some ⟨b, 0, none⟩)), (8, .slice Al l.length ql), (10, .slice Am m.length qm), (11, .bool wi), (58, .int .i64 (((c + 1) : Nat) : Int))] ⟨rfl, rfl, rfl, rfl, rfl, rfl, trivial⟩ ?_
        refine To.only [0, 0, 0, 0, 0, 0] rfl ?_
        refine To.again (3 - (c + 1)) (by omega) ⟨c + 1, wi, rfl, rfl, rfl, (by omega), (want_step hw hwi (fun h => by rw [h] at g82; cases g82))⟩
    ·
      refine To.sk rfl rfl rfl ?_
      refine To.sk rfl rfl rfl ?_
      refine To.sk rfl rfl rfl ?_
      refine To.sk rfl rfl rfl ?_
      refine To.sk rfl rfl rfl ?_
      refine To.rd rfl rfl rfl (Rd.pickF rfl rfl rfl) ?_
      refine To.rd rfl rfl rfl (Rd.assign rfl rfl) ?_
      refine To.nil ?_
      refine To.thenN ?_
      refine To.seq ?_
      refine To.reg ?_
      refine To.rd rfl rfl rfl (Rd.assign rfl rfl) ?_
      refine To.nil ?_
      refine To.thenN ?_
      refine To.block ?_
      refine To.know (p := (m.filter (inTake ((c : Nat) : Int) 1000)).length ≤ qq) (fun w hs => by obtain ⟨_, _, h1, _, h2, _⟩ := own_form (show w.ownsRow 0 30 8 (.slice Aq (m.filter (inTake ((c : Nat) : Int) 1000)).length qq) (m.filter (inTake ((c : Nat) : Int) 1000)).length _ from hs.each (rows En.rcells 30 8 Aq qq (m.filter (inTake ((c : Nat) : Int) 1000))) (by simp)); simp only [Value.slice.injEq] at h1; omega) (fun hqq => ?_)
      have hpl : (l.filter (inTake ((c : Nat) : Int) 1000)).length ≤ 40 := Nat.le_trans (List.length_filter_le _ _) hFl.len
      have hql : (m.filter (inTake ((c : Nat) : Int) 1000)).length ≤ 40 := Nat.le_trans (List.length_filter_le _ _) hFm.len
      refine To.sub [(7, .pointer (some ⟨a, 0, none⟩)), (9, .pointer (some ⟨b, 0, none⟩)), (8, .slice Al l.length ql), (10, .slice Am m.length qm), (58, .int .i64 ((c : Nat) : Int)), (11, .bool false), (13, .slice Ap ((l.filter (inTake ((c : Nat) : Int) 1000)).length) qp), (15, .slice Aq ((m.filter (inTake ((c : Nat) : Int) 1000)).length) qq), (17, .int .i64 ((0 : Nat) : Int))] ⟨rfl, rfl, rfl, rfl, rfl, rfl, rfl, rfl, rfl, trivial⟩ ?_
      refine To.only [4, 4, 4, 4, 4, 4, 2, 0] rfl ?_
      refine To.loop (fun mz ρ Γ => ∃ (i : Nat) (wi : Bool), ρ = [(7, .pointer (some ⟨a, 0, none⟩)), (9, .pointer (some ⟨b, 0, none⟩)), (8, .slice Al l.length ql), (10, .slice Am m.length qm), (58, .int .i64 ((c : Nat) : Int)), (11, .bool wi), (13, .slice Ap ((l.filter (inTake ((c : Nat) : Int) 1000)).length) qp), (15, .slice Aq ((m.filter (inTake ((c : Nat) : Int) 1000)).length) qq), (17, .int .i64 ((i : Nat) : Int))] ∧ Γ = [agc a va L, agc b vb M, rows En.rcells 30 8 Al ql l, rows En.rcells 30 8 Am qm m, argsS (l.map En.ar), argsS (m.map En.ar), rows En.rcells 30 8 Ap qp (l.filter (inTake ((c : Nat) : Int) 1000)), rows En.rcells 30 8 Aq qq (m.filter (inTake ((c : Nat) : Int) 1000))] ∧ mz = (l.filter (inTake ((c : Nat) : Int) 1000)).length - i ∧ (i ≤ (l.filter (inTake ((c : Nat) : Int) 1000)).length) ∧ (Wanti (l.filter (inTake ((c : Nat) : Int) 1000)) (m.filter (inTake ((c : Nat) : Int) 1000)) wv i wi)) ((l.filter (inTake ((c : Nat) : Int) 1000)).length - 0) ⟨0, false, rfl, rfl, rfl, (Nat.zero_le _), (wanti_start (by simp [g74]))⟩ ?_
      rintro mz _ _ ⟨i, wi, rfl, rfl, rfl, hi, hwi⟩
      refine To.seq ?_
      refine To.seq ?_
      refine To.reg ?_
      refine To.rd rfl rfl rfl (Rd.move rfl rfl) ?_
      refine To.rdB rfl rfl rfl (Rd.move rfl rfl) (fun g82 => ?_) (fun g82 => ?_)
      ·
        refine To.rd rfl rfl rfl (Rd.move rfl rfl) ?_
        refine To.rd rfl rfl rfl (Rd.move rfl rfl) ?_
        refine To.rd rfl rfl rfl (Rd.len rfl rfl Try.underlying25) ?_
        refine To.rd rfl rfl rfl (Rd.lss rfl rfl rfl) ?_
        refine To.rd rfl rfl rfl (Rd.pickT rfl rfl rfl) ?_
        refine To.nil ?_
        refine To.thenN ?_
        refine To.condP rfl (fun c87 => ?_) (fun c87 => ?_)
        ·
          have hpq := (hwi.1 g82).2.1
          obtain ⟨x, hx⟩ : ∃ y, (l.filter (inTake ((c : Nat) : Int) 1000))[i]? = some y := ⟨(l.filter (inTake ((c : Nat) : Int) 1000))[i]'(by omega), List.getElem?_eq_getElem _⟩
          obtain ⟨y, hy⟩ : ∃ y, (m.filter (inTake ((c : Nat) : Int) 1000))[i]? = some y := ⟨(m.filter (inTake ((c : Nat) : Int) 1000))[i]'(by omega), List.getElem?_eq_getElem _⟩
          refine To.skip ?_
          refine To.thenN ?_
          refine To.seq ?_
          refine To.block ?_
          refine To.flow [] [⟨0, [], 0⟩, ⟨1, [], 0⟩, ⟨5, [], 0⟩, ⟨6, [], 0⟩, ⟨2, [], 1⟩, ⟨3, [], 0⟩, ⟨4, [], 1⟩, ⟨7, [], 1⟩, ⟨8, [], 0⟩, ⟨9, [], 1⟩, ⟨10, [], 0⟩, ⟨11, [], 0⟩, ⟨12, [], 0⟩, ⟨13, [], 0⟩, ⟨18, [], 0⟩, ⟨19, [], 0⟩, ⟨20, [], 0⟩, ⟨21, [], 0⟩, ⟨22, [], 0⟩, ⟨14, [], 1⟩, ⟨15, [], 1⟩, ⟨16, [], 3⟩, ⟨17, [], 2⟩, ⟨23, [17], 3⟩, ⟨24, [17], 0⟩, ⟨25, [17], 0⟩] mixed (by kernel_rfl) (oks_nil _) ?_
          refine FlowS.free rfl rfl rfl rfl (Rd.move rfl rfl) ?_
          refine FlowS.free rfl rfl rfl rfl (Rd.move rfl rfl) ?_
          refine FlowS.free rfl rfl rfl rfl (Rd.move rfl rfl) ?_
          refine FlowS.free rfl rfl rfl rfl (Rd.move rfl rfl) ?_
          refine FlowS.rd rfl rfl rfl rfl (Rd.indexRows (i := 6) (j := i) rfl rfl rfl s25 rfl hx) ?_
          refine FlowS.free rfl rfl rfl rfl (Rd.field rfl rfl fl30_0) ?_
          refine FlowS.rd rfl rfl rfl rfl (Rd.load (i := 6) rfl rfl c3 rfl (gives_at (f := 0) (rows_gives encR hx) rfl)) ?_
          refine FlowS.rd rfl rfl rfl rfl (Rd.indexRows (i := 7) (j := i) rfl rfl rfl s25 rfl hy) ?_
          refine FlowS.free rfl rfl rfl rfl (Rd.field rfl rfl fl30_0) ?_
          refine FlowS.rd rfl rfl rfl rfl (Rd.load (i := 7) rfl rfl c3 rfl (gives_at (f := 0) (rows_gives encR hy) rfl)) ?_
          refine FlowS.free rfl rfl rfl rfl (Rd.eql rfl rfl rfl) ?_
          refine FlowS.rdP rfl rfl rfl rfl (Rd.move rfl rfl) (fun g101 => ?_) (fun g101 => ?_)
          ·
            refine FlowS.free rfl rfl rfl rfl (Rd.move rfl rfl) ?_
            refine FlowS.free rfl rfl rfl rfl (Rd.move rfl rfl) ?_
            refine FlowS.free rfl rfl rfl rfl (Rd.move rfl rfl) ?_
            refine FlowS.free rfl rfl rfl rfl (Rd.move rfl rfl) ?_
            refine FlowS.free rfl rfl rfl rfl (Rd.move rfl rfl) ?_
            refine FlowS.free rfl rfl rfl rfl (Rd.inc rfl rfl rfl (by omega)) ?_
            refine FlowS.free rfl rfl rfl rfl (Rd.sliceLH (lo := i) (hi := (i + 1)) rfl s25 rfl rfl rfl (by omega) (by omega)) ?_
            refine FlowS.rd rfl rfl rfl rfl (Rd.indexRows (i := 6) (j := i) rfl rfl rfl s25 rfl hx) ?_
            refine FlowS.rd rfl rfl rfl rfl (Rd.loadS (i := 6) rfl rfl r30 rfl (rows_gives encR hx) (encR.len _)) ?_
            refine FlowS.callQ rfl rfl rfl rfl (Ent.fn rfl rfl ca24) (item_fn x (by have := good_s (hFl.same.gl x (List.mem_filter.1 (List.mem_of_getElem? hx)).1); omega)) rfl (oks_nil _) ?_
            refine FlowS.mkG rfl rfl rfl rfl rfl (Mk.sliceN (us := [.int .u8 x.s, .int .i64 x.c, .int .i64 x.p, .int .i64 x.n, .int .i64 x.k, .int .i64 x.h, .slice x.A x.args.length x.cap]) rfl s31 rfl rfl rfl rfl rfl rfl) ?_
            rintro _ _ ⟨b107_2, rfl, rfl⟩
            refine FlowS.callQ rfl rfl rfl rfl (Ent.fn rfl rfl ca14) ((by rw [show i + 1 - i = 1 by omega]; exact same_fn _ (slAt Aq qq i 8) 1 (qq - i) [x] [y] (by simp; have := good_s (hFm.same.gl y (List.mem_filter.1 (List.mem_of_getElem? hy)).1); omega) (by simp; have := hFl.argsl x (List.mem_filter.1 (List.mem_of_getElem? hx)).1; omega) (by simp) (by simp))) rfl (oks_cons (oks_row 0 rfl) (oks_cons (oks_elem encR 8 rfl hy (by omega)) (oks_cons (oks_SS (N := [x]) 5 rfl (fun e he => by rw [List.mem_singleton.1 he]; exact (List.mem_filter.1 (List.mem_of_getElem? hx)).1)) (oks_cons (oks_SS (N := [y]) 6 rfl (fun e he => by rw [List.mem_singleton.1 he]; exact (List.mem_filter.1 (List.mem_of_getElem? hy)).1)) (oks_nil _))))) ?_
            refine FlowS.free rfl rfl rfl rfl (Rd.pickT rfl rfl rfl) ?_
            refine FlowS.free rfl rfl rfl rfl (Rd.assign rfl rfl) ?_
            refine FlowS.fin ?_
            refine To.as [row 35 7 (some ⟨b107_2, 0, none⟩) 1 1 [.int .u8 x.s, .int .i64 x.c, .int .i64 x.p, .int .i64 x.n, .int .i64 x.k, .int .i64 x.h, .slice x.A x.args.length x.cap], agc a va L, agc b vb M, rows En.rcells 30 8 Al ql l, rows En.rcells 30 8 Am qm m, argsS (l.map En.ar), argsS (m.map En.ar), rows En.rcells 30 8 Ap qp (l.filter (inTake ((c : Nat) : Int) 1000)), rows En.rcells 30 8 Aq qq (m.filter (inTake ((c : Nat) : Int) 1000))] rfl ?_
            refine To.sub [(7, .pointer (some ⟨a, 0, none⟩)), (9, .pointer (some ⟨b, 0, none⟩)), (8, .slice Al l.length ql), (10, .slice Am m.length qm), (58, .int .i64 ((c : Nat) : Int)), (11, .bool (decide ([x].map En.itm = [y].map En.itm))), (13, .slice Ap ((l.filter (inTake ((c : Nat) : Int) 1000)).length) qp), (15, .slice Aq ((m.filter (inTake ((c : Nat) : Int) 1000)).length) qq), (17, .int .i64 ((i : Nat) : Int)), (81, .bool wi), (82, .bool true), (83, .int .i64 ((i : Nat) : Int)), (84, .slice Ap ((l.filter (inTake ((c : Nat) : Int) 1000)).length) qp), (85, .int .i64 (((l.filter (inTake ((c : Nat) : Int) 1000)).length : Nat) : Int)), (86, .bool (decide (((i : Nat) : Int) < (((l.filter (inTake ((c : Nat) : Int) 1000)).length : Nat) : Int)))), (87, .bool (decide (((i : Nat) : Int) < (((l.filter (inTake ((c : Nat) : Int) 1000)).length : Nat) : Int))))] ⟨rfl, rfl, rfl, rfl, rfl, rfl, rfl, rfl, rfl, rfl, rfl, rfl, rfl, rfl, rfl, rfl, trivial⟩ ?_
            refine To.blockN ?_
            refine To.thenN ?_
            refine To.reg ?_
            refine To.rd rfl rfl rfl (Rd.move rfl rfl) ?_
            refine To.rd rfl rfl rfl (Rd.inc rfl rfl rfl (by omega)) ?_
            refine To.rd rfl rfl rfl (Rd.assign rfl rfl) ?_
            refine To.nil ?_
            refine To.thenN ?_
            refine To.sub [(7, .pointer (some ⟨a, 0, none⟩)), (9, .pointer (some ⟨b, 0, none⟩)), (8, .slice Al l.length ql), (10, .slice Am m.length qm), (58, .int .i64 ((c : Nat) : Int)), (11, .bool (decide ([x].map En.itm = [y].map En.itm))), (13, .slice Ap ((l.filter (inTake ((c : Nat) : Int) 1000)).length) qp), (15, .slice Aq ((m.filter (inTake ((c : Nat) : Int) 1000)).length) qq), (17, .int .i64 (((i + 1) : Nat) : Int))] ⟨rfl, rfl, rfl, rfl, rfl, rfl, rfl, rfl, rfl, trivial⟩ ?_
            refine To.only [1, 1, 1, 1, 1, 1, 1, 1] rfl ?_
            refine To.again ((l.filter (inTake ((c : Nat) : Int) 1000)).length - (i + 1)) (by omega) ⟨i + 1, decide ([x].map En.itm = [y].map En.itm), rfl, rfl, rfl, (by omega), (wanti_yes hwi g82 hx hy g101)⟩
          ·
            refine FlowS.skip (by decide) rfl rfl rfl rfl ?_
            refine FlowS.skip (by decide) rfl rfl rfl rfl ?_
            refine FlowS.skip (by decide) rfl rfl rfl rfl ?_
            refine FlowS.skip (by decide) rfl rfl rfl rfl ?_
            refine FlowS.skip (by decide) rfl rfl rfl rfl ?_
            refine FlowS.skip (by decide) rfl rfl rfl rfl ?_
            refine FlowS.skip (by decide) rfl rfl rfl rfl ?_
            refine FlowS.skip (by decide) rfl rfl rfl rfl ?_
            refine FlowS.skip (by decide) rfl rfl rfl rfl ?_
            refine FlowS.skip (by decide) rfl rfl rfl rfl ?_
            refine FlowS.skipM rfl rfl rfl rfl rfl ?_
            refine FlowS.skip (by decide) rfl rfl rfl rfl ?_
            refine FlowS.free rfl rfl rfl rfl (Rd.pickF rfl rfl rfl) ?_
            refine FlowS.free rfl rfl rfl rfl (Rd.assign rfl rfl) ?_
            refine FlowS.fin ?_
            refine To.as [agc a va L, agc b vb M, rows En.rcells 30 8 Al ql l, rows En.rcells 30 8 Am qm m, argsS (l.map En.ar), argsS (m.map En.ar), rows En.rcells 30 8 Ap qp (l.filter (inTake ((c : Nat) : Int) 1000)), rows En.rcells 30 8 Aq qq (m.filter (inTake ((c : Nat) : Int) 1000))] rfl ?_
            refine To.sub [(7, .pointer (some ⟨a, 0, none⟩)), (9, .pointer (some ⟨b, 0, none⟩)), (8, .slice Al l.length ql), (10, .slice Am m.length qm), (58, .int .i64 ((c : Nat) : Int)), (11, .bool false), (13, .slice Ap ((l.filter (inTake ((c : Nat) : Int) 1000)).length) qp), (15, .slice Aq ((m.filter (inTake ((c : Nat) : Int) 1000)).length) qq), (17, .int .i64 ((i : Nat) : Int)), (81, .bool wi), (82, .bool true), (83, .int .i64 ((i : Nat) : Int)), (84, .slice Ap ((l.filter (inTake ((c : Nat) : Int) 1000)).length) qp), (85, .int .i64 (((l.filter (inTake ((c : Nat) : Int) 1000)).length : Nat) : Int)), (86, .bool (decide (((i : Nat) : Int) < (((l.filter (inTake ((c : Nat) : Int) 1000)).length : Nat) : Int)))), (87, .bool (decide (((i : Nat) : Int) < (((l.filter (inTake ((c : Nat) : Int) 1000)).length : Nat) : Int))))] ⟨rfl, rfl, rfl, rfl, rfl, rfl, rfl, rfl, rfl, rfl, rfl, rfl, rfl, rfl, rfl, rfl, trivial⟩ ?_
            refine To.blockN ?_
            refine To.thenN ?_
            refine To.reg ?_
            refine To.rd rfl rfl rfl (Rd.move rfl rfl) ?_
            refine To.rd rfl rfl rfl (Rd.inc rfl rfl rfl (by omega)) ?_
            refine To.rd rfl rfl rfl (Rd.assign rfl rfl) ?_
            refine To.nil ?_
            refine To.thenN ?_
            refine To.sub [(7, .pointer (some ⟨a, 0, none⟩)), (9, .pointer (some ⟨b, 0, none⟩)), (8, .slice Al l.length ql), (10, .slice Am m.length qm), (58, .int .i64 ((c : Nat) : Int)), (11, .bool false), (13, .slice Ap ((l.filter (inTake ((c : Nat) : Int) 1000)).length) qp), (15, .slice Aq ((m.filter (inTake ((c : Nat) : Int) 1000)).length) qq), (17, .int .i64 (((i + 1) : Nat) : Int))] ⟨rfl, rfl, rfl, rfl, rfl, rfl, rfl, rfl, rfl, trivial⟩ ?_
            refine To.only [0, 0, 0, 0, 0, 0, 0, 0] rfl ?_
            refine To.again ((l.filter (inTake ((c : Nat) : Int) 1000)).length - (i + 1)) (by omega) ⟨i + 1, false, rfl, rfl, rfl, (by omega), (wanti_no hx hy g101)⟩
        ·
          refine To.exit ?_
          refine To.thenX ?_
          refine To.thenX ?_
          refine To.blockX ?_
          refine To.blockN ?_
          refine To.thenN ?_
          refine To.reg ?_
          refine To.rd rfl rfl rfl (Rd.inc rfl rfl rfl (by omega)) ?_
          refine To.rd rfl rfl rfl (Rd.move rfl rfl) ?_
          refine To.nil ?_
          refine To.thenN ?_
          refine To.sub [(7, .pointer (some ⟨a, 0, none⟩)), (9, .pointer (some ⟨b, 0, none⟩)), (8, .slice Al l.length ql), (10, .slice Am m.length qm), (11, .bool wi), (58, .int .i64 (((c + 1) : Nat) : Int))] ⟨rfl, rfl, rfl, rfl, rfl, rfl, trivial⟩ ?_
          refine To.only [0, 0, 0, 0, 0, 0] rfl ?_
          refine To.again (3 - (c + 1)) (by omega) ⟨c + 1, wi, rfl, rfl, rfl, (by omega), (want_step hw hwi (fun _ => by omega))⟩
      ·
        refine To.sk rfl rfl rfl ?_
        refine To.sk rfl rfl rfl ?_
        refine To.sk rfl rfl rfl ?_
        refine To.sk rfl rfl rfl ?_
        refine To.rd rfl rfl rfl (Rd.pickF rfl rfl rfl) ?_
        refine To.nil ?_
        refine To.thenN ?_
        refine To.condF rfl ?_
        refine To.exit ?_
        refine To.thenX ?_
        refine To.thenX ?_
        refine To.blockX ?_
        refine To.blockN ?_
        refine To.thenN ?_
        refine To.reg ?_
        refine To.rd rfl rfl rfl (Rd.inc rfl rfl rfl (by omega)) ?_
        refine To.rd rfl rfl rfl (Rd.move rfl rfl) ?_
        refine To.nil ?_
        refine To.thenN ?_
        refine To.sub [(7, .pointer (some ⟨a, 0, none⟩)), (9, .pointer (some ⟨b, 0, none⟩)), (8, .slice Al l.length ql), (10, .slice Am m.length qm), (11, .bool wi), (58, .int .i64 (((c + 1) : Nat) : Int))] ⟨rfl, rfl, rfl, rfl, rfl, rfl, trivial⟩ ?_
        refine To.only [0, 0, 0, 0, 0, 0] rfl ?_
        refine To.again (3 - (c + 1)) (by omega) ⟨c + 1, wi, rfl, rfl, rfl, (by omega), (want_step hw hwi (fun h => by rw [h] at g82; cases g82))⟩
  ·
    refine To.exit ?_
    refine To.thenX ?_
    refine To.thenX ?_
    refine To.blockX ?_
    refine To.thenN ?_
    refine To.seq ?_
    refine To.reg ?_
    refine To.rd rfl rfl rfl (Rd.move rfl rfl) ?_
    refine To.rd rfl rfl rfl (Rd.move rfl rfl) ?_
    refine To.call [0, 0] rfl rfl rfl (Ent.fn rfl rfl ca25) rfl (equal_fn a b va vb L M (by have := hFl.lenL; omega) (fun e he => by have := hFl.argsL e he; omega)) ?_
    rintro _ _ ⟨rfl, rfl⟩
    refine To.as [agc a va L, agc b vb M, rows En.rcells 30 8 Al ql l, rows En.rcells 30 8 Am qm m, argsS (l.map En.ar), argsS (m.map En.ar)] rfl ?_
    refine To.rd rfl rfl rfl (Rd.move rfl rfl) ?_
    refine To.rd rfl rfl rfl (Rd.eqlB rfl Try.underlying4 rfl rfl) ?_
    refine To.rdB rfl rfl rfl (Rd.move rfl rfl) (fun g121 => ?_) (fun g121 => ?_)
    ·
      refine To.rd rfl rfl rfl (Rd.move rfl rfl) ?_
      refine To.rd rfl rfl rfl (Rd.move rfl rfl) ?_
      refine To.call [1, 0] rfl rfl rfl (Ent.fn rfl rfl ca25) rfl (equal_fn b a vb va M L (by have := hFm.lenL; omega) (fun e he => by have := hFm.argsL e he; omega)) ?_
      rintro _ _ ⟨rfl, rfl⟩
      refine To.as [agc b vb M, agc a va L, rows En.rcells 30 8 Al ql l, rows En.rcells 30 8 Am qm m, argsS (l.map En.ar), argsS (m.map En.ar)] rfl ?_
      refine To.rd rfl rfl rfl (Rd.move rfl rfl) ?_
      refine To.rd rfl rfl rfl (Rd.eqlB rfl Try.underlying4 rfl rfl) ?_
      refine To.rd rfl rfl rfl (Rd.pickT rfl rfl rfl) ?_
      refine To.rdB rfl rfl rfl (Rd.move rfl rfl) (fun g128 => ?_) (fun g128 => ?_)
      ·
        refine To.rd rfl rfl rfl (Rd.move rfl rfl) ?_
        refine To.rd rfl rfl rfl (Rd.move rfl rfl) ?_
        refine To.call [1] rfl rfl rfl (Ent.fn rfl rfl ca19) rfl (copy_fn a va L (by have := hFl.lenL; omega) (fun e he => by have := hFl.argsL e he; omega)) ?_
        rintro _ _ ⟨d, vd, Ld, rfl, rfl, hcp⟩
        refine To.as [agc d vd Ld, agc a va L, agc b vb M, rows En.rcells 30 8 Al ql l, rows En.rcells 30 8 Am qm m, argsS (l.map En.ar), argsS (m.map En.ar)] rfl ?_
        refine To.call [1, 0] rfl rfl rfl (Ent.fn rfl rfl ca25) rfl (equal_fn a d va vd L Ld (by have := hFl.lenL; omega) (fun e he => by have := hFl.argsL e he; omega)) ?_
        rintro _ _ ⟨rfl, rfl⟩
        refine To.as [agc a va L, agc d vd Ld, agc b vb M, rows En.rcells 30 8 Al ql l, rows En.rcells 30 8 Am qm m, argsS (l.map En.ar), argsS (m.map En.ar)] rfl ?_
        refine To.rd rfl rfl rfl (Rd.pickT rfl rfl rfl) ?_
        refine To.rd rfl rfl rfl (Rd.assign rfl rfl) ?_
        refine To.nil ?_
        refine To.sub [(8, .slice Al l.length ql), (10, .slice Am m.length qm), (11, .bool wv), (58, .int .i64 ((c : Nat) : Int)), (59, .bool (decide (((c : Nat) : Int) < 3))), (6, .bool (decide (L.map En.bare = Ld.map En.bare)))] ⟨rfl, rfl, rfl, rfl, rfl, rfl, trivial⟩ ?_
        refine To.thenN ?_
        refine To.ret ?_
        refine To.end1 (.inl rfl) Try.results7 rfl ?_
        rw [decide_eq_true hcp.symm]
      ·
        exfalso
        obtain rfl : c = 3 := by omega
        have h1 := eq_iff hFl hFm sL sM
        have hw2 : wv = true ↔ _ := hw
        rw [← hw2, eq_comm] at h1
        cases wv <;> simp [h1] at g128
    ·
      exfalso
      obtain rfl : c = 3 := by omega
      have h1 := eq_iff hFl hFm sL sM
      have hw2 : wv = true ↔ _ := hw
      rw [← hw2] at h1
      cases wv <;> simp [h1] at g121
end Go.Proofs.Ytnamppkicefbjaa
