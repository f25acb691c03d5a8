/- Arguments that are events, opened. Own text. -/
import Derived.Test.YtneimfacccgaeaaV15
namespace Go.Proofs.Ytneimfacccgaeaa
open Go.ChangeShapes Go.WideShapes Go.ChangeAt Go.RowKit Go.Flow Go.Mem Go.Sep
structure Ev.ok (e : Ev) : Prop where
  k : 0 ≤ e.k ∧ e.k < 256
  cap : e.args.length ≤ e.cap
section
variable {H : Type} {ench : TypeId × Value → H} {w : World} {base : Nat} {spare : Nat → Bool} {held : Bool}
theorem open_i64s {fuel : Nat} {cs : List Value} {x : DataW H × List MemPlace} (h : DataW.trod ench Try.prog w base spare held fuel 35 cs = some x) :
    ∃ (A : Option Addr) (l : List Int) (cap : Nat), cs = [.slice A l.length cap] ∧ (ros encI A l).holds w ∧ l.length ≤ cap ∧ cap ≤ maxLen := by
  obtain ⟨A, l, cap, h1, h2, _, h3, h4⟩ := open_list (enc := encI) (size := 1) (fun _ => rfl) (by decide) (fun _ => True) Try.underlying35 (by kernel_rfl) (fun n cs' x' h' _ => by
    obtain ⟨k, rfl, _⟩ := DataW.trod_int Try.underlying2 h'
    exact ⟨k, rfl, trivial⟩) h
  exact ⟨A, l, cap, h1, h2, h3, h4⟩
theorem open_ev {fuel : Nat} {cs : List Value} {x : DataW H × List MemPlace} (h : DataW.trod ench Try.prog w base spare held fuel 37 cs = some x) (hl : cs.length = 9) : ∃ e : Ev, cs = e.cells ∧ e.ok ∧ (ros encI e.A e.args).holds w := by
  match cs, hl with
  | [c0, c1, c2, c3, c4, c5, c6, c7, c8], _ =>
    obtain ⟨_, _, g0⟩ := open_fields Try.underlying37 h 0 _ rfl (by kernel_rfl) (c := c0) rfl
    obtain ⟨_, _, g1⟩ := open_fields Try.underlying37 h 1 _ rfl (by kernel_rfl) (c := c1) rfl
    obtain ⟨_, _, g2⟩ := open_fields Try.underlying37 h 2 _ rfl (by kernel_rfl) (c := c2) rfl
    obtain ⟨_, _, g3⟩ := open_fields Try.underlying37 h 3 _ rfl (by kernel_rfl) (c := c3) rfl
    obtain ⟨_, _, g4⟩ := open_fields Try.underlying37 h 4 _ rfl (by kernel_rfl) (c := c4) rfl
    obtain ⟨_, _, g5⟩ := open_fields Try.underlying37 h 5 _ rfl (by kernel_rfl) (c := c5) rfl
    obtain ⟨_, _, g6⟩ := open_fields Try.underlying37 h 6 _ rfl (by kernel_rfl) (c := c6) rfl
    obtain ⟨_, _, g7⟩ := open_fields Try.underlying37 h 7 _ rfl (by kernel_rfl) (c := c7) rfl
    obtain ⟨_, _, g8⟩ := open_fields Try.underlying37 h 8 _ rfl (by kernel_rfl) (c := c8) rfl
    obtain ⟨n0, e0, _, w0⟩ := DataW.trod_int Try.underlying3 g0
    obtain ⟨n1, e1, _, w1⟩ := DataW.trod_int Try.underlying3 g1
    obtain ⟨n2, e2, _, w2⟩ := DataW.trod_int Try.underlying34 g2
    obtain ⟨n3, e3, _, w3⟩ := DataW.trod_int Try.underlying3 g3
    obtain ⟨n4, e4, _, w4⟩ := DataW.trod_int Try.underlying3 g4
    obtain ⟨n5, e5, _, w5⟩ := DataW.trod_int Try.underlying3 g5
    obtain ⟨n6, e6, _, w6⟩ := DataW.trod_int Try.underlying3 g6
    obtain ⟨n7, e7, _, w7⟩ := DataW.trod_int Try.underlying2 g7
    obtain ⟨A, l, cap, e8, hsrc, hlc, hcm⟩ := open_i64s g8
    simp only [List.cons.injEq, and_true] at e0 e1 e2 e3 e4 e5 e6 e7 e8
    subst e0 e1 e2 e3 e4 e5 e6 e7 e8
    have b2 := bounds_u8 w2
    exact ⟨⟨n0, n1, n2, n3, n4, n5, n6, n7, l, A, cap⟩, rfl, ⟨by simp only; omega, hlc⟩, hsrc⟩
theorem open_evs {fuel : Nat} {cs : List Value} {x : DataW H × List MemPlace} (h : DataW.trod ench Try.prog w base spare held fuel 22 cs = some x) :
    ∃ (A : Option Addr) (l : List Ev) (cap : Nat), cs = [.slice A l.length cap] ∧ (∀ e ∈ l, e.ok) ∧ l.length ≤ cap ∧ (ros Ev.cells A l).holds w ∧ (argsS (l.map Ev.ar)).holds w := by
  obtain ⟨A, l, cap, h1, h2, h3, h4, h5⟩ := open_list (enc := Ev.cells) (size := 9) (fun _ => rfl) (by decide) (fun e => e.ok ∧ (ros encI e.A e.args).holds w) Try.underlying22 (by kernel_rfl) (fun n cs' x' h' hl => open_ev h' hl) h
  refine ⟨A, l, cap, h1, fun o ho => (h3 o ho).1, h4, h2, fun p hp => ?_⟩
  obtain ⟨o, ho, rfl⟩ := List.mem_map.1 hp
  exact (h3 o ho).2
set_option maxRecDepth 100000 in
theorem open_event {r : Reach} {b0 : Nat} {v : Value} {d : DataW H} {ps : List MemPlace} (hval : Value.okWide Try.prog w r b0 37 v) (hd : DataW.Trod ench Try.prog w base spare held 37 v d ps) : ∃ e : Ev, v = .agg e.cells.toArray ∧ e.ok ∧ (ros encI e.A e.args).holds w := by
  simp only [Value.okWide, Try.underlying37] at hval
  obtain ⟨cs, rfl, hsz, _⟩ := hval
  obtain ⟨fuel, hf⟩ := hd
  obtain ⟨e, h1, h2, h3⟩ := open_ev hf (by show cs.toList.length = 9; rw [Array.length_toList, hsz]; kernel_rfl)
  exact ⟨e, by rw [← h1]; exact congrArg Value.agg cs.toArray_toList.symm, h2, h3⟩
end
theorem args3 {a b c : Ev} {w : World} (ha : (ros encI a.A a.args).holds w) (hb : (ros encI b.A b.args).holds w) (hc : (ros encI c.A c.args).holds w) : (argsS ([a, b, c].map Ev.ar)).holds w := fun p hp => by
  simp only [List.map_cons, List.map_nil, List.mem_cons, List.not_mem_nil, or_false] at hp
  rcases hp with rfl | rfl | rfl
  · exact ha
  · exact hb
  · exact hc
theorem ros_take {A : Option Addr} {xs : List Int} (n : Nat) : (∀ g ∈ (ros encI A (xs.take n)).reads, g ∈ (ros encI A xs).reads) ∧ ∀ w, (ros encI A xs).holds w → (ros encI A (xs.take n)).holds w := by
  have hf : (xs.take n).flatMap encI = (xs.flatMap encI).take n := by
    have : ∀ ys : List Int, ys.flatMap encI = ys.map fun n => Value.int .i64 n := fun ys => by induction ys <;> simp_all [encI]
    rw [this, this, List.map_take]
  refine ⟨fun g hg => ?_, fun w hw => ?_⟩
  · have h1 : g ∈ rblks A ((xs.take n).flatMap encI) := hg
    show g ∈ rblks A (xs.flatMap encI)
    rw [hf] at h1
    cases hx : xs.flatMap encI with
    | nil => rw [hx] at h1; simpa using h1
    | cons y ys =>
      cases n with
      | zero => simp [rblks] at h1
      | succ n => rw [hx] at h1; exact h1
  · show Src w A ((xs.take n).flatMap encI)
    rw [hf]
    rcases (show Src w A (xs.flatMap encI) from hw) with h | ⟨g, off, h1, h2⟩
    · exact .inl (by rw [h]; simp)
    · exact .inr ⟨g, off, h1, range_take h2⟩
/-- The arguments of what few leaves. -/
theorem argsS_cut {Γ : List Chunk} {l : List Ev} {n : Nat} (j : Nat) (hj : Γ[j]? = some (argsS (l.map Ev.ar))) : (∀ g ∈ (argsS (((l.take n).map Ev.cut).map Ev.ar)).reads, g ∈ reads Γ) ∧ (∀ w, oks Γ w → (argsS (((l.take n).map Ev.cut).map Ev.ar)).holds w) := by
  refine ⟨fun g hg => ?_, fun w hw p hp => ?_⟩
  · obtain ⟨p, hp, hg⟩ := List.mem_flatMap.1 hg
    obtain ⟨c, hc, rfl⟩ := List.mem_map.1 hp
    obtain ⟨e, he, rfl⟩ := List.mem_map.1 hc
    exact reads_at j hj (List.mem_flatMap.2 ⟨e.ar, List.mem_map.2 ⟨e, List.mem_of_mem_take he, rfl⟩, (ros_take (A := e.A) (xs := e.args) 5).1 g hg⟩)
  · obtain ⟨c, hc, rfl⟩ := List.mem_map.1 hp
    obtain ⟨e, he, rfl⟩ := List.mem_map.1 hc
    exact (ros_take (A := e.A) (xs := e.args) 5).2 w (hw _ (List.mem_of_getElem? hj) e.ar (List.mem_map.2 ⟨e, List.mem_of_mem_take he, rfl⟩))
theorem cut_args {l : List Ev} {n : Nat} : ∀ e ∈ (l.take n).map Ev.cut, e.args.length ≤ 1000000000000 := fun e he => by
  obtain ⟨x, _, rfl⟩ := List.mem_map.1 he
  have : (x.args.take 5).length ≤ 5 := List.length_take_le _ _
  show (x.args.take 5).length ≤ _; omega
theorem cut_k {l : List Ev} {n : Nat} (h : ∀ e ∈ l, e.ok) : ∀ e ∈ (l.take n).map Ev.cut, 0 ≤ e.k ∧ e.k < 256 := fun e he => by
  obtain ⟨x, hx, rfl⟩ := List.mem_map.1 he
  exact (h x (List.mem_of_mem_take hx)).k
theorem cut_len {l : List Ev} {n : Nat} : ((l.take n).map Ev.cut).length ≤ n := by
  rw [List.length_map]; exact List.length_take_le _ _
theorem own_caps {Γ : List Chunk} {w : World} {A : Option Addr} {cap : Nat} {l : List Ev} (i : Nat) (h : Γ[i]? = some (rows Ev.cells 37 9 A cap l)) (hs : sat Γ w) : l.length ≤ cap := by
  obtain ⟨A', cap', h1, _, h2, _⟩ := own_form (show w.ownsRow 0 37 9 (.slice A l.length cap) l.length _ from hs.each _ (List.mem_of_getElem? h))
  simp only [Value.slice.injEq] at h1
  omega
end Go.Proofs.Ytneimfacccgaeaa
