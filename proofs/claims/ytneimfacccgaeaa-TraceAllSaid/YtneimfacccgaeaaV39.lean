/- The walk of trace.Orders. Own text (walks printed by sx.py). -/
import Derived.Test.YtneimfacccgaeaaV38
namespace Go.Proofs.Ytneimfacccgaeaa
open Go.RowKit Go.Flow Go.Mem Go.Sep
def Ev.zero : Ev := ⟨0, 0, 0, 0, 0, 0, 0, 0, [], none, 0⟩
theorem depAt_val {l m : List Ev} (h : l.map Ev.val = m.map Ev.val) (i j : Nat) : depAt l i j = depAt m i j := by
  have key : ∀ k : Nat, (l[k]?).map Ev.val = (m[k]?).map Ev.val := fun k => by rw [← List.getElem?_map, ← List.getElem?_map, h]
  unfold depAt
  have h1 := key i
  have h2 := key j
  cases hx : l[i]? <;> cases hx' : m[i]? <;> cases hy : l[j]? <;> cases hy' : m[j]? <;> simp_all
  exact dep_val h1 h2
theorem ords_val {l m : List Ev} (h : l.map Ev.val = m.map Ev.val) (u : List Nat) : ords l u = ords m u := by
  have hl : l.length = m.length := by have := congrArg List.length h; simpa using this
  have hn : ∀ u, nxt l u = nxt m u := fun u => by
    unfold nxt
    rw [hl]
    refine List.filter_congr fun j _ => ?_
    unfold okU
    simp only [depAt_val h]
  have ha : ∀ k u, allC l k u = allC m k u := fun k => by
    induction k with
    | zero => intro u; rfl
    | succ k ih => intro u; show ((nxt l u).flatMap fun j => allC l k (u ++ [j])) = ((nxt m u).flatMap fun j => allC m k (u ++ [j])); rw [hn u]; simp only [ih]
  unfold ords
  rw [hl]; exact ha _ u
theorem valsO_val {l m : List Ev} (h : l.map Ev.val = m.map Ev.val) (o : List Nat) : valsO l o = valsO m o := by
  unfold valsO
  refine List.map_congr_left fun i _ => ?_
  rw [← List.getElem?_map, ← List.getElem?_map, h]
/-- The first i are clones. -/
def Cloned (l W : List Ev) (M : List (Option Addr × List Int)) (i : Nat) : Prop := W.length = l.length ∧ (W.take i).map Ev.val = (l.take i).map Ev.val ∧ ∀ e ∈ W.take i, e.ar ∈ M ∧ e.args.length ≤ 1000000000000
theorem Cloned.step {l W : List Ev} {M : List (Option Addr × List Int)} {i : Nat} (h : Cloned l W M i) {y : Ev} (hy : l[i]? = some y) (ha : y.args.length ≤ 1000000000000) (A : Option Addr) (q : Nat) : Cloned l (W.set i { y with A := A, cap := q }) (M ++ [(A, y.args)]) (i + 1) := by
  obtain ⟨h1, h2, h3⟩ := h
  have hil : i < W.length := by rw [h1]; exact (List.getElem?_eq_some_iff.1 hy).1
  have e1 : (W.set i { y with A := A, cap := q }).take (i + 1) = W.take i ++ [{ y with A := A, cap := q }] := by
    rw [take_of_get (set_at_eq hil), List.take_set_of_le (Nat.le_refl _)]
  refine ⟨by rw [List.length_set]; exact h1, ?_, ?_⟩
  · rw [e1, List.map_append, h2, take_of_get hy, List.map_append]; rfl
  · rw [e1]
    intro e he
    rcases List.mem_append.1 he with h | h
    · exact ⟨List.mem_append_left _ (h3 e h).1, (h3 e h).2⟩
    · rw [List.mem_singleton.1 h]; exact ⟨List.mem_append_right _ (List.mem_singleton.2 rfl), ha⟩
theorem argsS_all {Γ : List Chunk} {W : List Ev} {M : List (Option Addr × List Int)} (j : Nat) (hj : Γ[j]? = some (argsS M)) (h : ∀ e ∈ W, e.ar ∈ M) : (∀ g ∈ (argsS (W.map Ev.ar)).reads, g ∈ reads Γ) ∧ (∀ w, oks Γ w → (argsS (W.map Ev.ar)).holds w) :=
  argsS_sub j hj fun p hp => by obtain ⟨e, he, rfl⟩ := List.mem_map.1 hp; exact h e he
set_option maxHeartbeats 2000000 in
set_option maxRecDepth 100000 in
theorem orders_fn (Al : Option Addr) (cl : Nat) (l : List Ev) (hl : l.length ≤ 1000000) (ha : ∀ e ∈ l, e.args.length ≤ 1000000000000) (n : Int) :
    Does Try.prog 32 [.slice Al l.length cl, .int .i64 n] [ros Ev.cells Al l, argsS (l.map Ev.ar)] (fun v Γ' => ∃ (b1 b2 : Nat) (A : Option Addr) (q : Nat) (W : List Ev), W.map Ev.val = l.map Ev.val ∧ (∀ e ∈ W, e.args.length ≤ 1000000000000) ∧ v = .func (.func 45) #[] #[.pointer (some ⟨b1, 0, none⟩), .pointer (some ⟨b2, 0, none⟩)] ∧ Γ' = [ro (some ⟨b1, 0, none⟩) [.int .i64 n], ro (some ⟨b2, 0, none⟩) [.slice A W.length q], ros Ev.cells A W, argsS (W.map Ev.ar)]) := by
  refine Does.enter Try.func32 rfl Try.ntmps32 rfl (fun w0 => ?_)
  refine To.seq ?_
  refine To.reg ?_
  refine To.boxed rfl rfl rfl rfl rfl rfl (fun b3 => ?_)
  refine To.rd rfl rfl rfl (Rd.assign rfl rfl) ?_
  refine To.nil ?_
  refine To.thenN ?_
  refine To.seq ?_
  refine To.reg ?_
  refine To.rd rfl rfl rfl (Rd.move rfl rfl) ?_
  refine To.rd rfl rfl rfl (Rd.len rfl rfl Try.underlying22) ?_
  refine To.mk rfl rfl rfl (Mk.makeRowsN (enc := Ev.cells) (z := Ev.zero) (n := l.length) (size := 9) rfl (by decide) rfl s22 rfl rfl (by omega) (by simp only [maxLen]; omega)) ?_
  rintro _ _ ⟨b10, rfl, rfl⟩
  refine To.as [rows Ev.cells 37 9 (some ⟨b10, 0, none⟩) l.length (List.replicate l.length Ev.zero), box b3 [.int .i64 n] 3, ros Ev.cells Al l, argsS (l.map Ev.ar)] rfl ?_
  refine To.alloc rfl rfl rfl rfl z22 (fun b5 => ?_)
  refine To.up rfl rfl (Up.store (i := 0) rfl rfl rfl c22 rfl rfl (box_takesAll rfl)) ?_
  refine To.nil ?_
  refine To.thenN ?_
  refine To.seq ?_
  refine To.seq ?_
  refine To.reg ?_
  refine To.rd rfl rfl rfl (Rd.move rfl rfl) ?_
  refine To.rd rfl rfl rfl (Rd.len rfl rfl Try.underlying22) ?_
  refine To.rd rfl rfl rfl (Rd.move rfl rfl) ?_
  refine To.nil ?_
  refine To.thenN ?_
  refine To.block ?_
  refine To.free (c := argsS []) rfl rfl (fun w p hp => by simp at hp) ?_
  refine To.sub [(3, .pointer (some ⟨b3, 0, none⟩)), (5, .pointer (some ⟨b5, 0, none⟩)), (11, .slice Al l.length cl), (12, .int .i64 ((l.length : Nat) : Int)), (13, .int .i64 ((0 : Nat) : Int))] ⟨rfl, rfl, rfl, rfl, rfl, trivial⟩ ?_
  refine To.only [3, 1, 1, 0, 0, 0] rfl ?_
  refine To.loop (fun mz ρ Γ => ∃ (i : Nat) (W : List Ev) (M : List (Option Addr × List Int)), ρ = [(3, .pointer (some ⟨b3, 0, none⟩)), (5, .pointer (some ⟨b5, 0, none⟩)), (11, .slice Al l.length cl), (12, .int .i64 ((l.length : Nat) : Int)), (13, .int .i64 ((i : Nat) : Int))] ∧ Γ = [box b3 [.int .i64 n] 3, box b5 [.slice (some ⟨b10, 0, none⟩) W.length l.length] 22, rows Ev.cells 37 9 (some ⟨b10, 0, none⟩) l.length W, argsS M, ros Ev.cells Al l, argsS (l.map Ev.ar)] ∧ mz = l.length - i ∧ (i ≤ l.length) ∧ (Cloned l W M i)) (l.length - 0) ⟨0, (List.replicate l.length Ev.zero), [], rfl, rfl, rfl, (Nat.zero_le _), ⟨by simp, rfl, fun e he => by simp at he⟩⟩ ?_
  rintro mz _ _ ⟨i, W, M, rfl, rfl, rfl, hi, hW⟩
  refine To.seq ?_
  refine To.reg ?_
  refine To.rd rfl rfl rfl (Rd.lss rfl rfl rfl) ?_
  refine To.nil ?_
  refine To.thenN ?_
  refine To.seq ?_
  refine To.condP rfl (fun c14 => ?_) (fun c14 => ?_)
  ·
    obtain ⟨y, hy⟩ : ∃ z0, l[i]? = some z0 := ⟨l[i]'(by omega), List.getElem?_eq_getElem _⟩
    have hWl := hW.1
    obtain ⟨wi, hwi⟩ : ∃ z0, W[i]? = some z0 := ⟨W[i]'(by omega), List.getElem?_eq_getElem _⟩
    refine To.skip ?_
    refine To.thenN ?_
    refine To.seq ?_
    refine To.block ?_
    refine To.seq ?_
    refine To.reg ?_
    refine To.rd rfl rfl rfl (Rd.move rfl rfl) ?_
    refine To.rd rfl rfl rfl (Rd.indexRos encE (i := 4) (j := i) rfl rfl rfl s22 rfl hy) ?_
    refine To.rd rfl rfl rfl (Rd.loadS (i := 4) rfl rfl r37 rfl (ros_gives encE hy) (encE.len _)) ?_
    refine To.alloc rfl rfl rfl rfl z37 (fun b7 => ?_)
    refine To.rd rfl rfl rfl (Rd.assign rfl rfl) ?_
    refine To.up rfl rfl (Up.storeS (i := 0) rfl rfl rfl r37 rfl rfl rfl (box_takesAll rfl)) ?_
    refine To.nil ?_
    refine To.thenN ?_
    refine To.flow [box b7 [.int .i64 y.t, .int .i64 y.c, .int .u8 y.k, .int .i64 y.p, .int .i64 y.n, .int .i64 y.cp, .int .i64 y.h, .int .i64 y.d, .slice y.A y.args.length y.cap] 37, box b5 [.slice (some ⟨b10, 0, none⟩) W.length l.length] 22, argsS (l.map Ev.ar)] [⟨0, [], 0⟩, ⟨1, [], 0⟩, ⟨2, [], 0⟩, ⟨3, [], 4⟩, ⟨4, [3], 1⟩, ⟨5, [3], 5⟩] mixed (by kernel_rfl) (oks_cons (oks_at 0 rfl) (oks_cons (oks_at 2 rfl) (oks_cons (oks_at 6 rfl) (oks_nil _)))) ?_
    refine FlowS.free rfl rfl rfl rfl (Rd.load (i := 1) rfl rfl c22 rfl (box_gives1 rfl)) ?_
    refine FlowS.free rfl rfl rfl rfl (Rd.move rfl rfl) ?_
    refine FlowS.free rfl rfl rfl rfl (Rd.loadS (i := 0) rfl rfl r37 rfl box_whole rfl) ?_
    refine FlowS.callM rfl rfl rfl rfl rfl (Ent.fn rfl rfl ca34) (clone_fn y (ha y (List.mem_of_getElem? hy))) rfl (oks_cons (oks_S 6 rfl (mem_at hy Ev.ar)) (oks_nil _)) ?_
    rintro _ _ ⟨A1, q1, rfl, rfl⟩
    refine ⟨rfl, ?_⟩
    refine FlowS.rd rfl rfl rfl rfl (Rd.indexRows (i := 4) (j := i) rfl rfl rfl s22 rfl hwi) ?_
    refine FlowS.up (Γ' := [rows encI 2 1 A1 q1 y.args, box b7 [.int .i64 y.t, .int .i64 y.c, .int .u8 y.k, .int .i64 y.p, .int .i64 y.n, .int .i64 y.cp, .int .i64 y.h, .int .i64 y.d, .slice y.A y.args.length y.cap] 37, box b3 [.int .i64 n] 3, box b5 [.slice (some ⟨b10, 0, none⟩) W.length l.length] 22, rows Ev.cells 37 9 (some ⟨b10, 0, none⟩) l.length (W.set i ({ y with A := A1, cap := q1 } : Ev)), argsS M, ros Ev.cells Al l, argsS (l.map Ev.ar)]) rfl rfl rfl (Up.storeS (i := 4) (us := Ev.cells ({ y with A := A1, cap := q1 } : Ev)) rfl rfl rfl r37 (encE.len _) rfl rfl (rows_takes encE (by decide) (by omega))) (oks_cons (oks_at 1 rfl) (oks_cons (oks_at 3 rfl) (oks_cons (oks_at 7 rfl) (oks_nil _)))) ?_
    refine FlowS.fin ?_
    refine To.as [rows encI 2 1 A1 q1 y.args, box b7 [.int .i64 y.t, .int .i64 y.c, .int .u8 y.k, .int .i64 y.p, .int .i64 y.n, .int .i64 y.cp, .int .i64 y.h, .int .i64 y.d, .slice y.A y.args.length y.cap] 37, box b3 [.int .i64 n] 3, box b5 [.slice (some ⟨b10, 0, none⟩) W.length l.length] 22, rows Ev.cells 37 9 (some ⟨b10, 0, none⟩) l.length (W.set i ({ y with A := A1, cap := q1 } : Ev)), argsS M, ros Ev.cells Al l, argsS (l.map Ev.ar)] rfl ?_
    refine To.blockN ?_
    refine To.thenN ?_
    refine To.reg ?_
    refine To.rd rfl rfl rfl (Rd.inc rfl rfl rfl (by omega)) ?_
    refine To.rd rfl rfl rfl (Rd.move rfl rfl) ?_
    refine To.nil ?_
    refine To.thenN ?_
    refine To.only [0, 0, 0, 0, 0, 0, 0, 0] rfl ?_
    refine To.layRow ?_
    refine To.derive (argsS (M ++ [(A1, y.args)])) rfl (argsS_add 0 5 rfl rfl).1 (argsS_add 0 5 rfl rfl).2 ?_
    refine To.sub [(3, .pointer (some ⟨b3, 0, none⟩)), (5, .pointer (some ⟨b5, 0, none⟩)), (11, .slice Al l.length cl), (12, .int .i64 ((l.length : Nat) : Int)), (13, .int .i64 (((i + 1) : Nat) : Int))] ⟨rfl, rfl, rfl, rfl, rfl, trivial⟩ ?_
    refine To.only [3, 3, 3, 0, 3, 3] rfl ?_
    refine To.as [box b3 [.int .i64 n] 3, box b5 [.slice (some ⟨b10, 0, none⟩) (W.set i ({ y with A := A1, cap := q1 } : Ev)).length l.length] 22, rows Ev.cells 37 9 (some ⟨b10, 0, none⟩) l.length (W.set i ({ y with A := A1, cap := q1 } : Ev)), argsS (M ++ [(A1, y.args)]), ros Ev.cells Al l, argsS (l.map Ev.ar)] (by simp only [List.length_set]) ?_
    refine To.again (l.length - (i + 1)) (by omega) ⟨i + 1, (W.set i ({ y with A := A1, cap := q1 } : Ev)), M ++ [(A1, y.args)], rfl, rfl, rfl, (by omega), (hW.step hy (ha y (List.mem_of_getElem? hy)) A1 q1)⟩
  ·
    refine To.exit ?_
    refine To.thenX ?_
    refine To.thenX ?_
    refine To.blockX ?_
    refine To.thenN ?_
    refine To.seq ?_
    refine To.reg ?_
    refine To.rd rfl rfl rfl (Rd.makeFunc rfl rfl rfl) ?_
    refine To.rd rfl rfl rfl (Rd.assign rfl rfl) ?_
    refine To.nil ?_
    refine To.thenN ?_
    refine To.ret ?_
    have hil : i = l.length := by omega
    obtain ⟨hW1, hW2, hW3⟩ := hW
    rw [hil] at hW2 hW3
    rw [List.take_length, ← hW1, List.take_length] at hW2
    rw [← hW1, List.take_length] at hW3
    refine To.only [2, 0, 0, 0, 0, 0] rfl ?_
    refine To.layRow ?_
    refine To.derive (argsS (W.map Ev.ar)) rfl (argsS_all 3 rfl (fun e he => (hW3 e he).1)).1 (argsS_all 3 rfl (fun e he => (hW3 e he).1)).2 ?_
    refine To.only [2, 0, 0, 0, 0, 0, 0] rfl ?_
    refine To.layBox ?_
    refine To.only [3, 0, 0, 0, 0, 0, 0] rfl ?_
    refine To.layBox ?_
    refine To.only [1, 0, 1, 0] rfl ?_
    refine To.end1 (.inl rfl) Try.results32 rfl ?_
    exact ⟨b3, b5, _, _, W, hW2, fun e he => (hW3 e he).2, rfl, rfl⟩
end Go.Proofs.Ytneimfacccgaeaa
