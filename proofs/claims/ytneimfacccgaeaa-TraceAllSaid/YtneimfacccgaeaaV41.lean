/- The reference: Orders. Own text (walks printed by sx.py). -/
import Derived.Test.YtneimfacccgaeaaV40
namespace Go.Proofs.Ytneimfacccgaeaa
open Go.RowKit Go.Flow Go.Mem Go.Sep
theorem allC_rch {l : List Ev} : ∀ (k : Nat) (u : List Nat), Rch l u → l.length - u.length = k → ∀ o ∈ allC l k u, Rch l o ∧ o.length = l.length
  | 0, u, hu, hk, o, ho => by
    have := List.mem_singleton.1 ho
    subst this
    have := hu.len
    exact ⟨hu, by omega⟩
  | k + 1, u, hu, hk, o, ho => by
    obtain ⟨j, hj, ho⟩ := List.mem_flatMap.1 ho
    exact allC_rch k (u ++ [j]) (.snoc hu hj) (by rw [List.length_append, List.length_singleton]; omega) o ho
theorem ords_rch {l : List Ev} {o : List Nat} (h : o ∈ ords l []) : Rch l o ∧ o.length = l.length := allC_rch _ [] .nil rfl o h
/-- The lists of events that the orders stand for, so far. -/
def OkT (l : List Ev) (O : List (List Nat)) (T : List St) (i : Nat) : Prop := T.length = i ∧ ∀ (k : Nat) (s : St), T[k]? = some s → (∃ o, O[k]? = some o ∧ s.l.map Ev.val = valsO l o) ∧ ∀ e ∈ s.l, e ∈ l
theorem OkT.push {l : List Ev} {O : List (List Nat)} {T : List St} {i : Nat} {s : St} {o : List Nat} (h : OkT l O T i) (ho : O[i]? = some o) (hs : s.l.map Ev.val = valsO l o) (hm : ∀ e ∈ s.l, e ∈ l) : OkT l O (T ++ [s]) (i + 1) := by
  refine ⟨by rw [List.length_append, h.1]; rfl, fun k t ht => ?_⟩
  rw [List.getElem?_append] at ht
  split at ht
  · exact h.2 k t ht
  · rename_i hk
    have hk0 : k - T.length = 0 := by
      rcases Nat.eq_zero_or_pos (k - T.length) with h' | h'
      · exact h'
      · rw [List.getElem?_eq_none (by simp; omega)] at ht; cases ht
    rw [hk0] at ht
    simp only [List.getElem?_cons_zero, Option.some.injEq] at ht
    subst ht
    have : k = i := by have := h.1; omega
    subst this
    exact ⟨⟨o, ho, hs⟩, hm⟩
theorem chs_pushS (T : List St) (A : Option Addr) (q : Nat) (X : List Ev) : T.map St.ch ++ [rows Ev.cells 37 9 A q X] = (T ++ [(⟨A, q, X⟩ : St)]).map St.ch := by rw [List.map_append]; rfl
set_option maxHeartbeats 2000000 in
set_option maxRecDepth 100000 in
theorem rorders_fn (Al : Option Addr) (cl : Nat) (l : List Ev) (hl : l.length ≤ 1000000) (n : Int) (hn : n ≤ 1000000) :
    Does Try.prog 31 [.slice Al l.length cl, .int .i64 n] [ros Ev.cells Al l] (fun v Γ' => ∃ A q T, v = .slice A T.length q ∧ Γ' = [rows St.cells 22 1 A q T, all (T.map St.ch)] ∧ OkT l ((ords l []).take n.toNat) T ((ords l []).take n.toNat).length) := by
  refine Does.enter Try.func31 rfl Try.ntmps31 rfl (fun w0 => ?_)
  refine To.seq ?_
  refine To.reg ?_
  refine To.rd rfl rfl rfl (Rd.assign rfl rfl) ?_
  refine To.nil ?_
  refine To.thenN ?_
  refine To.seq ?_
  refine To.nilRow St.cells 22 1 (To.allNil ?_)
  refine To.reg ?_
  refine To.rd rfl rfl rfl (Rd.assign rfl rfl) ?_
  refine To.nil ?_
  refine To.thenN ?_
  refine To.seq ?_
  refine To.seq ?_
  refine To.reg ?_
  refine To.rd rfl rfl rfl (Rd.move rfl rfl) ?_
  refine To.rd rfl rfl rfl (Rd.move rfl rfl) ?_
  refine To.free (c := ros encM none []) rfl rfl (fun w => .inl rfl) ?_
  refine To.dup 3 rfl rfl ?_
  refine To.call [0, 0] rfl rfl rfl (Ent.fn rfl rfl ca44) rfl (rnext_fn Al cl l hl l.length none 0 [] n rfl (Nat.zero_le _) hn) ?_
  rintro _ _ ⟨A2, q2, O, rfl, rfl, hO⟩
  refine To.as [rows Sn.cells 62 1 A2 q2 O, natsS (O.map Sn.ar), all [], rows St.cells 22 1 none 0 ([] : List St), ros Ev.cells Al l] rfl ?_
  have hOl : O.length ≤ 1000000 := by
    have h := congrArg List.length hO
    rw [List.length_map, List.length_take] at h
    omega
  refine To.rd rfl rfl rfl (Rd.len rfl rfl Try.underlying71) ?_
  refine To.rd rfl rfl rfl (Rd.move rfl rfl) ?_
  refine To.nil ?_
  refine To.thenN ?_
  refine To.block ?_
  refine To.sub [(0, .slice Al l.length cl), (5, .slice none ([] : List St).length 0), (13, .slice A2 O.length q2), (14, .int .i64 ((O.length : Nat) : Int)), (15, .int .i64 ((0 : Nat) : Int))] ⟨rfl, rfl, rfl, rfl, rfl, trivial⟩ ?_
  refine To.only [3, 2, 0, 0, 0] rfl ?_
  refine To.as [rows St.cells 22 1 none 0 ([] : List St), all (([] : List St).map St.ch), rows Sn.cells 62 1 A2 q2 O, natsS (O.map Sn.ar), ros Ev.cells Al l] rfl ?_
  refine To.loop (fun mz ρ Γ => ∃ (i : Nat) (T : List St) (A5 : Option Addr) (q5 : Nat), ρ = [(0, .slice Al l.length cl), (5, .slice A5 T.length q5), (13, .slice A2 O.length q2), (14, .int .i64 ((O.length : Nat) : Int)), (15, .int .i64 ((i : Nat) : Int))] ∧ Γ = [rows St.cells 22 1 A5 q5 T, all (T.map St.ch), rows Sn.cells 62 1 A2 q2 O, natsS (O.map Sn.ar), ros Ev.cells Al l] ∧ mz = O.length - i ∧ (i ≤ O.length) ∧ (OkT l ((ords l []).take n.toNat) T i)) (O.length - 0) ⟨0, ([] : List St), none, 0, rfl, rfl, rfl, (Nat.zero_le _), ⟨rfl, fun k s h => by simp at h⟩⟩ ?_
  rintro mz _ _ ⟨i, T, A5, q5, rfl, rfl, rfl, hi, hT⟩
  refine To.seq ?_
  refine To.reg ?_
  refine To.rd rfl rfl rfl (Rd.lss rfl rfl rfl) ?_
  refine To.nil ?_
  refine To.thenN ?_
  refine To.seq ?_
  refine To.condP rfl (fun c16 => ?_) (fun c16 => ?_)
  ·
    obtain ⟨x, hx⟩ : ∃ z0, O[i]? = some z0 := ⟨O[i]'(by omega), List.getElem?_eq_getElem _⟩
    have hxo : ((ords l []).take n.toNat)[i]? = some x.l := by rw [← hO]; simp [hx]
    have hxm : x.l ∈ ords l [] := List.mem_of_mem_take (List.mem_of_getElem? hxo)
    obtain ⟨hxr, hxl⟩ := ords_rch hxm
    have hTl := hT.1
    refine To.derive (ros encM x.A x.l) rfl (natsS_at 3 rfl (List.mem_map.2 ⟨x, List.mem_of_getElem? hx, rfl⟩)).1 (natsS_at 3 rfl (List.mem_map.2 ⟨x, List.mem_of_getElem? hx, rfl⟩)).2 ?_
    refine To.skip ?_
    refine To.thenN ?_
    refine To.seq ?_
    refine To.block ?_
    refine To.seq ?_
    refine To.reg ?_
    refine To.rd rfl rfl rfl (Rd.indexRows (i := 3) (j := i) rfl rfl rfl s71 rfl hx) ?_
    refine To.rd rfl rfl rfl (Rd.load (i := 3) rfl rfl c62 rfl (gives_1 (rows_gives encSn hx) rfl)) ?_
    refine To.rd rfl rfl rfl (Rd.assign rfl rfl) ?_
    refine To.nil ?_
    refine To.thenN ?_
    refine To.seq ?_
    refine To.nilRow Ev.cells 37 9 ?_
    refine To.reg ?_
    refine To.rd rfl rfl rfl (Rd.assign rfl rfl) ?_
    refine To.nil ?_
    refine To.thenN ?_
    refine To.seq ?_
    refine To.seq ?_
    refine To.reg ?_
    refine To.rd rfl rfl rfl (Rd.move rfl rfl) ?_
    refine To.rd rfl rfl rfl (Rd.len rfl rfl Try.underlying62) ?_
    refine To.rd rfl rfl rfl (Rd.move rfl rfl) ?_
    refine To.nil ?_
    refine To.thenN ?_
    refine To.block ?_
    refine To.sub [(0, .slice Al l.length cl), (5, .slice A5 T.length q5), (13, .slice A2 O.length q2), (14, .int .i64 ((O.length : Nat) : Int)), (15, .int .i64 ((i : Nat) : Int)), (8, .slice none ([] : List Ev).length 0), (19, .slice x.A x.l.length x.cap), (20, .int .i64 ((x.l.length : Nat) : Int)), (21, .int .i64 ((0 : Nat) : Int))] ⟨rfl, rfl, rfl, rfl, rfl, rfl, rfl, rfl, rfl, trivial⟩ ?_
    refine To.only [0, 1, 1, 1, 1, 1, 0] rfl ?_
    refine To.loop (fun mz ρ Γ => ∃ (m : Nat) (X : List Ev) (A8 : Option Addr) (q8 : Nat), ρ = [(0, .slice Al l.length cl), (5, .slice A5 T.length q5), (13, .slice A2 O.length q2), (14, .int .i64 ((O.length : Nat) : Int)), (15, .int .i64 ((i : Nat) : Int)), (8, .slice A8 X.length q8), (19, .slice x.A x.l.length x.cap), (20, .int .i64 ((x.l.length : Nat) : Int)), (21, .int .i64 ((m : Nat) : Int))] ∧ Γ = [rows Ev.cells 37 9 A8 q8 X, rows St.cells 22 1 A5 q5 T, all (T.map St.ch), rows Sn.cells 62 1 A2 q2 O, natsS (O.map Sn.ar), ros Ev.cells Al l, ros encM x.A x.l] ∧ mz = x.l.length - m ∧ (m ≤ x.l.length) ∧ (X.map Ev.val = valsO l (x.l.take m)) ∧ (∀ e ∈ X, e ∈ l)) (x.l.length - 0) ⟨0, ([] : List Ev), none, 0, rfl, rfl, rfl, (Nat.zero_le _), rfl, (fun e he => by simp at he)⟩ ?_
    rintro mz _ _ ⟨m, X, A8, q8, rfl, rfl, rfl, hm, hX, hXm⟩
    have hXl : X.length ≤ m := by
      have h := congrArg List.length hX
      rw [List.length_map, valsO, List.length_map, List.length_take] at h
      omega
    refine To.seq ?_
    refine To.reg ?_
    refine To.rd rfl rfl rfl (Rd.lss rfl rfl rfl) ?_
    refine To.nil ?_
    refine To.thenN ?_
    refine To.seq ?_
    refine To.condP rfl (fun c22 => ?_) (fun c22 => ?_)
    ·
      obtain ⟨p, hp⟩ : ∃ z0, x.l[m]? = some z0 := ⟨x.l[m]'(by omega), List.getElem?_eq_getElem _⟩
      have hpl := hxr.lt p (List.mem_of_getElem? hp)
      obtain ⟨y, hy⟩ : ∃ z0, l[p]? = some z0 := ⟨l[p]'(by omega), List.getElem?_eq_getElem _⟩
      refine To.skip ?_
      refine To.thenN ?_
      refine To.seq ?_
      refine To.block ?_
      refine To.seq ?_
      refine To.reg ?_
      refine To.rd rfl rfl rfl (Rd.indexRos encM_ok (i := 6) (j := m) rfl rfl rfl s62 rfl hp) ?_
      refine To.rd rfl rfl rfl (Rd.load (i := 6) rfl rfl c3 rfl (gives_1 (ros_gives encM_ok hp) rfl)) ?_
      refine To.rd rfl rfl rfl (Rd.assign rfl rfl) ?_
      refine To.nil ?_
      refine To.thenN ?_
      refine To.reg ?_
      refine To.rd rfl rfl rfl (Rd.move rfl rfl) ?_
      refine To.rd rfl rfl rfl (Rd.move rfl rfl) ?_
      refine To.rd rfl rfl rfl (Rd.move rfl rfl) ?_
      refine To.rd rfl rfl rfl (Rd.indexRos encE (i := 5) (j := p) rfl rfl rfl s22 rfl hy) ?_
      refine To.rd rfl rfl rfl (Rd.loadS (i := 5) rfl rfl r37 rfl (ros_gives encE hy) (encE.len _)) ?_
      refine To.mk rfl rfl rfl (Mk.sliceN (us := [.int .i64 y.t, .int .i64 y.c, .int .u8 y.k, .int .i64 y.p, .int .i64 y.n, .int .i64 y.cp, .int .i64 y.h, .int .i64 y.d, .slice y.A y.args.length y.cap]) rfl s22 rfl rfl rfl rfl rfl rfl) ?_
      rintro _ _ ⟨b30, rfl, rfl⟩
      refine To.as [row 37 9 (some ⟨b30, 0, none⟩) 1 1 [.int .i64 y.t, .int .i64 y.c, .int .u8 y.k, .int .i64 y.p, .int .i64 y.n, .int .i64 y.cp, .int .i64 y.h, .int .i64 y.d, .slice y.A y.args.length y.cap], rows Ev.cells 37 9 A8 q8 X, rows St.cells 22 1 A5 q5 T, all (T.map St.ch), rows Sn.cells 62 1 A2 q2 O, natsS (O.map Sn.ar), ros Ev.cells Al l, ros encM x.A x.l] rfl ?_
      refine To.ge rfl rfl rfl (Ge.append1 encE (i := 1) (j := 0) (el := y) rfl s22 rfl rfl rfl rfl rfl (by first | omega | (simp only [List.length_append, List.length_cons, List.length_nil]; omega)) (by first | omega | (simp only [List.length_append, List.length_cons, List.length_nil]; omega))) ?_
      rintro _ _ ⟨A31, q31, rfl, rfl⟩
      refine To.as [row 37 9 (some ⟨b30, 0, none⟩) 1 1 [.int .i64 y.t, .int .i64 y.c, .int .u8 y.k, .int .i64 y.p, .int .i64 y.n, .int .i64 y.cp, .int .i64 y.h, .int .i64 y.d, .slice y.A y.args.length y.cap], rows Ev.cells 37 9 A31 q31 (X ++ [y]), rows St.cells 22 1 A5 q5 T, all (T.map St.ch), rows Sn.cells 62 1 A2 q2 O, natsS (O.map Sn.ar), ros Ev.cells Al l, ros encM x.A x.l] rfl ?_
      refine To.rd rfl rfl rfl (Rd.assign rfl rfl) ?_
      refine To.nil ?_
      refine To.blockN ?_
      refine To.thenN ?_
      refine To.reg ?_
      refine To.rd rfl rfl rfl (Rd.inc rfl rfl rfl (by omega)) ?_
      refine To.rd rfl rfl rfl (Rd.move rfl rfl) ?_
      refine To.nil ?_
      refine To.thenN ?_
      refine To.sub [(0, .slice Al l.length cl), (5, .slice A5 T.length q5), (13, .slice A2 O.length q2), (14, .int .i64 ((O.length : Nat) : Int)), (15, .int .i64 ((i : Nat) : Int)), (8, .slice A31 (X ++ [y]).length q31), (19, .slice x.A x.l.length x.cap), (20, .int .i64 ((x.l.length : Nat) : Int)), (21, .int .i64 (((m + 1) : Nat) : Int))] ⟨rfl, rfl, rfl, rfl, rfl, rfl, rfl, rfl, rfl, trivial⟩ ?_
      refine To.only [1, 1, 1, 1, 1, 1, 1] rfl ?_
      refine To.again (x.l.length - (m + 1)) (by omega) ⟨m + 1, X ++ [y], A31, q31, rfl, rfl, rfl, (by omega), (by rw [valsO_push hp hy, List.map_append, hX]; rfl), (fun e he => (List.mem_append.1 he).elim (hXm e) (fun h => by rw [List.mem_singleton.1 h]; exact List.mem_of_getElem? hy))⟩
    ·
      refine To.exit ?_
      refine To.thenX ?_
      refine To.thenX ?_
      refine To.blockX ?_
      refine To.thenN ?_
      refine To.reg ?_
      refine To.rd rfl rfl rfl (Rd.move rfl rfl) ?_
      refine To.rd rfl rfl rfl (Rd.move rfl rfl) ?_
      refine To.mk rfl rfl rfl (Mk.sliceN (us := [.slice A8 X.length q8]) rfl s26 rfl rfl rfl rfl rfl rfl) ?_
      rintro _ _ ⟨b35, rfl, rfl⟩
      refine To.as [row 22 1 (some ⟨b35, 0, none⟩) 1 1 [.slice A8 X.length q8], rows Ev.cells 37 9 A8 q8 X, rows St.cells 22 1 A5 q5 T, all (T.map St.ch), rows Sn.cells 62 1 A2 q2 O, natsS (O.map Sn.ar), ros Ev.cells Al l, ros encM x.A x.l] rfl ?_
      refine To.ge rfl rfl rfl (Ge.append1 encS (i := 2) (j := 0) (el := (⟨A8, q8, X⟩ : St)) rfl s26 rfl rfl rfl rfl rfl (by first | omega | (simp only [List.length_append, List.length_cons, List.length_nil]; omega)) (by first | omega | (simp only [List.length_append, List.length_cons, List.length_nil]; omega))) ?_
      rintro _ _ ⟨A36, q36, rfl, rfl⟩
      refine To.as [row 22 1 (some ⟨b35, 0, none⟩) 1 1 [.slice A8 X.length q8], rows Ev.cells 37 9 A8 q8 X, rows St.cells 22 1 A36 q36 (T ++ [(⟨A8, q8, X⟩ : St)]), all (T.map St.ch), rows Sn.cells 62 1 A2 q2 O, natsS (O.map Sn.ar), ros Ev.cells Al l, ros encM x.A x.l] rfl ?_
      refine To.rd rfl rfl rfl (Rd.assign rfl rfl) ?_
      refine To.nil ?_
      refine To.blockN ?_
      refine To.thenN ?_
      refine To.reg ?_
      refine To.rd rfl rfl rfl (Rd.inc rfl rfl rfl (by omega)) ?_
      refine To.rd rfl rfl rfl (Rd.move rfl rfl) ?_
      refine To.nil ?_
      refine To.thenN ?_
      refine To.only [1, 2, 0, 0, 0, 0, 0, 0] rfl ?_
      refine To.allPush ?_
      rw [chs_pushS]
      refine To.sub [(0, .slice Al l.length cl), (5, .slice A36 (T ++ [(⟨A8, q8, X⟩ : St)]).length q36), (13, .slice A2 O.length q2), (14, .int .i64 ((O.length : Nat) : Int)), (15, .int .i64 (((i + 1) : Nat) : Int))] ⟨rfl, rfl, rfl, rfl, rfl, trivial⟩ ?_
      refine To.only [2, 0, 1, 1, 1] rfl ?_
      refine To.again (O.length - (i + 1)) (by omega) ⟨i + 1, (T ++ [(⟨A8, q8, X⟩ : St)]), A36, q36, rfl, rfl, rfl, (by omega), (hT.push hxo (by show X.map Ev.val = _; rw [hX, show m = x.l.length by omega, List.take_length]) hXm)⟩
  ·
    refine To.exit ?_
    refine To.thenX ?_
    refine To.thenX ?_
    refine To.blockX ?_
    refine To.thenN ?_
    refine To.seq ?_
    refine To.reg ?_
    refine To.rd rfl rfl rfl (Rd.move rfl rfl) ?_
    refine To.rd rfl rfl rfl (Rd.assign rfl rfl) ?_
    refine To.nil ?_
    refine To.thenN ?_
    refine To.ret ?_
    refine To.only [0, 0] rfl ?_
    refine To.end1 (.inl rfl) Try.results31 rfl ?_
    refine ⟨A5, q5, T, rfl, rfl, ?_⟩
    have e : i = ((ords l []).take n.toNat).length := by rw [← hO, List.length_map]; omega
    rw [e] at hT
    exact hT
end Go.Proofs.Ytneimfacccgaeaa
