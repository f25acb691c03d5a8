/- The reference: Normal and Same. Own text (walks printed by sx.py). -/
import Derived.Test.YtneimfacccgaeaaV20
namespace Go.Proofs.Ytneimfacccgaeaa
open Go.RowKit Go.Flow Go.Mem Go.Sep
theorem insert_fn (Al : Option Addr) (cl : Nat) (l : List Ev) (e : Ev) (M : List (Option Addr × List Int)) (hM : ∀ x ∈ l, x.ar ∈ M) (hke : 0 ≤ e.k ∧ e.k < 256) (hkl : ∀ x ∈ l, 0 ≤ x.k ∧ x.k < 256) (hle : e.args.length ≤ 1000000000000) (hll : l.length ≤ 1000000) (hcl : l.length ≤ cl) :
    Does Try.prog 37 [.slice Al l.length cl, .agg e.cells.toArray] [ros Ev.cells Al l, argsS M, ros encI e.A e.args] (fun v Γ' => ∃ A q, v = .slice A (insE e l).length q ∧ Γ' = [rows Ev.cells 37 9 A q (insE e l)]) := by
  by_cases h : ∀ x, l[0]? = some x → e.cmp x < 0
  · exact insert_fn0 Al cl l e M hM hke hkl hle hll hcl h
  · refine insert_fn1 Al cl l e M hM hke hkl hle hll hcl ?_
    cases hx : l[0]? with
    | none => exact absurd (fun x hh => by rw [hx] at hh; cases hh) h
    | some x => exact ⟨x, rfl, fun hc => h fun z hz => by rw [hx] at hz; obtain rfl := Option.some.inj hz; exact hc⟩
def sortT (S : List (List Ev)) : List (List (List Int)) := (vals2 S).map sortV
theorem rvals_len {T : List St} {S : List (List Ev)} (h : valsT T = sortT S) : T.length = S.length := by
  have := congrArg List.length h; simpa [valsT, vals2, sortT] using this
theorem rvals_at {T : List St} {S : List (List Ev)} (h : valsT T = sortT S) {k : Nat} {s : St} (hs : T[k]? = some s) : s.l.map Ev.val = sortV (((S[k]?).getD []).map Ev.val) := by
  have h1 : (valsT T)[k]? = (sortT S)[k]? := by rw [h]
  simp only [valsT, sortT, vals2, List.getElem?_map, hs, Option.map_some] at h1
  cases h2 : S[k]? with
  | none => rw [h2] at h1; cases h1
  | some t => rw [h2] at h1; simpa using h1
theorem rvals_put {T : List St} {S : List (List Ev)} (h : valsT T = sortT S) {k : Nat} {s : St} (hs : T[k]? = some s) (hk : ¬ (k : Int) = (T.length : Nat)) {A : Option Addr} {q : Nat} {y : Ev} : valsT (T.set k ⟨A, q, insE y s.l⟩) = sortT (put S k y) := by
  have hl := rvals_len h
  unfold put
  rw [if_neg (by omega)]
  simp only [valsT, sortT, vals2, List.map_set, List.map_append, List.map_cons, List.map_nil, insE_val, rvals_at h hs, sortV_snoc]
  rw [show T.map (fun s => s.l.map Ev.val) = (S.map (fun s => s.map Ev.val)).map sortV from h]
theorem rvals_new {T : List St} {S : List (List Ev)} (h : valsT T = sortT S) {k : Nat} (hk : (k : Int) = (T.length : Nat)) {A : Option Addr} {q : Nat} {y : Ev} : valsT ((T ++ [St.nil]).set k ⟨A, q, insE y St.nil.l⟩) = sortT (put S k y) := by
  have hl := rvals_len h
  have hk' : k = T.length := by omega
  unfold put
  rw [if_pos (by omega)]
  simp only [valsT, sortT, vals2, List.map_set, List.map_append, List.map_cons, List.map_nil]
  rw [show T.map (fun s => s.l.map Ev.val) = (S.map (fun s => s.map Ev.val)).map sortV from h, hk', hl]
  simp [St.nil, insE, sortV, insV]
theorem cnt_ins {T : List St} {k : Nat} {s : St} {i : Nat} (hn : cntT T = i) (hs : T[k]? = some s) {A : Option Addr} {q : Nat} {m : List Ev} (hm : m.length = s.l.length + 1) : cntT (T.set k ⟨A, q, m⟩) = i + 1 := by
  subst hn
  unfold cntT
  induction T generalizing k with
  | nil => simp at hs
  | cons t T ih =>
    cases k with
    | zero => simp at hs; subst hs; simp [hm]; omega
    | succ k => simp at hs; have := ih hs; simp only [List.set_cons_succ, List.map_cons, List.sum_cons]; omega
theorem cnt_push {T : List St} {i : Nat} (hn : cntT T = i) : cntT (T ++ [St.nil]) = i := by subst hn; simp [cntT, St.nil]
theorem own_capsA {Γ : List Chunk} {w : World} {A : Option Addr} {cap : Nat} {l : List Ev} (i : Nat) (h : Γ[i]? = some (rows Ev.cells 37 9 A cap l)) (hs : sat Γ w) : l.length ≤ cap := own_caps i h hs
theorem lv_le (l : List Ev) : ∀ j, lv l j ≤ j := fun j => by
  have := (ninv l)
  rw [lv_eq]
  rcases sup_is (p := fun i => depAt l i j) (f := lv l) j with h | ⟨i, h1, h2, h3⟩
  · omega
  · have := lv_le l i; omega
termination_by j => j
set_option maxHeartbeats 2000000 in
set_option maxRecDepth 100000 in
theorem rnormal_fn (Al : Option Addr) (cl : Nat) (l : List Ev) (hl : l.length ≤ 1000000) (ha : ∀ e ∈ l, e.args.length ≤ 1000000000000) (hk : ∀ e ∈ l, 0 ≤ e.k ∧ e.k < 256) :
    Does Try.prog 15 [.slice Al l.length cl] [ros Ev.cells Al l, argsS (l.map Ev.ar)] (fun v Γ' => ∃ A q U, v = .slice A U.length q ∧ Γ' = [rows St.cells 22 1 A q U, all (U.map St.ch)] ∧ valsT U = normV l ∧ (∀ s ∈ U, ∀ e ∈ s.l, e ∈ l)) := by
  refine Does.enter Try.func15 rfl Try.ntmps15 rfl (fun w0 => ?_)
  refine To.seq ?_
  refine To.reg ?_
  refine To.rd rfl rfl rfl (Rd.assign rfl rfl) ?_
  refine To.nil ?_
  refine To.thenN ?_
  refine To.seq ?_
  refine To.reg ?_
  refine To.rd rfl rfl rfl (Rd.assign rfl rfl) ?_
  refine To.nil ?_
  refine To.thenN ?_
  refine To.seq ?_
  refine To.reg ?_
  refine To.rd rfl rfl rfl (Rd.assign rfl rfl) ?_
  refine To.nil ?_
  refine To.thenN ?_
  refine To.seq ?_
  refine To.seq ?_
  refine To.nilRow St.cells 22 1 (To.allNil (To.nilRow encM 3 1 ?_))
  refine To.reg ?_
  refine To.rd rfl rfl rfl (Rd.move rfl rfl) ?_
  refine To.rd rfl rfl rfl (Rd.len rfl rfl Try.underlying22) ?_
  refine To.rd rfl rfl rfl (Rd.move rfl rfl) ?_
  refine To.nil ?_
  refine To.thenN ?_
  refine To.block ?_
  refine To.sub [(0, .slice Al l.length cl), (3, .slice none ([] : List St).length 0), (4, .slice none ((lvs l 0).length) 0), (9, .slice Al l.length cl), (10, .int .i64 ((l.length : Nat) : Int)), (11, .int .i64 ((0 : Nat) : Int))] ⟨rfl, rfl, rfl, rfl, rfl, rfl, trivial⟩ ?_
  refine To.only [2, 1, 0, 0, 0] rfl ?_
  refine To.as [rows St.cells 22 1 none 0 ([] : List St), all (([] : List St).map St.ch), rows encM 3 1 none 0 (lvs l 0), ros Ev.cells Al l, argsS (l.map Ev.ar)] rfl ?_
  refine To.loop (fun mz ρ Γ => ∃ (j : Nat) (T : List St) (A3 : Option Addr) (q3 : Nat) (A4 : Option Addr) (q4 : Nat), ρ = [(0, .slice Al l.length cl), (3, .slice A3 T.length q3), (4, .slice A4 ((lvs l j).length) q4), (9, .slice Al l.length cl), (10, .int .i64 ((l.length : Nat) : Int)), (11, .int .i64 ((j : Nat) : Int))] ∧ Γ = [rows St.cells 22 1 A3 q3 T, all (T.map St.ch), rows encM 3 1 A4 q4 (lvs l j), ros Ev.cells Al l, argsS (l.map Ev.ar)] ∧ mz = l.length - j ∧ (j ≤ l.length) ∧ (valsT T = sortT (nst l j).steps) ∧ (∀ s ∈ T, ∀ e ∈ s.l, e ∈ l) ∧ (cntT T = j)) (l.length - 0) ⟨0, ([] : List St), none, 0, none, 0, rfl, rfl, rfl, (Nat.zero_le _), rfl, (fun s hs => by simp at hs), rfl⟩ ?_
  rintro mz _ _ ⟨j, T, A3, q3, A4, q4, rfl, rfl, rfl, hj, hT, hM, hn⟩
  have hlen := rvals_len hT
  have hle := nst_le l j
  have hvl0 := lvs_len l j
  have hb : ∀ s ∈ T, s.l.length ≤ 1000000 := fun s hs => by have := cnt_mem hs; omega
  refine To.seq ?_
  refine To.reg ?_
  refine To.rd rfl rfl rfl (Rd.lss rfl rfl rfl) ?_
  refine To.nil ?_
  refine To.thenN ?_
  refine To.seq ?_
  refine To.condP rfl (fun c12 => ?_) (fun c12 => ?_)
  ·
    obtain ⟨y, hy⟩ : ∃ z0, l[j]? = some z0 := ⟨l[j]'(by omega), List.getElem?_eq_getElem _⟩
    refine To.skip ?_
    refine To.thenN ?_
    refine To.seq ?_
    refine To.block ?_
    refine To.seq ?_
    refine To.reg ?_
    refine To.rd rfl rfl rfl (Rd.move rfl rfl) ?_
    refine To.rd rfl rfl rfl (Rd.indexRos encE (i := 3) (j := j) rfl rfl rfl s22 rfl hy) ?_
    refine To.rd rfl rfl rfl (Rd.loadS (i := 3) rfl rfl r37 rfl (ros_gives encE hy) (encE.len _)) ?_
    refine To.alloc rfl rfl rfl rfl z37 (fun b6 => ?_)
    refine To.rd rfl rfl rfl (Rd.assign rfl rfl) ?_
    refine To.up rfl rfl (Up.storeS (i := 0) rfl rfl rfl r37 rfl rfl rfl (box_takesAll rfl)) ?_
    refine To.nil ?_
    refine To.thenN ?_
    refine To.seq ?_
    refine To.reg ?_
    refine To.rd rfl rfl rfl (Rd.assign rfl rfl) ?_
    refine To.nil ?_
    refine To.thenN ?_
    refine To.seq ?_
    refine To.seq ?_
    refine To.reg ?_
    refine To.rd rfl rfl rfl (Rd.assign rfl rfl) ?_
    refine To.nil ?_
    refine To.thenN ?_
    refine To.block ?_
    refine To.sub [(0, .slice Al l.length cl), (3, .slice A3 T.length q3), (4, .slice A4 ((lvs l j).length) q4), (9, .slice Al l.length cl), (10, .int .i64 ((l.length : Nat) : Int)), (11, .int .i64 ((j : Nat) : Int)), (5, .int .i64 ((j : Nat) : Int)), (6, .pointer (some ⟨b6, 0, none⟩)), (7, .int .i64 ((0 : Nat) : Int)), (8, .int .i64 ((0 : Nat) : Int))] ⟨rfl, rfl, rfl, rfl, rfl, rfl, rfl, rfl, rfl, rfl, trivial⟩ ?_
    refine To.only [0, 0, 0, 0, 0, 0] rfl ?_
    refine To.loop (fun mz ρ Γ => ∃ (i : Nat) (n : Nat), ρ = [(0, .slice Al l.length cl), (3, .slice A3 T.length q3), (4, .slice A4 ((lvs l j).length) q4), (9, .slice Al l.length cl), (10, .int .i64 ((l.length : Nat) : Int)), (11, .int .i64 ((j : Nat) : Int)), (5, .int .i64 ((j : Nat) : Int)), (6, .pointer (some ⟨b6, 0, none⟩)), (7, .int .i64 ((n : Nat) : Int)), (8, .int .i64 ((i : Nat) : Int))] ∧ Γ = [box b6 y.cells 37, rows St.cells 22 1 A3 q3 T, all (T.map St.ch), rows encM 3 1 A4 q4 (lvs l j), ros Ev.cells Al l, argsS (l.map Ev.ar)] ∧ mz = j - i ∧ (i ≤ j) ∧ (n = sup (fun i => depAt l i j) (fun i => ((lvs l j)[i]?).getD 0) i)) (j - 0) ⟨0, 0, rfl, rfl, rfl, (Nat.zero_le _), rfl⟩ ?_
    rintro mz _ _ ⟨i, n, rfl, rfl, rfl, hi, hn2⟩
    refine To.seq ?_
    refine To.seq ?_
    refine To.reg ?_
    refine To.rd rfl rfl rfl (Rd.move rfl rfl) ?_
    refine To.rd rfl rfl rfl (Rd.move rfl rfl) ?_
    refine To.rd rfl rfl rfl (Rd.lss rfl rfl rfl) ?_
    refine To.nil ?_
    refine To.thenN ?_
    refine To.condP rfl (fun c18 => ?_) (fun c18 => ?_)
    ·
      obtain ⟨x, hx⟩ : ∃ z0, l[i]? = some z0 := ⟨l[i]'(by omega), List.getElem?_eq_getElem _⟩
      refine To.skip ?_
      refine To.thenN ?_
      refine To.seq ?_
      refine To.block ?_
      refine To.seq ?_
      refine To.flow [box b6 y.cells 37, rows St.cells 22 1 A3 q3 T, all (T.map St.ch), rows encM 3 1 A4 q4 (lvs l j), ros Ev.cells Al l, argsS (l.map Ev.ar)] [⟨0, [], 0⟩, ⟨1, [], 0⟩, ⟨2, [], 1⟩, ⟨3, [], 1⟩, ⟨4, [], 1⟩, ⟨5, [], 3⟩] mixed (by kernel_rfl) (oks_cons (oks_at 0 rfl) (oks_cons (oks_at 1 rfl) (oks_cons (oks_at 2 rfl) (oks_cons (oks_at 3 rfl) (oks_cons (oks_at 4 rfl) (oks_cons (oks_at 5 rfl) (oks_nil _))))))) ?_
      refine FlowS.free rfl rfl rfl rfl (Rd.move rfl rfl) ?_
      refine FlowS.free rfl rfl rfl rfl (Rd.move rfl rfl) ?_
      refine FlowS.rd rfl rfl rfl rfl (Rd.indexRos encE (i := 4) (j := i) rfl rfl rfl s22 rfl hx) ?_
      refine FlowS.rd rfl rfl rfl rfl (Rd.loadS (i := 4) rfl rfl r37 rfl (ros_gives encE hx) (encE.len _)) ?_
      refine FlowS.rd rfl rfl rfl rfl (Rd.loadS (i := 0) rfl rfl r37 rfl box_whole rfl) ?_
      refine FlowS.callQ rfl rfl rfl rfl (Ent.fn rfl rfl ca23) (dependent_fn x y) rfl (oks_nil _) ?_
      refine FlowS.fin ?_
      refine To.as [box b6 y.cells 37, rows St.cells 22 1 A3 q3 T, all (T.map St.ch), rows encM 3 1 A4 q4 (lvs l j), ros Ev.cells Al l, argsS (l.map Ev.ar)] rfl ?_
      refine To.thenN ?_
      refine To.cond rfl (fun c26 => ?_) (fun c26 => ?_)
      ·
        have hd : depAt l i j = true := by rw [depAt_of hx hy]; exact c26
        have hvl := lvs_len l j
        obtain ⟨v, hv⟩ : ∃ v, (lvs l j)[i]? = some v := ⟨(lvs l j)[i]'(by omega), List.getElem?_eq_getElem _⟩
        have hvb : v < 1000000000 := by
          have h1 := lvs_get l (i := i) (j := j) (by omega)
          rw [hv] at h1
          obtain rfl := Option.some.inj h1
          have := lv_le l i; omega
        refine To.reg ?_
        refine To.rd rfl rfl rfl (Rd.move rfl rfl) ?_
        refine To.rd rfl rfl rfl (Rd.move rfl rfl) ?_
        refine To.rd rfl rfl rfl (Rd.move rfl rfl) ?_
        refine To.rd rfl rfl rfl (Rd.indexRows (i := 3) (j := i) rfl rfl rfl s62 rfl hv) ?_
        refine To.rd rfl rfl rfl (Rd.load (i := 3) rfl rfl c3 rfl (gives_1 (rows_gives encM_ok hv) rfl)) ?_
        refine To.rd rfl rfl rfl (Rd.inc rfl rfl rfl (by omega)) ?_
        refine To.rd rfl rfl rfl (Rd.as (v' := .int .i64 ((max n (v + 1) : Nat) : Int)) (congrArg (Value.int .i64) (by omega)) (Rd.max rfl rfl rfl)) ?_
        refine To.rd rfl rfl rfl (Rd.assign rfl rfl) ?_
        refine To.nil ?_
        refine To.sub [(0, .slice Al l.length cl), (3, .slice A3 T.length q3), (4, .slice A4 ((lvs l j).length) q4), (9, .slice Al l.length cl), (10, .int .i64 ((l.length : Nat) : Int)), (11, .int .i64 ((j : Nat) : Int)), (5, .int .i64 ((j : Nat) : Int)), (6, .pointer (some ⟨b6, 0, none⟩)), (7, .int .i64 ((max n (v + 1) : Nat) : Int)), (8, .int .i64 ((i : Nat) : Int)), (18, .bool (decide (((i : Nat) : Int) < ((j : Nat) : Int)))), (26, .bool (x.dep y))] ⟨rfl, rfl, rfl, rfl, rfl, rfl, rfl, rfl, rfl, rfl, rfl, rfl, trivial⟩ ?_
        refine To.blockN ?_
        refine To.thenN ?_
        refine To.reg ?_
        refine To.rd rfl rfl rfl (Rd.move rfl rfl) ?_
        refine To.rd rfl rfl rfl (Rd.inc rfl rfl rfl (by omega)) ?_
        refine To.rd rfl rfl rfl (Rd.assign rfl rfl) ?_
        refine To.nil ?_
        refine To.thenN ?_
        refine To.sub [(0, .slice Al l.length cl), (3, .slice A3 T.length q3), (4, .slice A4 ((lvs l j).length) q4), (9, .slice Al l.length cl), (10, .int .i64 ((l.length : Nat) : Int)), (11, .int .i64 ((j : Nat) : Int)), (5, .int .i64 ((j : Nat) : Int)), (6, .pointer (some ⟨b6, 0, none⟩)), (7, .int .i64 (((max n (v + 1)) : Nat) : Int)), (8, .int .i64 (((i + 1) : Nat) : Int))] ⟨rfl, rfl, rfl, rfl, rfl, rfl, rfl, rfl, rfl, rfl, trivial⟩ ?_
        refine To.only [0, 0, 0, 0, 0, 0] rfl ?_
        refine To.again (j - (i + 1)) (by omega) ⟨i + 1, max n (v + 1), rfl, rfl, rfl, (by omega), (by rw [sup, if_pos hd, hv, ← hn2]; rfl)⟩
      ·
        have hd : depAt l i j = false := by rw [depAt_of hx hy]; exact c26
        refine To.skip ?_
        refine To.blockN ?_
        refine To.thenN ?_
        refine To.reg ?_
        refine To.rd rfl rfl rfl (Rd.move rfl rfl) ?_
        refine To.rd rfl rfl rfl (Rd.inc rfl rfl rfl (by omega)) ?_
        refine To.rd rfl rfl rfl (Rd.assign rfl rfl) ?_
        refine To.nil ?_
        refine To.thenN ?_
        refine To.sub [(0, .slice Al l.length cl), (3, .slice A3 T.length q3), (4, .slice A4 ((lvs l j).length) q4), (9, .slice Al l.length cl), (10, .int .i64 ((l.length : Nat) : Int)), (11, .int .i64 ((j : Nat) : Int)), (5, .int .i64 ((j : Nat) : Int)), (6, .pointer (some ⟨b6, 0, none⟩)), (7, .int .i64 ((n : Nat) : Int)), (8, .int .i64 (((i + 1) : Nat) : Int))] ⟨rfl, rfl, rfl, rfl, rfl, rfl, rfl, rfl, rfl, rfl, trivial⟩ ?_
        refine To.only [0, 0, 0, 0, 0, 0] rfl ?_
        refine To.again (j - (i + 1)) (by omega) ⟨i + 1, n, rfl, rfl, rfl, (by omega), (by rw [sup, if_neg (by rw [hd]; simp), ← hn2])⟩
    ·
      refine To.exit ?_
      refine To.thenX ?_
      refine To.thenX ?_
      refine To.blockX ?_
      refine To.thenN ?_
      refine To.seq ?_
      obtain rfl : j = i := by omega
      have hnl : n = lv l j := hn2
      have hat : (nst l j).at_ y = n := by rw [hnl]; exact at_lv hy
      have hnT : n ≤ T.length := by
        have := (nst_ok l j).at_ y
        omega
      refine To.reg ?_
      refine To.rd rfl rfl rfl (Rd.move rfl rfl) ?_
      refine To.rd rfl rfl rfl (Rd.move rfl rfl) ?_
      refine To.mk rfl rfl rfl (Mk.sliceN (us := [.int .i64 ((n : Nat) : Int)]) rfl s62 rfl rfl rfl rfl rfl rfl) ?_
      rintro _ _ ⟨b36, rfl, rfl⟩
      refine To.as [row 3 1 (some ⟨b36, 0, none⟩) 1 1 [.int .i64 ((n : Nat) : Int)], box b6 y.cells 37, rows St.cells 22 1 A3 q3 T, all (T.map St.ch), rows encM 3 1 A4 q4 (lvs l j), ros Ev.cells Al l, argsS (l.map Ev.ar)] rfl ?_
      refine To.ge rfl rfl rfl (Ge.append1 encM_ok (i := 4) (j := 0) (el := n) rfl s62 rfl rfl rfl rfl rfl (by first | omega | (simp only [List.length_append, List.length_cons, List.length_nil]; omega)) (by first | omega | (simp only [List.length_append, List.length_cons, List.length_nil]; omega))) ?_
      rintro _ _ ⟨A37, q37, rfl, rfl⟩
      refine To.as [row 3 1 (some ⟨b36, 0, none⟩) 1 1 [.int .i64 ((n : Nat) : Int)], box b6 y.cells 37, rows St.cells 22 1 A3 q3 T, all (T.map St.ch), rows encM 3 1 A37 q37 ((lvs l j) ++ [n]), ros Ev.cells Al l, argsS (l.map Ev.ar)] rfl ?_
      refine To.rd rfl rfl rfl (Rd.assign rfl rfl) ?_
      refine To.nil ?_
      refine To.thenN ?_
      refine To.seq ?_
      refine To.seq ?_
      refine To.reg ?_
      refine To.rd rfl rfl rfl (Rd.move rfl rfl) ?_
      refine To.rd rfl rfl rfl (Rd.move rfl rfl) ?_
      refine To.rd rfl rfl rfl (Rd.len rfl rfl Try.underlying26) ?_
      refine To.rd rfl rfl rfl (Rd.eql rfl rfl rfl) ?_
      refine To.nil ?_
      refine To.thenN ?_
      refine To.condP rfl (fun c41 => ?_) (fun c41 => ?_)
      ·
        refine To.reg ?_
        refine To.rd rfl rfl rfl (Rd.move rfl rfl) ?_
        refine To.mk rfl rfl rfl (Mk.sliceN (us := [.slice none 0 0]) rfl s26 rfl rfl rfl rfl rfl rfl) ?_
        rintro _ _ ⟨b43, rfl, rfl⟩
        refine To.as [row 22 1 (some ⟨b43, 0, none⟩) 1 1 [.slice none 0 0], row 3 1 (some ⟨b36, 0, none⟩) 1 1 [.int .i64 ((n : Nat) : Int)], box b6 y.cells 37, rows St.cells 22 1 A3 q3 T, all (T.map St.ch), rows encM 3 1 A37 q37 ((lvs l j) ++ [n]), ros Ev.cells Al l, argsS (l.map Ev.ar)] rfl ?_
        refine To.ge rfl rfl rfl (Ge.append1 encS (i := 3) (j := 0) (el := St.nil) rfl s26 rfl rfl rfl rfl rfl (by first | omega | (simp only [List.length_append, List.length_cons, List.length_nil]; omega)) (by first | omega | (simp only [List.length_append, List.length_cons, List.length_nil]; omega))) ?_
        rintro _ _ ⟨A44, q44, rfl, rfl⟩
        refine To.as [row 22 1 (some ⟨b43, 0, none⟩) 1 1 [.slice none 0 0], row 3 1 (some ⟨b36, 0, none⟩) 1 1 [.int .i64 ((n : Nat) : Int)], box b6 y.cells 37, rows St.cells 22 1 A44 q44 (T ++ [St.nil]), all (T.map St.ch), rows encM 3 1 A37 q37 ((lvs l j) ++ [n]), ros Ev.cells Al l, argsS (l.map Ev.ar)] rfl ?_
        refine To.rd rfl rfl rfl (Rd.assign rfl rfl) ?_
        refine To.nil ?_
        refine To.thenN ?_
        refine To.only [4, 0, 0, 0, 0, 0, 0, 0] rfl ?_
        refine To.nilRow Ev.cells 37 9 (To.allPush ?_)
        rw [chs_push]
        have hs := at_last T St.nil (k := n) (by omega)
        have hk2 : n < (T ++ [St.nil]).length := by simp; omega
        have hsl : St.nil.l.length ≤ 1000000 := by decide
        have hM3 : ∀ x ∈ St.nil.l, x ∈ l := fun x hx => by cases hx
        refine To.allOut n (ch_at hs) ?_
        refine To.know (p := St.nil.l.length ≤ St.nil.cap) (fun w hw => own_capsA 0 rfl hw) (fun hcap => ?_)
        refine To.flow [] [⟨0, [], 0⟩, ⟨1, [], 0⟩, ⟨2, [], 0⟩, ⟨3, [], 0⟩, ⟨4, [], 1⟩, ⟨5, [], 1⟩, ⟨6, [], 1⟩, ⟨7, [], 4⟩, ⟨8, [7], 1⟩, ⟨9, [7], 5⟩] mixed (by kernel_rfl) (oks_nil _) ?_
        refine FlowS.free rfl rfl rfl rfl (Rd.move rfl rfl) ?_
        refine FlowS.free rfl rfl rfl rfl (Rd.move rfl rfl) ?_
        refine FlowS.free rfl rfl rfl rfl (Rd.move rfl rfl) ?_
        refine FlowS.free rfl rfl rfl rfl (Rd.move rfl rfl) ?_
        refine FlowS.rd rfl rfl rfl rfl (Rd.indexRows (i := 5) (j := n) rfl rfl rfl s26 rfl hs) ?_
        refine FlowS.rd rfl rfl rfl rfl (Rd.load (i := 5) rfl rfl c22 rfl (gives_1 (rows_gives encS hs) rfl)) ?_
        refine FlowS.rd rfl rfl rfl rfl (Rd.loadS (i := 4) rfl rfl r37 rfl box_whole rfl) ?_
        refine FlowS.callM rfl rfl rfl rfl rfl (Ent.fn rfl rfl ca37) (insert_fn St.nil.A St.nil.cap St.nil.l y (l.map Ev.ar) (fun x hx => List.mem_map.2 ⟨x, hM3 x hx, rfl⟩) (hk y (List.mem_of_getElem? hy)) (fun x hx => hk x (hM3 x hx)) (ha y (List.mem_of_getElem? hy)) hsl hcap) rfl (oks_cons (oks_row 0 rfl) (oks_cons (oks_at 8 rfl) (oks_cons (oks_S 8 rfl (mem_at hy Ev.ar)) (oks_nil _)))) ?_
        rintro _ _ ⟨A52, q52, rfl, rfl⟩
        refine ⟨rfl, ?_⟩
        refine FlowS.rd rfl rfl rfl rfl (Rd.indexRows (i := 6) (j := n) rfl rfl rfl s26 rfl hs) ?_
        refine FlowS.up (Γ' := [rows Ev.cells 37 9 A52 q52 (insE y St.nil.l), rows Ev.cells 37 9 St.nil.A St.nil.cap St.nil.l, all (((T ++ [St.nil]).map St.ch).eraseIdx n), row 22 1 (some ⟨b43, 0, none⟩) 1 1 [.slice none 0 0], row 3 1 (some ⟨b36, 0, none⟩) 1 1 [.int .i64 ((n : Nat) : Int)], box b6 y.cells 37, rows St.cells 22 1 A44 q44 ((T ++ [St.nil]).set n (⟨A52, q52, (insE y St.nil.l)⟩ : St)), rows encM 3 1 A37 q37 ((lvs l j) ++ [n]), ros Ev.cells Al l, argsS (l.map Ev.ar)]) rfl rfl rfl (Up.store (i := 6) rfl rfl rfl c22 rfl rfl (rows_takes encS (y := (⟨A52, q52, (insE y St.nil.l)⟩ : St)) (by decide) (by omega))) (oks_nil _) ?_
        refine FlowS.fin ?_
        refine To.as [rows Ev.cells 37 9 A52 q52 (insE y St.nil.l), rows Ev.cells 37 9 St.nil.A St.nil.cap St.nil.l, all (((T ++ [St.nil]).map St.ch).eraseIdx n), row 22 1 (some ⟨b43, 0, none⟩) 1 1 [.slice none 0 0], row 3 1 (some ⟨b36, 0, none⟩) 1 1 [.int .i64 ((n : Nat) : Int)], box b6 y.cells 37, rows St.cells 22 1 A44 q44 ((T ++ [St.nil]).set n (⟨A52, q52, (insE y St.nil.l)⟩ : St)), rows encM 3 1 A37 q37 ((lvs l j) ++ [n]), ros Ev.cells Al l, argsS (l.map Ev.ar)] rfl ?_
        refine To.sub [(0, .slice Al l.length cl), (3, .slice A44 ((T ++ [St.nil]).length) q44), (4, .slice A37 (((lvs l j) ++ [n]).length) q37), (9, .slice Al l.length cl), (10, .int .i64 ((l.length : Nat) : Int)), (11, .int .i64 ((j : Nat) : Int)), (5, .int .i64 ((j : Nat) : Int)), (6, .pointer (some ⟨b6, 0, none⟩)), (7, .int .i64 ((n : Nat) : Int)), (41, .bool (decide (((n : Nat) : Int) = ((T.length : Nat) : Int))))] ⟨rfl, rfl, rfl, rfl, rfl, rfl, rfl, rfl, rfl, rfl, trivial⟩ ?_
        refine To.blockN ?_
        refine To.thenN ?_
        refine To.reg ?_
        refine To.rd rfl rfl rfl (Rd.inc rfl rfl rfl (by omega)) ?_
        refine To.rd rfl rfl rfl (Rd.move rfl rfl) ?_
        refine To.nil ?_
        refine To.thenN ?_
        refine To.only [0, 1, 0, 0, 0, 0, 0, 0, 0, 0] rfl ?_
        refine To.allIn n (ch_at hs) ?_
        rw [chs_set]
        refine To.sub [(0, .slice Al l.length cl), (3, .slice A44 ((T ++ [St.nil]).set n ⟨A52, q52, insE y St.nil.l⟩).length q44), (4, .slice A37 ((lvs l (j + 1)).length) q37), (9, .slice Al l.length cl), (10, .int .i64 ((l.length : Nat) : Int)), (11, .int .i64 (((j + 1) : Nat) : Int))] ⟨rfl, by rw [List.length_set]; rfl, by rw [lvs_succ, ← hnl]; rfl, rfl, rfl, rfl, trivial⟩ ?_
        refine To.only [5, 0, 4, 4, 4] rfl ?_
        refine To.as [rows St.cells 22 1 A44 q44 ((T ++ [St.nil]).set n ⟨A52, q52, insE y St.nil.l⟩), all (((T ++ [St.nil]).set n ⟨A52, q52, insE y St.nil.l⟩).map St.ch), rows encM 3 1 A37 q37 (lvs l (j + 1)), ros Ev.cells Al l, argsS (l.map Ev.ar)] (by rw [lvs_succ, ← hnl]) ?_
        refine To.again (l.length - (j + 1)) (by omega) ⟨j + 1, (T ++ [St.nil]).set n ⟨A52, q52, insE y St.nil.l⟩, A44, q44, A37, q37, rfl, rfl, rfl, (by omega), (by rw [nst_steps hy hat]; exact rvals_new hT c41), (all_set hs (all_push hM) (fun e h => h) (fun e he => (insE_mem y _ e he).elim (fun h => .inr (by rw [h]; exact List.mem_of_getElem? hy)) .inl)), (cnt_ins (cnt_push hn) hs (insE_len y _))⟩
      ·
        refine To.skip ?_
        refine To.thenN ?_
        refine To.only [3, 0, 0, 0, 0, 0, 0] rfl ?_
        obtain ⟨s, hs⟩ : ∃ z0, T[n]? = some z0 := ⟨T[n]'(by omega), List.getElem?_eq_getElem _⟩
        have hsl : s.l.length ≤ 1000000 := hb s (List.mem_of_getElem? hs)
        have hM3 := hM s (List.mem_of_getElem? hs)
        refine To.allOut n (ch_at hs) ?_
        refine To.know (p := s.l.length ≤ s.cap) (fun w hw => own_capsA 0 rfl hw) (fun hcap => ?_)
        refine To.flow [] [⟨0, [], 0⟩, ⟨1, [], 0⟩, ⟨2, [], 0⟩, ⟨3, [], 0⟩, ⟨4, [], 1⟩, ⟨5, [], 1⟩, ⟨6, [], 1⟩, ⟨7, [], 4⟩, ⟨8, [7], 1⟩, ⟨9, [7], 5⟩] mixed (by kernel_rfl) (oks_nil _) ?_
        refine FlowS.free rfl rfl rfl rfl (Rd.move rfl rfl) ?_
        refine FlowS.free rfl rfl rfl rfl (Rd.move rfl rfl) ?_
        refine FlowS.free rfl rfl rfl rfl (Rd.move rfl rfl) ?_
        refine FlowS.free rfl rfl rfl rfl (Rd.move rfl rfl) ?_
        refine FlowS.rd rfl rfl rfl rfl (Rd.indexRows (i := 4) (j := n) rfl rfl rfl s26 rfl hs) ?_
        refine FlowS.rd rfl rfl rfl rfl (Rd.load (i := 4) rfl rfl c22 rfl (gives_1 (rows_gives encS hs) rfl)) ?_
        refine FlowS.rd rfl rfl rfl rfl (Rd.loadS (i := 3) rfl rfl r37 rfl box_whole rfl) ?_
        refine FlowS.callM rfl rfl rfl rfl rfl (Ent.fn rfl rfl ca37) (insert_fn s.A s.cap s.l y (l.map Ev.ar) (fun x hx => List.mem_map.2 ⟨x, hM3 x hx, rfl⟩) (hk y (List.mem_of_getElem? hy)) (fun x hx => hk x (hM3 x hx)) (ha y (List.mem_of_getElem? hy)) hsl hcap) rfl (oks_cons (oks_row 0 rfl) (oks_cons (oks_at 7 rfl) (oks_cons (oks_S 7 rfl (mem_at hy Ev.ar)) (oks_nil _)))) ?_
        rintro _ _ ⟨A52, q52, rfl, rfl⟩
        refine ⟨rfl, ?_⟩
        refine FlowS.rd rfl rfl rfl rfl (Rd.indexRows (i := 5) (j := n) rfl rfl rfl s26 rfl hs) ?_
        refine FlowS.up (Γ' := [rows Ev.cells 37 9 A52 q52 (insE y s.l), rows Ev.cells 37 9 s.A s.cap s.l, all ((T.map St.ch).eraseIdx n), row 3 1 (some ⟨b36, 0, none⟩) 1 1 [.int .i64 ((n : Nat) : Int)], box b6 y.cells 37, rows St.cells 22 1 A3 q3 (T.set n (⟨A52, q52, (insE y s.l)⟩ : St)), rows encM 3 1 A37 q37 ((lvs l j) ++ [n]), ros Ev.cells Al l, argsS (l.map Ev.ar)]) rfl rfl rfl (Up.store (i := 5) rfl rfl rfl c22 rfl rfl (rows_takes encS (y := (⟨A52, q52, (insE y s.l)⟩ : St)) (by decide) (by omega))) (oks_nil _) ?_
        refine FlowS.fin ?_
        refine To.as [rows Ev.cells 37 9 A52 q52 (insE y s.l), rows Ev.cells 37 9 s.A s.cap s.l, all ((T.map St.ch).eraseIdx n), row 3 1 (some ⟨b36, 0, none⟩) 1 1 [.int .i64 ((n : Nat) : Int)], box b6 y.cells 37, rows St.cells 22 1 A3 q3 (T.set n (⟨A52, q52, (insE y s.l)⟩ : St)), rows encM 3 1 A37 q37 ((lvs l j) ++ [n]), ros Ev.cells Al l, argsS (l.map Ev.ar)] rfl ?_
        refine To.sub [(0, .slice Al l.length cl), (3, .slice A3 T.length q3), (4, .slice A37 (((lvs l j) ++ [n]).length) q37), (9, .slice Al l.length cl), (10, .int .i64 ((l.length : Nat) : Int)), (11, .int .i64 ((j : Nat) : Int)), (5, .int .i64 ((j : Nat) : Int)), (6, .pointer (some ⟨b6, 0, none⟩)), (7, .int .i64 ((n : Nat) : Int)), (41, .bool (decide (((n : Nat) : Int) = ((T.length : Nat) : Int))))] ⟨rfl, rfl, rfl, rfl, rfl, rfl, rfl, rfl, rfl, rfl, trivial⟩ ?_
        refine To.blockN ?_
        refine To.thenN ?_
        refine To.reg ?_
        refine To.rd rfl rfl rfl (Rd.inc rfl rfl rfl (by omega)) ?_
        refine To.rd rfl rfl rfl (Rd.move rfl rfl) ?_
        refine To.nil ?_
        refine To.thenN ?_
        refine To.only [0, 1, 0, 0, 0, 0, 0, 0, 0] rfl ?_
        refine To.allIn n (ch_at hs) ?_
        rw [chs_set]
        refine To.sub [(0, .slice Al l.length cl), (3, .slice A3 (T.set n ⟨A52, q52, insE y s.l⟩).length q3), (4, .slice A37 ((lvs l (j + 1)).length) q37), (9, .slice Al l.length cl), (10, .int .i64 ((l.length : Nat) : Int)), (11, .int .i64 (((j + 1) : Nat) : Int))] ⟨rfl, by rw [List.length_set]; rfl, by rw [lvs_succ, ← hnl]; rfl, rfl, rfl, rfl, trivial⟩ ?_
        refine To.only [4, 0, 3, 3, 3] rfl ?_
        refine To.as [rows St.cells 22 1 A3 q3 (T.set n ⟨A52, q52, insE y s.l⟩), all ((T.set n ⟨A52, q52, insE y s.l⟩).map St.ch), rows encM 3 1 A37 q37 (lvs l (j + 1)), ros Ev.cells Al l, argsS (l.map Ev.ar)] (by rw [lvs_succ, ← hnl]) ?_
        refine To.again (l.length - (j + 1)) (by omega) ⟨j + 1, T.set n ⟨A52, q52, insE y s.l⟩, A3, q3, A37, q37, rfl, rfl, rfl, (by omega), (by rw [nst_steps hy hat]; exact rvals_put hT hs c41), (all_set hs hM (fun e h => h) (fun e he => (insE_mem y _ e he).elim (fun h => .inr (by rw [h]; exact List.mem_of_getElem? hy)) .inl)), (cnt_ins hn hs (insE_len y _))⟩
  ·
    refine To.exit ?_
    refine To.thenX ?_
    refine To.thenX ?_
    refine To.blockX ?_
    refine To.thenN ?_
    refine To.seq ?_
    refine To.reg ?_
    refine To.rd rfl rfl rfl (Rd.move rfl rfl) ?_
    refine To.rd rfl rfl rfl (Rd.assign rfl rfl) ?_
    refine To.nil ?_
    refine To.thenN ?_
    refine To.ret ?_
    refine To.only [0, 0] rfl ?_
    refine To.end1 (.inl rfl) Try.results15 rfl ?_
    obtain rfl : j = l.length := by omega
    refine ⟨A3, q3, T, rfl, rfl, ?_, hM⟩
    rw [hT]; simp [normV, sortT, nst]
end Go.Proofs.Ytneimfacccgaeaa
