/- The walk of Normal. Own text (walks printed by sx.py). -/
import Derived.Test.YtneimfacccgaeaaV10
namespace Go.Proofs.Ytneimfacccgaeaa
open Go.RowKit Go.Flow Go.Mem Go.Sep
/-- A step: a row of events. -/
structure St where
  A : Option Addr
  cap : Nat
  l : List Ev
def St.cells (s : St) : List Value := [.slice s.A s.l.length s.cap]
theorem encS : Enc St.cells 1 := ⟨fun _ => rfl, fun s u hu => by simp [St.cells] at hu; subst hu; rfl⟩
def St.ch (s : St) : Chunk := rows Ev.cells 37 9 s.A s.cap s.l
def St.nil : St := ⟨none, 0, []⟩
def valsT (T : List St) : List (List (List Int)) := T.map fun s => s.l.map Ev.val
def vals2 (T : List (List Ev)) : List (List (List Int)) := T.map fun s => s.map Ev.val
theorem ch_at {T : List St} {k : Nat} {s : St} (h : T[k]? = some s) : (T.map St.ch)[k]? = some (rows Ev.cells 37 9 s.A s.cap s.l) := by simp [h, St.ch]
theorem chs_set (T : List St) (k : Nat) (A : Option Addr) (q : Nat) (x : List Ev) : (T.map St.ch).set k (rows Ev.cells 37 9 A q x) = (T.set k ⟨A, q, x⟩).map St.ch := by rw [List.map_set]; rfl
theorem chs_push (T : List St) : T.map St.ch ++ [rows Ev.cells 37 9 none 0 []] = (T ++ [St.nil]).map St.ch := by rw [List.map_append]; rfl
theorem at_last {α : Type} (T : List α) (x : α) {k : Nat} (h : k = T.length) : (T ++ [x])[k]? = some x := by subst h; simp
def nst (l : List Ev) (i : Nat) : NS := NS.nil.all (l.take i)
section
variable {l : List Ev} {i : Nat} {y : Ev} {k : Nat}
theorem nst_ok (l : List Ev) (i : Nat) : (nst l i).Ok := NS.Ok.nil.all _
theorem nst_le (l : List Ev) (i : Nat) : (nst l i).steps.length ≤ i := Nat.le_trans (NS.steps_le _ NS.Ok.nil _) (by simp [NS.nil]; omega)
theorem nst_step (hy : l[i]? = some y) : nst l (i + 1) = (nst l i).step y := NS.all_snoc _ hy
theorem nst_at (l : List Ev) (i : Nat) (y : Ev) : ∃ k : Nat, (nst l i).at_ y = k ∧ k ≤ (nst l i).steps.length := by
  have := (nst_ok l i).at_ y
  exact ⟨((nst l i).at_ y).toNat, by omega, by omega⟩
theorem nst_next (hy : l[i]? = some y) (h : (nst l i).at_ y = k) : (nst l (i + 1)).next = aset (nst l i).next y.c ((k + 1 : Nat) : Int) := by
  rw [nst_step hy]; simp [NS.step, h]
theorem nst_after1 (hy : l[i]? = some y) (h : (nst l i).at_ y = k) (hr : y.rl = 1) : (nst l (i + 1)).after = aset (nst l i).after y.key (max ((aget (nst l i).after y.key).getD 0) ((k + 1 : Nat) : Int)) := by
  rw [nst_step hy]; simp [NS.step, h, hr]
theorem nst_after0 (hy : l[i]? = some y) (hr : ¬ y.rl = 1) : (nst l (i + 1)).after = (nst l i).after := by
  rw [nst_step hy]; simp [NS.step, hr]
theorem nst_till1 (hy : l[i]? = some y) (h : (nst l i).at_ y = k) (hr : y.rl = 2) : (nst l (i + 1)).till = aset (nst l i).till y.key (max ((aget (nst l i).till y.key).getD 0) ((k + 1 : Nat) : Int)) := by
  rw [nst_step hy]; simp [NS.step, h, hr]
theorem nst_till0 (hy : l[i]? = some y) (hr : ¬ y.rl = 2) : (nst l (i + 1)).till = (nst l i).till := by
  rw [nst_step hy]; simp [NS.step, hr]
theorem nst_steps (hy : l[i]? = some y) (h : (nst l i).at_ y = k) : (nst l (i + 1)).steps = put (nst l i).steps k y := by
  rw [nst_step hy]; simp [NS.step, h]
theorem vals_len {T : List St} {S : List (List Ev)} (h : valsT T = vals2 S) : T.length = S.length := by
  have := congrArg List.length h; simpa [valsT, vals2] using this
theorem vals_at {T : List St} {S : List (List Ev)} (h : valsT T = vals2 S) {k : Nat} {s : St} (hs : T[k]? = some s) : s.l.map Ev.val = ((S[k]?).getD []).map Ev.val := by
  have h1 : (valsT T)[k]? = (vals2 S)[k]? := by rw [h]
  simp only [valsT, vals2, List.getElem?_map, hs, Option.map_some] at h1
  cases h2 : S[k]? with
  | none => rw [h2] at h1; cases h1
  | some t => rw [h2] at h1; simpa using h1
theorem vals_put {T : List St} {S : List (List Ev)} (h : valsT T = vals2 S) {k : Nat} {s : St} (hs : T[k]? = some s) (hk : ¬ (k : Int) = (T.length : Nat)) {A : Option Addr} {q : Nat} {e y : Ev} (he : e.val = y.val) : valsT (T.set k ⟨A, q, s.l ++ [e]⟩) = vals2 (put S k y) := by
  have hl := vals_len h
  unfold put
  rw [if_neg (by omega)]
  simp only [valsT, vals2, List.map_set, List.map_append, List.map_cons, List.map_nil, he, vals_at h hs]
  rw [show T.map (fun s => s.l.map Ev.val) = S.map (fun s => s.map Ev.val) from h]
theorem vals_new {T : List St} {S : List (List Ev)} (h : valsT T = vals2 S) {k : Nat} (hk : (k : Int) = (T.length : Nat)) {A : Option Addr} {q : Nat} {e y : Ev} (he : e.val = y.val) : valsT ((T ++ [St.nil]).set k ⟨A, q, St.nil.l ++ [e]⟩) = vals2 (put S k y) := by
  have hl := vals_len h
  have hk' : k = T.length := by omega
  unfold put
  rw [if_pos (by omega)]
  simp only [valsT, vals2, List.map_set, List.map_append, List.map_cons, List.map_nil]
  rw [show T.map (fun s => s.l.map Ev.val) = S.map (fun s => s.map Ev.val) from h, hk', hl]
  simp [St.nil, he]
theorem all_set {T : List St} {k : Nat} {s : St} (hs : T[k]? = some s) {p p' : Ev → Prop} (hT : ∀ s ∈ T, ∀ e ∈ s.l, p e) (hp : ∀ e, p e → p' e) {A : Option Addr} {q : Nat} {m : List Ev} (hm : ∀ e ∈ m, e ∈ s.l ∨ p' e) : ∀ s ∈ T.set k ⟨A, q, m⟩, ∀ e ∈ s.l, p' e := by
  intro t ht e he
  rcases List.mem_or_eq_of_mem_set ht with h | rfl
  · exact hp e (hT t h e he)
  · rcases hm e he with h | h
    · exact hp e (hT s (List.mem_of_getElem? hs) e h)
    · exact h
theorem all_push {T : List St} {p : Ev → Prop} (hT : ∀ s ∈ T, ∀ e ∈ s.l, p e) : ∀ s ∈ T ++ [St.nil], ∀ e ∈ s.l, p e := by
  intro t ht e he
  rcases List.mem_append.1 ht with h | h
  · exact hT t h e he
  · rw [List.mem_singleton.1 h] at he; simp [St.nil] at he
theorem rows_same {T : List St} {k : Nat} {s : St} (hs : T[k]? = some s) {m : List Ev} (hm : m.length = s.l.length) (e : TypeId) (A : Option Addr) (q : Nat) : rows St.cells e 1 A q (T.set k ⟨s.A, s.cap, m⟩) = rows St.cells e 1 A q T := by
  have h1 : (T.set k ⟨s.A, s.cap, m⟩).map St.cells = T.map St.cells := by
    rw [List.map_set]
    apply List.ext_getElem?
    intro j
    rw [List.getElem?_set]
    split
    · rename_i h
      subst h
      obtain ⟨h2, h3⟩ := List.getElem?_eq_some_iff.1 hs
      subst h3
      simp [h2, St.cells, hm]
    · rfl
  unfold rows
  rw [List.length_set, List.flatMap_def, List.flatMap_def, h1]
theorem vals_sort {U : List St} {S : List (List (List Int))} {i : Nat} {s : St} (h : valsT U = (S.take i).map sortV ++ S.drop i) (hl : U.length = S.length) (hs : U[i]? = some s) {A : Option Addr} {q : Nat} {m : List Ev} (hp : m.Perm s.l) (ho : m.Pairwise fun x y => ¬ y.cmp x < 0) : valsT (U.set i ⟨A, q, m⟩) = (S.take (i + 1)).map sortV ++ S.drop (i + 1) := by
  have hi : i < S.length := by rw [← hl]; exact (List.getElem?_eq_some_iff.1 hs).1
  obtain ⟨z, hz⟩ : ∃ z, S[i]? = some z := ⟨S[i], List.getElem?_eq_getElem _⟩
  have h1 : (valsT U)[i]? = some z := by
    rw [h, List.getElem?_append_right (by simp; omega)]
    simp [Nat.min_eq_left (Nat.le_of_lt hi), hz]
  have h2 : s.l.map Ev.val = z := by simpa [valsT, hs] using h1
  have h3 : m.map Ev.val = sortV z := by
    rw [← h2]
    refine sorted_eq (hp.map _) (List.pairwise_map.2 (ho.imp fun {x y} h => ?_))
    unfold leV; rw [← cmp_val]; exact h
  have h4 : valsT (U.set i ⟨A, q, m⟩) = (valsT U).set i (sortV z) := by simp [valsT, List.map_set, h3]
  rw [h4, h, take_of_get hz, drop_of_get hz, List.set_append_right _ _ (by simp; omega)]
  simp [Nat.min_eq_left (Nat.le_of_lt hi)]
end
/-- The contract of slices.SortFunc at events. -/
def SortFn : Prop := ∀ (A : Option Addr) (cap : Nat) (l : List Ev) (M : List (Option Addr × List Int)), (∀ e ∈ l, e.ar ∈ M) → (∀ e ∈ l, e.args.length ≤ 1000000000000) → l.length ≤ 1000000000000 →
  Does Try.prog 35 [.slice A l.length cap, .func (.func 36) #[] #[]] [rows Ev.cells 37 9 A cap l, argsS M] (fun v Γ' => ∃ m, v = .tuple #[] ∧ Γ' = [rows Ev.cells 37 9 A cap m, argsS M] ∧ m.Perm l ∧ m.Pairwise fun x y => ¬ y.cmp x < 0)
def cntT (T : List St) : Nat := (T.map fun s => s.l.length).sum
theorem cnt_mem {T : List St} {s : St} (h : s ∈ T) : s.l.length ≤ cntT T := by
  unfold cntT
  induction T with
  | nil => cases h
  | cons t T ih =>
    rcases List.mem_cons.1 h with rfl | h
    · simp
    · have := ih h; simp; omega
theorem cnt_set {T : List St} {k : Nat} {s : St} {i : Nat} (hn : cntT T = i) (hs : T[k]? = some s) {A : Option Addr} {q : Nat} {e : Ev} : cntT (T.set k ⟨A, q, s.l ++ [e]⟩) = i + 1 := by
  subst hn
  unfold cntT
  induction T generalizing k with
  | nil => simp at hs
  | cons t T ih =>
    cases k with
    | zero => simp at hs; subst hs; simp; omega
    | succ k => simp at hs; have := ih hs; simp only [List.set_cons_succ, List.map_cons, List.sum_cons]; omega
theorem cnt_setN {T : List St} {k i : Nat} (hn : cntT T = i) (hk : (k : Int) = (T.length : Nat)) {A : Option Addr} {q : Nat} {e : Ev} : cntT ((T ++ [St.nil]).set k ⟨A, q, St.nil.l ++ [e]⟩) = i + 1 := by
  refine cnt_set ?_ (at_last T St.nil (by omega))
  subst hn; simp [cntT, St.nil]
theorem len_set1 {U : List St} {i : Nat} {s : St} (hs : U[i]? = some s) (h : ∀ s ∈ U, s.l.length ≤ 1000000) {A : Option Addr} {q : Nat} {m : List Ev} (hp : m.Perm s.l) : ∀ s ∈ U.set i ⟨A, q, m⟩, s.l.length ≤ 1000000 := by
  intro t ht
  rcases List.mem_or_eq_of_mem_set ht with h1 | rfl
  · exact h t h1
  · rw [hp.length_eq]; exact h s (List.mem_of_getElem? hs)
/-- What Normal answers: the values of the steps. -/
def normV (l : List Ev) : List (List (List Int)) := (vals2 (NS.nil.all l).steps).map sortV
set_option maxHeartbeats 2000000 in
set_option maxRecDepth 100000 in
theorem normal_fn0 (HS : SortFn) (Al : Option Addr) (cl : Nat) (l : List Ev) (hl : l.length ≤ 1000000) (ha : ∀ e ∈ l, e.args.length ≤ 1000000000000) :
    Does Try.prog 14 [.slice Al l.length cl] [ros Ev.cells Al l, argsS (l.map Ev.ar)] (fun v Γ' => ∃ A q U M, v = .slice A U.length q ∧ Γ' = [rows St.cells 22 1 A q U, all (U.map St.ch), argsS M] ∧ valsT U = normV l ∧ (∀ s ∈ U, ∀ e ∈ s.l, e.ar ∈ M) ∧ (∀ s ∈ U, ∀ e ∈ s.l, e.args.length ≤ 1000000000000)) := by
  refine Does.enter Try.func14 rfl Try.ntmps14 rfl (fun w0 => ?_)
  refine To.seq ?_
  refine To.reg ?_
  refine To.rd rfl rfl rfl (Rd.assign rfl rfl) ?_
  refine To.nil ?_
  refine To.thenN ?_
  refine To.seq ?_
  refine To.reg ?_
  refine To.rd rfl rfl rfl (Rd.assign rfl rfl) ?_
  refine To.nil ?_
  refine To.thenN ?_
  refine To.seq ?_
  refine To.nilRow St.cells 22 1 (To.allNil (To.free (c := argsS []) rfl rfl (fun w p hp => by simp at hp) ?_))
  refine To.reg ?_
  refine To.mk rfl rfl rfl (Mk.makeMapOwn ekI ekI rfl) ?_
  rintro _ _ ⟨m14, rfl, rfl⟩
  refine To.as [mapc ekI ekI m14 [], argsS [], all [], rows St.cells 22 1 none 0 ([] : List St), ros Ev.cells Al l, argsS (l.map Ev.ar)] rfl ?_
  refine To.rd rfl rfl rfl (Rd.assign rfl rfl) ?_
  refine To.nil ?_
  refine To.thenN ?_
  refine To.seq ?_
  refine To.reg ?_
  refine To.mk rfl rfl rfl (Mk.makeMapOwn mk3 ekI rfl) ?_
  rintro _ _ ⟨m15, rfl, rfl⟩
  refine To.as [mapc mk3 ekI m15 [], mapc ekI ekI m14 [], argsS [], all [], rows St.cells 22 1 none 0 ([] : List St), ros Ev.cells Al l, argsS (l.map Ev.ar)] rfl ?_
  refine To.rd rfl rfl rfl (Rd.assign rfl rfl) ?_
  refine To.nil ?_
  refine To.thenN ?_
  refine To.seq ?_
  refine To.reg ?_
  refine To.mk rfl rfl rfl (Mk.makeMapOwn mk3 ekI rfl) ?_
  rintro _ _ ⟨m16, rfl, rfl⟩
  refine To.as [mapc mk3 ekI m16 [], mapc mk3 ekI m15 [], mapc ekI ekI m14 [], argsS [], all [], rows St.cells 22 1 none 0 ([] : List St), ros Ev.cells Al l, argsS (l.map Ev.ar)] rfl ?_
  refine To.rd rfl rfl rfl (Rd.assign rfl rfl) ?_
  refine To.nil ?_
  refine To.thenN ?_
  refine To.seq ?_
  refine To.seq ?_
  refine To.reg ?_
  refine To.rd rfl rfl rfl (Rd.move rfl rfl) ?_
  refine To.rd rfl rfl rfl (Rd.len rfl rfl Try.underlying22) ?_
  refine To.rd rfl rfl rfl (Rd.move rfl rfl) ?_
  refine To.nil ?_
  refine To.thenN ?_
  refine To.block ?_
  refine To.sub [(3, .slice none ([] : List St).length 0), (4, .map (some m14)), (5, .map (some m15)), (6, .map (some m16)), (17, .slice Al l.length cl), (18, .int .i64 ((l.length : Nat) : Int)), (19, .int .i64 ((0 : Nat) : Int))] ⟨rfl, rfl, rfl, rfl, rfl, rfl, rfl, trivial⟩ ?_
  refine To.only [2, 1, 0, 2, 1, 0, 0, 0] rfl ?_
  refine To.as [mapc ekI ekI m14 ((nst l 0).next), mapc mk3 ekI m15 ((nst l 0).after), mapc mk3 ekI m16 ((nst l 0).till), rows St.cells 22 1 none 0 ([] : List St), all (([] : List St).map St.ch), argsS ([] : List (Option Addr × List Int)), ros Ev.cells Al l, argsS (l.map Ev.ar)] rfl ?_
  refine To.loop (fun mz ρ Γ => ∃ (i : Nat) (T : List St) (M : List (Option Addr × List Int)) (A3 : Option Addr) (q3 : Nat), ρ = [(3, .slice A3 T.length q3), (4, .map (some m14)), (5, .map (some m15)), (6, .map (some m16)), (17, .slice Al l.length cl), (18, .int .i64 ((l.length : Nat) : Int)), (19, .int .i64 ((i : Nat) : Int))] ∧ Γ = [mapc ekI ekI m14 ((nst l i).next), mapc mk3 ekI m15 ((nst l i).after), mapc mk3 ekI m16 ((nst l i).till), rows St.cells 22 1 A3 q3 T, all (T.map St.ch), argsS M, ros Ev.cells Al l, argsS (l.map Ev.ar)] ∧ mz = l.length - i ∧ (i ≤ l.length) ∧ (valsT T = vals2 (nst l i).steps) ∧ (∀ s ∈ T, ∀ e ∈ s.l, e.ar ∈ M) ∧ (∀ s ∈ T, ∀ e ∈ s.l, e.args.length ≤ 1000000000000) ∧ (cntT T = i)) (l.length - 0) ⟨0, ([] : List St), ([] : List (Option Addr × List Int)), none, 0, rfl, rfl, rfl, (Nat.zero_le _), rfl, (fun s hs => by simp at hs), (fun s hs => by simp at hs), rfl⟩ ?_
  rintro mz _ _ ⟨i, T, M, A3, q3, rfl, rfl, rfl, hi, hT, hM, hA, hn⟩
  have hle := nst_le l i
  have hlen := vals_len hT
  have hb : ∀ s ∈ T, s.l.length ≤ 1000000 := fun s hs => by have := cnt_mem hs; omega
  refine To.seq ?_
  refine To.reg ?_
  refine To.rd rfl rfl rfl (Rd.lss rfl rfl rfl) ?_
  refine To.nil ?_
  refine To.thenN ?_
  refine To.seq ?_
  refine To.condP rfl (fun c20 => ?_) (fun c20 => ?_)
  ·
    obtain ⟨y, hy⟩ : ∃ z0, l[i]? = some z0 := ⟨l[i]'(by omega), List.getElem?_eq_getElem _⟩
    obtain ⟨k, hat, hkl⟩ := nst_at l i y
    refine To.skip ?_
    refine To.thenN ?_
    refine To.seq ?_
    refine To.block ?_
    refine To.seq ?_
    refine To.reg ?_
    refine To.rd rfl rfl rfl (Rd.indexRos encE (i := 6) (j := i) rfl rfl rfl s22 rfl hy) ?_
    refine To.rd rfl rfl rfl (Rd.loadS (i := 6) rfl rfl r37 rfl (ros_gives encE hy) (encE.len _)) ?_
    refine To.alloc rfl rfl rfl rfl z37 (fun b8 => ?_)
    refine To.up rfl rfl (Up.storeS (i := 0) rfl rfl rfl r37 rfl rfl rfl (box_takesAll rfl)) ?_
    refine To.nil ?_
    refine To.thenN ?_
    refine To.seq ?_
    refine To.reg ?_
    refine To.rd rfl rfl rfl (Rd.loadS (i := 0) rfl rfl r37 rfl box_whole rfl) ?_
    refine To.callV rfl rfl rfl (Ent.fn rfl rfl ca33) (message_fn y) rfl (oks_nil _) ?_
    refine To.rd rfl rfl rfl (Rd.move rfl rfl) ?_
    refine To.rd rfl rfl rfl (Rd.extract rfl rfl rfl) ?_
    refine To.rd rfl rfl rfl (Rd.extract rfl rfl rfl) ?_
    refine To.alloc rfl rfl rfl rfl z55 (fun b9 => ?_)
    refine To.up rfl rfl (Up.storeS (i := 0) rfl rfl rfl r55 rfl rfl rfl (box_takesAll rfl)) ?_
    refine To.rd rfl rfl rfl (Rd.assign rfl rfl) ?_
    refine To.nil ?_
    refine To.thenN ?_
    refine To.seq ?_
    refine To.reg ?_
    refine To.rd rfl rfl rfl (Rd.move rfl rfl) ?_
    refine To.rd rfl rfl rfl (Rd.field rfl rfl fl37_1) ?_
    refine To.rd rfl rfl rfl (Rd.load (i := 1) rfl rfl c3 rfl (box_gives1 rfl)) ?_
    refine To.rd rfl rfl rfl (Rd.as (v' := .int .i64 ((aget ((nst l i).next) y.c).getD 0)) rfl (Rd.lookup (i := 2) (k := y.c) (m := ((nst l i).next)) keyI 0 rfl Try.underlying52 zv3 rfl rfl rfl)) ?_
    refine To.rd rfl rfl rfl (Rd.assign rfl rfl) ?_
    refine To.nil ?_
    refine To.thenN ?_
    refine To.seq ?_
    refine To.seq ?_
    refine To.reg ?_
    refine To.rd rfl rfl rfl (Rd.move rfl rfl) ?_
    refine To.nil ?_
    refine To.thenN ?_
    refine To.block ?_
    refine To.seq ?_
    refine To.reg ?_
    refine To.rd rfl rfl rfl (Rd.eql rfl rfl rfl) ?_
    refine To.rd rfl rfl rfl (Rd.assign rfl rfl) ?_
    refine To.nil ?_
    refine To.thenN ?_
    refine To.condP rfl (fun c33 => ?_) (fun c33 => ?_)
    ·
      refine To.seq ?_
      refine To.reg ?_
      refine To.rd rfl rfl rfl (Rd.move rfl rfl) ?_
      refine To.rd rfl rfl rfl (Rd.move rfl rfl) ?_
      refine To.rd rfl rfl rfl (Rd.loadS (i := 0) rfl rfl r55 rfl box_whole rfl) ?_
      refine To.rd rfl rfl rfl (Rd.as (v' := .int .i64 ((aget ((nst l i).till) y.key).getD 0)) rfl (Rd.lookup (i := 4) (k := y.key) (m := ((nst l i).till)) keyM 0 rfl Try.underlying53 zv3 rfl rfl rfl)) ?_
      refine To.rd rfl rfl rfl (Rd.max rfl rfl rfl) ?_
      refine To.rd rfl rfl rfl (Rd.assign rfl rfl) ?_
      refine To.nil ?_
      refine To.sub [(3, .slice A3 T.length q3), (4, .map (some m14)), (5, .map (some m15)), (6, .map (some m16)), (17, .slice Al l.length cl), (18, .int .i64 ((l.length : Nat) : Int)), (19, .int .i64 ((i : Nat) : Int)), (20, .bool (decide (((i : Nat) : Int) < ((l.length : Nat) : Int)))), (8, .pointer (some ⟨b8, 0, none⟩)), (9, .pointer (some ⟨b9, 0, none⟩)), (10, .int .i64 y.rl), (11, .int .i64 (max ((aget ((nst l i).next) y.c).getD 0) ((aget ((nst l i).till) y.key).getD 0))), (32, .int .i64 y.rl), (33, .bool (decide (y.rl = 1)))] ⟨rfl, rfl, rfl, rfl, rfl, rfl, rfl, rfl, rfl, rfl, rfl, rfl, rfl, rfl, trivial⟩ ?_
      refine To.thenN ?_
      have hk0 : max ((aget ((nst l i).next) y.c).getD 0) ((aget ((nst l i).till) y.key).getD 0) = ((k : Nat) : Int) := by rw [← hat]; simp [NS.at_, c33]
      refine To.sub [(3, .slice A3 T.length q3), (4, .map (some m14)), (5, .map (some m15)), (6, .map (some m16)), (17, .slice Al l.length cl), (18, .int .i64 ((l.length : Nat) : Int)), (19, .int .i64 ((i : Nat) : Int)), (20, .bool (decide (((i : Nat) : Int) < ((l.length : Nat) : Int)))), (8, .pointer (some ⟨b8, 0, none⟩)), (9, .pointer (some ⟨b9, 0, none⟩)), (10, .int .i64 y.rl), (11, .int .i64 ((k : Nat) : Int)), (32, .int .i64 y.rl), (33, .bool (decide (y.rl = 1)))] ⟨rfl, rfl, rfl, rfl, rfl, rfl, rfl, rfl, rfl, rfl, rfl, congrArg (fun z => some (Value.int .i64 z)) hk0, rfl, rfl, trivial⟩ ?_
      refine To.flow [] [⟨0, [], 0⟩, ⟨2, [], 0⟩, ⟨5, [], 0⟩, ⟨6, [], 0⟩, ⟨1, [], 1⟩, ⟨3, [], 1⟩, ⟨4, [], 1⟩, ⟨7, [], 0⟩, ⟨8, [], 5⟩] mixed (by kernel_rfl) (oks_nil _) ?_
      refine FlowS.free rfl rfl rfl rfl (Rd.move rfl rfl) ?_
      refine FlowS.free rfl rfl rfl rfl (Rd.move rfl rfl) ?_
      refine FlowS.free rfl rfl rfl rfl (Rd.move rfl rfl) ?_
      refine FlowS.free rfl rfl rfl rfl (Rd.inc rfl rfl rfl (by omega)) ?_
      refine FlowS.rd rfl rfl rfl rfl (Rd.loadS (i := 0) rfl rfl r55 rfl box_whole rfl) ?_
      refine FlowS.rd rfl rfl rfl rfl (Rd.loadS (i := 0) rfl rfl r55 rfl box_whole rfl) ?_
      refine FlowS.rd rfl rfl rfl rfl (Rd.as (v' := .int .i64 ((aget ((nst l i).after) y.key).getD 0)) rfl (Rd.lookup (i := 3) (k := y.key) (m := ((nst l i).after)) keyM 0 rfl Try.underlying53 zv3 rfl rfl rfl)) ?_
      refine FlowS.free rfl rfl rfl rfl (Rd.max rfl rfl rfl) ?_
      refine FlowS.up (Γ' := [box b9 [.int .i64 y.key.1, .int .i64 y.key.2.1, .int .i64 y.key.2.2] 55, box b8 [.int .i64 y.t, .int .i64 y.c, .int .u8 y.k, .int .i64 y.p, .int .i64 y.n, .int .i64 y.cp, .int .i64 y.h, .int .i64 y.d, .slice y.A y.args.length y.cap] 37, mapc ekI ekI m14 ((nst l i).next), mapc mk3 ekI m15 (aset ((nst l i).after) y.key (max ((aget ((nst l i).after) y.key).getD 0) ((k + 1 : Nat) : Int))), mapc mk3 ekI m16 ((nst l i).till), rows St.cells 22 1 A3 q3 T, all (T.map St.ch), argsS M, ros Ev.cells Al l, argsS (l.map Ev.ar)]) rfl rfl rfl (Up.mapUpdate (i := 3) (k := y.key) (v := (max ((aget ((nst l i).after) y.key).getD 0) ((k + 1 : Nat) : Int))) (m := ((nst l i).after)) keyM rfl Try.underlying53 rfl rfl rfl rfl) (oks_nil _) ?_
      refine FlowS.fin ?_
      refine To.as [box b9 [.int .i64 y.key.1, .int .i64 y.key.2.1, .int .i64 y.key.2.2] 55, box b8 [.int .i64 y.t, .int .i64 y.c, .int .u8 y.k, .int .i64 y.p, .int .i64 y.n, .int .i64 y.cp, .int .i64 y.h, .int .i64 y.d, .slice y.A y.args.length y.cap] 37, mapc ekI ekI m14 ((nst l i).next), mapc mk3 ekI m15 (aset ((nst l i).after) y.key (max ((aget ((nst l i).after) y.key).getD 0) ((k + 1 : Nat) : Int))), mapc mk3 ekI m16 ((nst l i).till), rows St.cells 22 1 A3 q3 T, all (T.map St.ch), argsS M, ros Ev.cells Al l, argsS (l.map Ev.ar)] rfl ?_
      refine To.blockN ?_
      refine To.thenN ?_
      refine To.seq ?_
      refine To.reg ?_
      refine To.rd rfl rfl rfl (Rd.move rfl rfl) ?_
      refine To.rd rfl rfl rfl (Rd.field rfl rfl fl37_1) ?_
      refine To.rd rfl rfl rfl (Rd.load (i := 1) rfl rfl c3 rfl (box_gives1 rfl)) ?_
      refine To.rd rfl rfl rfl (Rd.move rfl rfl) ?_
      refine To.rd rfl rfl rfl (Rd.inc rfl rfl rfl (by omega)) ?_
      refine To.up rfl rfl (Up.mapUpdate (i := 2) (k := y.c) (v := ((k + 1 : Nat) : Int)) (m := ((nst l i).next)) keyI rfl Try.underlying52 rfl rfl rfl rfl) ?_
      refine To.nil ?_
      refine To.sub [(3, .slice A3 T.length q3), (4, .map (some m14)), (5, .map (some m15)), (6, .map (some m16)), (17, .slice Al l.length cl), (18, .int .i64 ((l.length : Nat) : Int)), (19, .int .i64 ((i : Nat) : Int)), (20, .bool (decide (((i : Nat) : Int) < ((l.length : Nat) : Int)))), (8, .pointer (some ⟨b8, 0, none⟩)), (9, .pointer (some ⟨b9, 0, none⟩)), (10, .int .i64 y.rl), (11, .int .i64 ((k : Nat) : Int)), (32, .int .i64 y.rl), (33, .bool (decide (y.rl = 1)))] ⟨rfl, rfl, rfl, rfl, rfl, rfl, rfl, rfl, rfl, rfl, rfl, rfl, rfl, rfl, trivial⟩ ?_
      refine To.thenN ?_
      refine To.seq ?_
      refine To.seq ?_
      refine To.reg ?_
      refine To.rd rfl rfl rfl (Rd.move rfl rfl) ?_
      refine To.rd rfl rfl rfl (Rd.move rfl rfl) ?_
      refine To.rd rfl rfl rfl (Rd.len rfl rfl Try.underlying26) ?_
      refine To.rd rfl rfl rfl (Rd.eql rfl rfl rfl) ?_
      refine To.nil ?_
      refine To.thenN ?_
      refine To.condP rfl (fun c71 => ?_) (fun c71 => ?_)
      ·
        refine To.reg ?_
        refine To.rd rfl rfl rfl (Rd.move rfl rfl) ?_
        refine To.mk rfl rfl rfl (Mk.sliceN (us := [.slice none 0 0]) rfl s26 rfl rfl rfl rfl rfl rfl) ?_
        rintro _ _ ⟨b73, rfl, rfl⟩
        refine To.as [row 22 1 (some ⟨b73, 0, none⟩) 1 1 [.slice none 0 0], box b9 [.int .i64 y.key.1, .int .i64 y.key.2.1, .int .i64 y.key.2.2] 55, box b8 [.int .i64 y.t, .int .i64 y.c, .int .u8 y.k, .int .i64 y.p, .int .i64 y.n, .int .i64 y.cp, .int .i64 y.h, .int .i64 y.d, .slice y.A y.args.length y.cap] 37, mapc ekI ekI m14 (aset ((nst l i).next) y.c ((k + 1 : Nat) : Int)), mapc mk3 ekI m15 (aset ((nst l i).after) y.key (max ((aget ((nst l i).after) y.key).getD 0) ((k + 1 : Nat) : Int))), mapc mk3 ekI m16 ((nst l i).till), rows St.cells 22 1 A3 q3 T, all (T.map St.ch), argsS M, ros Ev.cells Al l, argsS (l.map Ev.ar)] rfl ?_
        refine To.ge rfl rfl rfl (Ge.append1 encS (i := 6) (j := 0) (el := St.nil) rfl s26 rfl rfl rfl rfl rfl (by first | omega | (simp only [List.length_append, List.length_cons, List.length_nil]; omega)) (by first | omega | (simp only [List.length_append, List.length_cons, List.length_nil]; omega))) ?_
        rintro _ _ ⟨A74, q74, rfl, rfl⟩
        refine To.as [row 22 1 (some ⟨b73, 0, none⟩) 1 1 [.slice none 0 0], box b9 [.int .i64 y.key.1, .int .i64 y.key.2.1, .int .i64 y.key.2.2] 55, box b8 [.int .i64 y.t, .int .i64 y.c, .int .u8 y.k, .int .i64 y.p, .int .i64 y.n, .int .i64 y.cp, .int .i64 y.h, .int .i64 y.d, .slice y.A y.args.length y.cap] 37, mapc ekI ekI m14 (aset ((nst l i).next) y.c ((k + 1 : Nat) : Int)), mapc mk3 ekI m15 (aset ((nst l i).after) y.key (max ((aget ((nst l i).after) y.key).getD 0) ((k + 1 : Nat) : Int))), mapc mk3 ekI m16 ((nst l i).till), rows St.cells 22 1 A74 q74 (T ++ [St.nil]), all (T.map St.ch), argsS M, ros Ev.cells Al l, argsS (l.map Ev.ar)] rfl ?_
        refine To.rd rfl rfl rfl (Rd.assign rfl rfl) ?_
        refine To.nil ?_
        refine To.thenN ?_
        refine To.only [7, 0, 0, 0, 0, 0, 0, 0, 0, 0, 0] rfl ?_
        refine To.nilRow Ev.cells 37 9 (To.allPush ?_)
        rw [chs_push]
        have hs := at_last T St.nil (k := k) (by omega)
        have hk2 : k < (T ++ [St.nil]).length := by simp; omega
        have hk1 : k ≤ (T ++ [St.nil]).length := by omega
        have hsl : St.nil.l.length = 0 := rfl
        refine To.allOut k (ch_at hs) ?_
        refine To.flow [] [⟨0, [], 0⟩, ⟨1, [], 0⟩, ⟨2, [], 0⟩, ⟨3, [], 0⟩, ⟨6, [], 1⟩, ⟨7, [], 4⟩, ⟨4, [], 1⟩, ⟨5, [], 1⟩, ⟨8, [7], 2⟩, ⟨9, [7, 8], 5⟩, ⟨10, [], 1⟩, ⟨11, [], 5⟩] mixed (by kernel_rfl) (oks_nil _) ?_
        refine FlowS.free rfl rfl rfl rfl (Rd.move rfl rfl) ?_
        refine FlowS.free rfl rfl rfl rfl (Rd.move rfl rfl) ?_
        refine FlowS.free rfl rfl rfl rfl (Rd.move rfl rfl) ?_
        refine FlowS.free rfl rfl rfl rfl (Rd.move rfl rfl) ?_
        refine FlowS.rd rfl rfl rfl rfl (Rd.loadS (i := 4) rfl rfl r37 rfl box_whole rfl) ?_
        refine FlowS.callM rfl rfl rfl rfl rfl (Ent.fn rfl rfl ca34) (clone_fn y (ha y (List.mem_of_getElem? hy))) rfl (oks_cons (oks_S 11 rfl (mem_at hy Ev.ar)) (oks_nil _)) ?_
        rintro _ _ ⟨A1, q1, rfl, rfl⟩
        refine ⟨rfl, ?_⟩
        refine FlowS.rd rfl rfl rfl rfl (Rd.indexRows (i := 8) (j := k) rfl rfl rfl s26 rfl hs) ?_
        refine FlowS.rd rfl rfl rfl rfl (Rd.load (i := 8) rfl rfl c22 rfl (gives_1 (rows_gives encS hs) rfl)) ?_
        refine FlowS.mk rfl rfl rfl rfl rfl (Mk.sliceN (us := [.int .i64 (({ y with A := A1, cap := q1 } : Ev).t), .int .i64 (({ y with A := A1, cap := q1 } : Ev).c), .int .u8 (({ y with A := A1, cap := q1 } : Ev).k), .int .i64 (({ y with A := A1, cap := q1 } : Ev).p), .int .i64 (({ y with A := A1, cap := q1 } : Ev).n), .int .i64 (({ y with A := A1, cap := q1 } : Ev).cp), .int .i64 (({ y with A := A1, cap := q1 } : Ev).h), .int .i64 (({ y with A := A1, cap := q1 } : Ev).d), .slice (({ y with A := A1, cap := q1 } : Ev).A) (({ y with A := A1, cap := q1 } : Ev).args.length) (({ y with A := A1, cap := q1 } : Ev).cap)]) rfl s22 rfl rfl rfl rfl rfl rfl) ?_
        rintro _ _ ⟨b83, rfl, rfl⟩
        refine FlowS.ge rfl rfl rfl rfl (Ge.append1 encE (i := 2) (j := 0) (el := ({ y with A := A1, cap := q1 } : Ev)) rfl s22 rfl rfl rfl rfl rfl (by first | omega | (simp only [List.length_append, List.length_cons, List.length_nil]; omega)) (by first | omega | (simp only [List.length_append, List.length_cons, List.length_nil]; omega))) ?_
        rintro _ _ ⟨A84, q84, rfl, rfl⟩
        refine ⟨oks_nil _, ?_⟩
        refine FlowS.rd rfl rfl rfl rfl (Rd.indexRows (i := 10) (j := k) rfl rfl rfl s26 rfl hs) ?_
        refine FlowS.up (Γ' := [row 37 9 (some ⟨b83, 0, none⟩) 1 1 [.int .i64 (({ y with A := A1, cap := q1 } : Ev).t), .int .i64 (({ y with A := A1, cap := q1 } : Ev).c), .int .u8 (({ y with A := A1, cap := q1 } : Ev).k), .int .i64 (({ y with A := A1, cap := q1 } : Ev).p), .int .i64 (({ y with A := A1, cap := q1 } : Ev).n), .int .i64 (({ y with A := A1, cap := q1 } : Ev).cp), .int .i64 (({ y with A := A1, cap := q1 } : Ev).h), .int .i64 (({ y with A := A1, cap := q1 } : Ev).d), .slice (({ y with A := A1, cap := q1 } : Ev).A) (({ y with A := A1, cap := q1 } : Ev).args.length) (({ y with A := A1, cap := q1 } : Ev).cap)], rows encI 2 1 A1 q1 y.args, rows Ev.cells 37 9 A84 q84 (St.nil.l ++ [({ y with A := A1, cap := q1 } : Ev)]), all (((T ++ [St.nil]).map St.ch).eraseIdx k), row 22 1 (some ⟨b73, 0, none⟩) 1 1 [.slice none 0 0], box b9 [.int .i64 y.key.1, .int .i64 y.key.2.1, .int .i64 y.key.2.2] 55, box b8 [.int .i64 y.t, .int .i64 y.c, .int .u8 y.k, .int .i64 y.p, .int .i64 y.n, .int .i64 y.cp, .int .i64 y.h, .int .i64 y.d, .slice y.A y.args.length y.cap] 37, mapc ekI ekI m14 (aset ((nst l i).next) y.c ((k + 1 : Nat) : Int)), mapc mk3 ekI m15 (aset ((nst l i).after) y.key (max ((aget ((nst l i).after) y.key).getD 0) ((k + 1 : Nat) : Int))), mapc mk3 ekI m16 ((nst l i).till), rows St.cells 22 1 A74 q74 ((T ++ [St.nil]).set k (⟨A84, q84, (St.nil.l ++ [({ y with A := A1, cap := q1 } : Ev)])⟩ : St)), argsS M, ros Ev.cells Al l, argsS (l.map Ev.ar)]) rfl rfl rfl (Up.store (i := 10) rfl rfl rfl c22 rfl rfl (rows_takes encS (y := (⟨A84, q84, (St.nil.l ++ [({ y with A := A1, cap := q1 } : Ev)])⟩ : St)) (by decide) (by omega))) (oks_nil _) ?_
        refine FlowS.fin ?_
        refine To.as [row 37 9 (some ⟨b83, 0, none⟩) 1 1 [.int .i64 (({ y with A := A1, cap := q1 } : Ev).t), .int .i64 (({ y with A := A1, cap := q1 } : Ev).c), .int .u8 (({ y with A := A1, cap := q1 } : Ev).k), .int .i64 (({ y with A := A1, cap := q1 } : Ev).p), .int .i64 (({ y with A := A1, cap := q1 } : Ev).n), .int .i64 (({ y with A := A1, cap := q1 } : Ev).cp), .int .i64 (({ y with A := A1, cap := q1 } : Ev).h), .int .i64 (({ y with A := A1, cap := q1 } : Ev).d), .slice (({ y with A := A1, cap := q1 } : Ev).A) (({ y with A := A1, cap := q1 } : Ev).args.length) (({ y with A := A1, cap := q1 } : Ev).cap)], rows encI 2 1 A1 q1 y.args, rows Ev.cells 37 9 A84 q84 (St.nil.l ++ [({ y with A := A1, cap := q1 } : Ev)]), all (((T ++ [St.nil]).map St.ch).eraseIdx k), row 22 1 (some ⟨b73, 0, none⟩) 1 1 [.slice none 0 0], box b9 [.int .i64 y.key.1, .int .i64 y.key.2.1, .int .i64 y.key.2.2] 55, box b8 [.int .i64 y.t, .int .i64 y.c, .int .u8 y.k, .int .i64 y.p, .int .i64 y.n, .int .i64 y.cp, .int .i64 y.h, .int .i64 y.d, .slice y.A y.args.length y.cap] 37, mapc ekI ekI m14 (aset ((nst l i).next) y.c ((k + 1 : Nat) : Int)), mapc mk3 ekI m15 (aset ((nst l i).after) y.key (max ((aget ((nst l i).after) y.key).getD 0) ((k + 1 : Nat) : Int))), mapc mk3 ekI m16 ((nst l i).till), rows St.cells 22 1 A74 q74 ((T ++ [St.nil]).set k (⟨A84, q84, (St.nil.l ++ [({ y with A := A1, cap := q1 } : Ev)])⟩ : St)), argsS M, ros Ev.cells Al l, argsS (l.map Ev.ar)] rfl ?_
        refine To.sub [(3, .slice A74 ((T ++ [St.nil]).length) q74), (4, .map (some m14)), (5, .map (some m15)), (6, .map (some m16)), (17, .slice Al l.length cl), (18, .int .i64 ((l.length : Nat) : Int)), (19, .int .i64 ((i : Nat) : Int)), (20, .bool (decide (((i : Nat) : Int) < ((l.length : Nat) : Int)))), (8, .pointer (some ⟨b8, 0, none⟩)), (9, .pointer (some ⟨b9, 0, none⟩)), (10, .int .i64 y.rl), (11, .int .i64 ((k : Nat) : Int)), (32, .int .i64 y.rl), (33, .bool (decide (y.rl = 1))), (71, .bool (decide (((k : Nat) : Int) = ((T.length : Nat) : Int))))] ⟨rfl, rfl, rfl, rfl, rfl, rfl, rfl, rfl, rfl, rfl, rfl, rfl, rfl, rfl, rfl, trivial⟩ ?_
        refine To.blockN ?_
        refine To.thenN ?_
        refine To.reg ?_
        refine To.rd rfl rfl rfl (Rd.inc rfl rfl rfl (by omega)) ?_
        refine To.rd rfl rfl rfl (Rd.move rfl rfl) ?_
        refine To.nil ?_
        refine To.thenN ?_
        refine To.only [1, 0, 0, 0, 0, 0, 0, 0, 0, 0, 0, 0, 0, 0] rfl ?_
        refine To.layRow ?_
        refine To.derive (argsS (M ++ [(A1, y.args)])) rfl (argsS_add 0 11 rfl rfl).1 (argsS_add 0 11 rfl rfl).2 ?_
        refine To.only [3, 3, 0, 0, 0, 0, 0, 0, 0, 0, 0, 0, 0, 0, 0] rfl ?_
        refine To.allIn k (ch_at hs) ?_
        rw [chs_set]
        refine To.sub [(3, .slice A74 ((T ++ [St.nil]).set k ⟨A84, q84, St.nil.l ++ [({ y with A := A1, cap := q1 } : Ev)]⟩).length q74), (4, .map (some m14)), (5, .map (some m15)), (6, .map (some m16)), (17, .slice Al l.length cl), (18, .int .i64 ((l.length : Nat) : Int)), (19, .int .i64 (((i + 1) : Nat) : Int))] ⟨by rw [List.length_set]; rfl, rfl, rfl, rfl, rfl, rfl, rfl, trivial⟩ ?_
        refine To.only [7, 7, 7, 7, 0, 0, 6, 6] rfl ?_
        refine To.as [mapc ekI ekI m14 ((nst l (i + 1)).next), mapc mk3 ekI m15 ((nst l (i + 1)).after), mapc mk3 ekI m16 ((nst l (i + 1)).till), rows St.cells 22 1 A74 q74 ((T ++ [St.nil]).set k ⟨A84, q84, St.nil.l ++ [({ y with A := A1, cap := q1 } : Ev)]⟩), all (((T ++ [St.nil]).set k ⟨A84, q84, St.nil.l ++ [({ y with A := A1, cap := q1 } : Ev)]⟩).map St.ch), argsS (M ++ [(A1, y.args)]), ros Ev.cells Al l, argsS (l.map Ev.ar)] (by rw [nst_next hy hat, nst_after1 hy hat c33, nst_till0 hy (by omega)]) ?_
        refine To.again (l.length - (i + 1)) (by omega) ⟨i + 1, (T ++ [St.nil]).set k ⟨A84, q84, St.nil.l ++ [({ y with A := A1, cap := q1 } : Ev)]⟩, M ++ [(A1, y.args)], A74, q74, rfl, rfl, rfl, (by omega), (by rw [nst_steps hy hat]; exact vals_new hT c71 rfl), (all_set hs (all_push hM) (fun e h => List.mem_append_left _ h) (fun e he => (List.mem_append.1 he).elim .inl (fun h => .inr (by rw [List.mem_singleton.1 h]; exact List.mem_append_right _ (List.mem_singleton.2 rfl))))), (all_set hs (all_push hA) (fun e h => h) (fun e he => (List.mem_append.1 he).elim .inl (fun h => .inr (by rw [List.mem_singleton.1 h]; exact ha y (List.mem_of_getElem? hy))))), (cnt_setN hn c71)⟩
      ·
        refine To.skip ?_
        refine To.thenN ?_
        obtain ⟨s, hs⟩ : ∃ z0, T[k]? = some z0 := ⟨T[k]'(by omega), List.getElem?_eq_getElem _⟩
        have hsl : s.l.length ≤ 1000000 := hb s (List.mem_of_getElem? hs)
        refine To.only [6, 0, 0, 0, 0, 0, 0, 0, 0, 0] rfl ?_
        refine To.allOut k (ch_at hs) ?_
        refine To.flow [] [⟨0, [], 0⟩, ⟨1, [], 0⟩, ⟨2, [], 0⟩, ⟨3, [], 0⟩, ⟨6, [], 1⟩, ⟨7, [], 4⟩, ⟨4, [], 1⟩, ⟨5, [], 1⟩, ⟨8, [7], 2⟩, ⟨9, [7, 8], 5⟩, ⟨10, [], 1⟩, ⟨11, [], 5⟩] mixed (by kernel_rfl) (oks_nil _) ?_
        refine FlowS.free rfl rfl rfl rfl (Rd.move rfl rfl) ?_
        refine FlowS.free rfl rfl rfl rfl (Rd.move rfl rfl) ?_
        refine FlowS.free rfl rfl rfl rfl (Rd.move rfl rfl) ?_
        refine FlowS.free rfl rfl rfl rfl (Rd.move rfl rfl) ?_
        refine FlowS.rd rfl rfl rfl rfl (Rd.loadS (i := 3) rfl rfl r37 rfl box_whole rfl) ?_
        refine FlowS.callM rfl rfl rfl rfl rfl (Ent.fn rfl rfl ca34) (clone_fn y (ha y (List.mem_of_getElem? hy))) rfl (oks_cons (oks_S 10 rfl (mem_at hy Ev.ar)) (oks_nil _)) ?_
        rintro _ _ ⟨A1, q1, rfl, rfl⟩
        refine ⟨rfl, ?_⟩
        refine FlowS.rd rfl rfl rfl rfl (Rd.indexRows (i := 7) (j := k) rfl rfl rfl s26 rfl hs) ?_
        refine FlowS.rd rfl rfl rfl rfl (Rd.load (i := 7) rfl rfl c22 rfl (gives_1 (rows_gives encS hs) rfl)) ?_
        refine FlowS.mk rfl rfl rfl rfl rfl (Mk.sliceN (us := [.int .i64 (({ y with A := A1, cap := q1 } : Ev).t), .int .i64 (({ y with A := A1, cap := q1 } : Ev).c), .int .u8 (({ y with A := A1, cap := q1 } : Ev).k), .int .i64 (({ y with A := A1, cap := q1 } : Ev).p), .int .i64 (({ y with A := A1, cap := q1 } : Ev).n), .int .i64 (({ y with A := A1, cap := q1 } : Ev).cp), .int .i64 (({ y with A := A1, cap := q1 } : Ev).h), .int .i64 (({ y with A := A1, cap := q1 } : Ev).d), .slice (({ y with A := A1, cap := q1 } : Ev).A) (({ y with A := A1, cap := q1 } : Ev).args.length) (({ y with A := A1, cap := q1 } : Ev).cap)]) rfl s22 rfl rfl rfl rfl rfl rfl) ?_
        rintro _ _ ⟨b83_2, rfl, rfl⟩
        refine FlowS.ge rfl rfl rfl rfl (Ge.append1 encE (i := 2) (j := 0) (el := ({ y with A := A1, cap := q1 } : Ev)) rfl s22 rfl rfl rfl rfl rfl (by first | omega | (simp only [List.length_append, List.length_cons, List.length_nil]; omega)) (by first | omega | (simp only [List.length_append, List.length_cons, List.length_nil]; omega))) ?_
        rintro _ _ ⟨A84_2, q84_2, rfl, rfl⟩
        refine ⟨oks_nil _, ?_⟩
        refine FlowS.rd rfl rfl rfl rfl (Rd.indexRows (i := 9) (j := k) rfl rfl rfl s26 rfl hs) ?_
        refine FlowS.up (Γ' := [row 37 9 (some ⟨b83_2, 0, none⟩) 1 1 [.int .i64 (({ y with A := A1, cap := q1 } : Ev).t), .int .i64 (({ y with A := A1, cap := q1 } : Ev).c), .int .u8 (({ y with A := A1, cap := q1 } : Ev).k), .int .i64 (({ y with A := A1, cap := q1 } : Ev).p), .int .i64 (({ y with A := A1, cap := q1 } : Ev).n), .int .i64 (({ y with A := A1, cap := q1 } : Ev).cp), .int .i64 (({ y with A := A1, cap := q1 } : Ev).h), .int .i64 (({ y with A := A1, cap := q1 } : Ev).d), .slice (({ y with A := A1, cap := q1 } : Ev).A) (({ y with A := A1, cap := q1 } : Ev).args.length) (({ y with A := A1, cap := q1 } : Ev).cap)], rows encI 2 1 A1 q1 y.args, rows Ev.cells 37 9 A84_2 q84_2 (s.l ++ [({ y with A := A1, cap := q1 } : Ev)]), all ((T.map St.ch).eraseIdx k), box b9 [.int .i64 y.key.1, .int .i64 y.key.2.1, .int .i64 y.key.2.2] 55, box b8 [.int .i64 y.t, .int .i64 y.c, .int .u8 y.k, .int .i64 y.p, .int .i64 y.n, .int .i64 y.cp, .int .i64 y.h, .int .i64 y.d, .slice y.A y.args.length y.cap] 37, mapc ekI ekI m14 (aset ((nst l i).next) y.c ((k + 1 : Nat) : Int)), mapc mk3 ekI m15 (aset ((nst l i).after) y.key (max ((aget ((nst l i).after) y.key).getD 0) ((k + 1 : Nat) : Int))), mapc mk3 ekI m16 ((nst l i).till), rows St.cells 22 1 A3 q3 (T.set k (⟨A84_2, q84_2, (s.l ++ [({ y with A := A1, cap := q1 } : Ev)])⟩ : St)), argsS M, ros Ev.cells Al l, argsS (l.map Ev.ar)]) rfl rfl rfl (Up.store (i := 9) rfl rfl rfl c22 rfl rfl (rows_takes encS (y := (⟨A84_2, q84_2, (s.l ++ [({ y with A := A1, cap := q1 } : Ev)])⟩ : St)) (by decide) (by omega))) (oks_nil _) ?_
        refine FlowS.fin ?_
        refine To.as [row 37 9 (some ⟨b83_2, 0, none⟩) 1 1 [.int .i64 (({ y with A := A1, cap := q1 } : Ev).t), .int .i64 (({ y with A := A1, cap := q1 } : Ev).c), .int .u8 (({ y with A := A1, cap := q1 } : Ev).k), .int .i64 (({ y with A := A1, cap := q1 } : Ev).p), .int .i64 (({ y with A := A1, cap := q1 } : Ev).n), .int .i64 (({ y with A := A1, cap := q1 } : Ev).cp), .int .i64 (({ y with A := A1, cap := q1 } : Ev).h), .int .i64 (({ y with A := A1, cap := q1 } : Ev).d), .slice (({ y with A := A1, cap := q1 } : Ev).A) (({ y with A := A1, cap := q1 } : Ev).args.length) (({ y with A := A1, cap := q1 } : Ev).cap)], rows encI 2 1 A1 q1 y.args, rows Ev.cells 37 9 A84_2 q84_2 (s.l ++ [({ y with A := A1, cap := q1 } : Ev)]), all ((T.map St.ch).eraseIdx k), box b9 [.int .i64 y.key.1, .int .i64 y.key.2.1, .int .i64 y.key.2.2] 55, box b8 [.int .i64 y.t, .int .i64 y.c, .int .u8 y.k, .int .i64 y.p, .int .i64 y.n, .int .i64 y.cp, .int .i64 y.h, .int .i64 y.d, .slice y.A y.args.length y.cap] 37, mapc ekI ekI m14 (aset ((nst l i).next) y.c ((k + 1 : Nat) : Int)), mapc mk3 ekI m15 (aset ((nst l i).after) y.key (max ((aget ((nst l i).after) y.key).getD 0) ((k + 1 : Nat) : Int))), mapc mk3 ekI m16 ((nst l i).till), rows St.cells 22 1 A3 q3 (T.set k (⟨A84_2, q84_2, (s.l ++ [({ y with A := A1, cap := q1 } : Ev)])⟩ : St)), argsS M, ros Ev.cells Al l, argsS (l.map Ev.ar)] rfl ?_
        refine To.sub [(3, .slice A3 T.length q3), (4, .map (some m14)), (5, .map (some m15)), (6, .map (some m16)), (17, .slice Al l.length cl), (18, .int .i64 ((l.length : Nat) : Int)), (19, .int .i64 ((i : Nat) : Int)), (20, .bool (decide (((i : Nat) : Int) < ((l.length : Nat) : Int)))), (8, .pointer (some ⟨b8, 0, none⟩)), (9, .pointer (some ⟨b9, 0, none⟩)), (10, .int .i64 y.rl), (11, .int .i64 ((k : Nat) : Int)), (32, .int .i64 y.rl), (33, .bool (decide (y.rl = 1))), (71, .bool (decide (((k : Nat) : Int) = ((T.length : Nat) : Int))))] ⟨rfl, rfl, rfl, rfl, rfl, rfl, rfl, rfl, rfl, rfl, rfl, rfl, rfl, rfl, rfl, trivial⟩ ?_
        refine To.blockN ?_
        refine To.thenN ?_
        refine To.reg ?_
        refine To.rd rfl rfl rfl (Rd.inc rfl rfl rfl (by omega)) ?_
        refine To.rd rfl rfl rfl (Rd.move rfl rfl) ?_
        refine To.nil ?_
        refine To.thenN ?_
        refine To.only [1, 0, 0, 0, 0, 0, 0, 0, 0, 0, 0, 0, 0] rfl ?_
        refine To.layRow ?_
        refine To.derive (argsS (M ++ [(A1, y.args)])) rfl (argsS_add 0 10 rfl rfl).1 (argsS_add 0 10 rfl rfl).2 ?_
        refine To.only [3, 3, 0, 0, 0, 0, 0, 0, 0, 0, 0, 0, 0, 0] rfl ?_
        refine To.allIn k (ch_at hs) ?_
        rw [chs_set]
        refine To.sub [(3, .slice A3 (T.set k ⟨A84_2, q84_2, s.l ++ [({ y with A := A1, cap := q1 } : Ev)]⟩).length q3), (4, .map (some m14)), (5, .map (some m15)), (6, .map (some m16)), (17, .slice Al l.length cl), (18, .int .i64 ((l.length : Nat) : Int)), (19, .int .i64 (((i + 1) : Nat) : Int))] ⟨by rw [List.length_set]; rfl, rfl, rfl, rfl, rfl, rfl, rfl, trivial⟩ ?_
        refine To.only [6, 6, 6, 6, 0, 0, 5, 5] rfl ?_
        refine To.as [mapc ekI ekI m14 ((nst l (i + 1)).next), mapc mk3 ekI m15 ((nst l (i + 1)).after), mapc mk3 ekI m16 ((nst l (i + 1)).till), rows St.cells 22 1 A3 q3 (T.set k ⟨A84_2, q84_2, s.l ++ [({ y with A := A1, cap := q1 } : Ev)]⟩), all ((T.set k ⟨A84_2, q84_2, s.l ++ [({ y with A := A1, cap := q1 } : Ev)]⟩).map St.ch), argsS (M ++ [(A1, y.args)]), ros Ev.cells Al l, argsS (l.map Ev.ar)] (by rw [nst_next hy hat, nst_after1 hy hat c33, nst_till0 hy (by omega)]) ?_
        refine To.again (l.length - (i + 1)) (by omega) ⟨i + 1, T.set k ⟨A84_2, q84_2, s.l ++ [({ y with A := A1, cap := q1 } : Ev)]⟩, M ++ [(A1, y.args)], A3, q3, rfl, rfl, rfl, (by omega), (by rw [nst_steps hy hat]; exact vals_put hT hs c71 rfl), (all_set hs hM (fun e h => List.mem_append_left _ h) (fun e he => (List.mem_append.1 he).elim .inl (fun h => .inr (by rw [List.mem_singleton.1 h]; exact List.mem_append_right _ (List.mem_singleton.2 rfl))))), (all_set hs hA (fun e h => h) (fun e he => (List.mem_append.1 he).elim .inl (fun h => .inr (by rw [List.mem_singleton.1 h]; exact ha y (List.mem_of_getElem? hy))))), (cnt_set hn hs)⟩
    ·
      refine To.seq ?_
      refine To.reg ?_
      refine To.rd rfl rfl rfl (Rd.eql rfl rfl rfl) ?_
      refine To.rd rfl rfl rfl (Rd.assign rfl rfl) ?_
      refine To.nil ?_
      refine To.sub [(3, .slice A3 T.length q3), (4, .map (some m14)), (5, .map (some m15)), (6, .map (some m16)), (17, .slice Al l.length cl), (18, .int .i64 ((l.length : Nat) : Int)), (19, .int .i64 ((i : Nat) : Int)), (20, .bool (decide (((i : Nat) : Int) < ((l.length : Nat) : Int)))), (8, .pointer (some ⟨b8, 0, none⟩)), (9, .pointer (some ⟨b9, 0, none⟩)), (10, .int .i64 y.rl), (11, .int .i64 ((aget ((nst l i).next) y.c).getD 0)), (32, .int .i64 y.rl), (33, .bool (decide (y.rl = 1))), (48, .bool (decide (y.rl = 2)))] ⟨rfl, rfl, rfl, rfl, rfl, rfl, rfl, rfl, rfl, rfl, rfl, rfl, rfl, rfl, rfl, trivial⟩ ?_
      refine To.thenN ?_
      refine To.condP rfl (fun c48 => ?_) (fun c48 => ?_)
      ·
        refine To.seq ?_
        refine To.reg ?_
        refine To.rd rfl rfl rfl (Rd.move rfl rfl) ?_
        refine To.rd rfl rfl rfl (Rd.move rfl rfl) ?_
        refine To.rd rfl rfl rfl (Rd.loadS (i := 0) rfl rfl r55 rfl box_whole rfl) ?_
        refine To.rd rfl rfl rfl (Rd.as (v' := .int .i64 ((aget ((nst l i).after) y.key).getD 0)) rfl (Rd.lookup (i := 3) (k := y.key) (m := ((nst l i).after)) keyM 0 rfl Try.underlying53 zv3 rfl rfl rfl)) ?_
        refine To.rd rfl rfl rfl (Rd.max rfl rfl rfl) ?_
        refine To.rd rfl rfl rfl (Rd.assign rfl rfl) ?_
        refine To.nil ?_
        refine To.thenN ?_
        have hk0 : max ((aget ((nst l i).next) y.c).getD 0) ((aget ((nst l i).after) y.key).getD 0) = ((k : Nat) : Int) := by rw [← hat]; simp [NS.at_, c33, c48]
        refine To.sub [(3, .slice A3 T.length q3), (4, .map (some m14)), (5, .map (some m15)), (6, .map (some m16)), (17, .slice Al l.length cl), (18, .int .i64 ((l.length : Nat) : Int)), (19, .int .i64 ((i : Nat) : Int)), (20, .bool (decide (((i : Nat) : Int) < ((l.length : Nat) : Int)))), (8, .pointer (some ⟨b8, 0, none⟩)), (9, .pointer (some ⟨b9, 0, none⟩)), (10, .int .i64 y.rl), (11, .int .i64 ((k : Nat) : Int)), (32, .int .i64 y.rl), (33, .bool (decide (y.rl = 1))), (48, .bool (decide (y.rl = 2)))] ⟨rfl, rfl, rfl, rfl, rfl, rfl, rfl, rfl, rfl, rfl, rfl, congrArg (fun z => some (Value.int .i64 z)) hk0, rfl, rfl, rfl, trivial⟩ ?_
        refine To.flow [] [⟨0, [], 0⟩, ⟨2, [], 0⟩, ⟨5, [], 0⟩, ⟨6, [], 0⟩, ⟨1, [], 1⟩, ⟨3, [], 1⟩, ⟨4, [], 1⟩, ⟨7, [], 0⟩, ⟨8, [], 5⟩] mixed (by kernel_rfl) (oks_nil _) ?_
        refine FlowS.free rfl rfl rfl rfl (Rd.move rfl rfl) ?_
        refine FlowS.free rfl rfl rfl rfl (Rd.move rfl rfl) ?_
        refine FlowS.free rfl rfl rfl rfl (Rd.move rfl rfl) ?_
        refine FlowS.free rfl rfl rfl rfl (Rd.inc rfl rfl rfl (by omega)) ?_
        refine FlowS.rd rfl rfl rfl rfl (Rd.loadS (i := 0) rfl rfl r55 rfl box_whole rfl) ?_
        refine FlowS.rd rfl rfl rfl rfl (Rd.loadS (i := 0) rfl rfl r55 rfl box_whole rfl) ?_
        refine FlowS.rd rfl rfl rfl rfl (Rd.as (v' := .int .i64 ((aget ((nst l i).till) y.key).getD 0)) rfl (Rd.lookup (i := 4) (k := y.key) (m := ((nst l i).till)) keyM 0 rfl Try.underlying53 zv3 rfl rfl rfl)) ?_
        refine FlowS.free rfl rfl rfl rfl (Rd.max rfl rfl rfl) ?_
        refine FlowS.up (Γ' := [box b9 [.int .i64 y.key.1, .int .i64 y.key.2.1, .int .i64 y.key.2.2] 55, box b8 [.int .i64 y.t, .int .i64 y.c, .int .u8 y.k, .int .i64 y.p, .int .i64 y.n, .int .i64 y.cp, .int .i64 y.h, .int .i64 y.d, .slice y.A y.args.length y.cap] 37, mapc ekI ekI m14 ((nst l i).next), mapc mk3 ekI m15 ((nst l i).after), mapc mk3 ekI m16 (aset ((nst l i).till) y.key (max ((aget ((nst l i).till) y.key).getD 0) ((k + 1 : Nat) : Int))), rows St.cells 22 1 A3 q3 T, all (T.map St.ch), argsS M, ros Ev.cells Al l, argsS (l.map Ev.ar)]) rfl rfl rfl (Up.mapUpdate (i := 4) (k := y.key) (v := (max ((aget ((nst l i).till) y.key).getD 0) ((k + 1 : Nat) : Int))) (m := ((nst l i).till)) keyM rfl Try.underlying53 rfl rfl rfl rfl) (oks_nil _) ?_
        refine FlowS.fin ?_
        refine To.as [box b9 [.int .i64 y.key.1, .int .i64 y.key.2.1, .int .i64 y.key.2.2] 55, box b8 [.int .i64 y.t, .int .i64 y.c, .int .u8 y.k, .int .i64 y.p, .int .i64 y.n, .int .i64 y.cp, .int .i64 y.h, .int .i64 y.d, .slice y.A y.args.length y.cap] 37, mapc ekI ekI m14 ((nst l i).next), mapc mk3 ekI m15 ((nst l i).after), mapc mk3 ekI m16 (aset ((nst l i).till) y.key (max ((aget ((nst l i).till) y.key).getD 0) ((k + 1 : Nat) : Int))), rows St.cells 22 1 A3 q3 T, all (T.map St.ch), argsS M, ros Ev.cells Al l, argsS (l.map Ev.ar)] rfl ?_
        refine To.blockN ?_
        refine To.thenN ?_
        refine To.seq ?_
        refine To.reg ?_
        refine To.rd rfl rfl rfl (Rd.move rfl rfl) ?_
        refine To.rd rfl rfl rfl (Rd.field rfl rfl fl37_1) ?_
        refine To.rd rfl rfl rfl (Rd.load (i := 1) rfl rfl c3 rfl (box_gives1 rfl)) ?_
        refine To.rd rfl rfl rfl (Rd.move rfl rfl) ?_
        refine To.rd rfl rfl rfl (Rd.inc rfl rfl rfl (by omega)) ?_
        refine To.up rfl rfl (Up.mapUpdate (i := 2) (k := y.c) (v := ((k + 1 : Nat) : Int)) (m := ((nst l i).next)) keyI rfl Try.underlying52 rfl rfl rfl rfl) ?_
        refine To.nil ?_
        refine To.sub [(3, .slice A3 T.length q3), (4, .map (some m14)), (5, .map (some m15)), (6, .map (some m16)), (17, .slice Al l.length cl), (18, .int .i64 ((l.length : Nat) : Int)), (19, .int .i64 ((i : Nat) : Int)), (20, .bool (decide (((i : Nat) : Int) < ((l.length : Nat) : Int)))), (8, .pointer (some ⟨b8, 0, none⟩)), (9, .pointer (some ⟨b9, 0, none⟩)), (10, .int .i64 y.rl), (11, .int .i64 ((k : Nat) : Int)), (32, .int .i64 y.rl), (33, .bool (decide (y.rl = 1))), (48, .bool (decide (y.rl = 2)))] ⟨rfl, rfl, rfl, rfl, rfl, rfl, rfl, rfl, rfl, rfl, rfl, rfl, rfl, rfl, rfl, trivial⟩ ?_
        refine To.thenN ?_
        refine To.seq ?_
        refine To.seq ?_
        refine To.reg ?_
        refine To.rd rfl rfl rfl (Rd.move rfl rfl) ?_
        refine To.rd rfl rfl rfl (Rd.move rfl rfl) ?_
        refine To.rd rfl rfl rfl (Rd.len rfl rfl Try.underlying26) ?_
        refine To.rd rfl rfl rfl (Rd.eql rfl rfl rfl) ?_
        refine To.nil ?_
        refine To.thenN ?_
        refine To.condP rfl (fun c71 => ?_) (fun c71 => ?_)
        ·
          refine To.reg ?_
          refine To.rd rfl rfl rfl (Rd.move rfl rfl) ?_
          refine To.mk rfl rfl rfl (Mk.sliceN (us := [.slice none 0 0]) rfl s26 rfl rfl rfl rfl rfl rfl) ?_
          rintro _ _ ⟨b73_2, rfl, rfl⟩
          refine To.as [row 22 1 (some ⟨b73_2, 0, none⟩) 1 1 [.slice none 0 0], box b9 [.int .i64 y.key.1, .int .i64 y.key.2.1, .int .i64 y.key.2.2] 55, box b8 [.int .i64 y.t, .int .i64 y.c, .int .u8 y.k, .int .i64 y.p, .int .i64 y.n, .int .i64 y.cp, .int .i64 y.h, .int .i64 y.d, .slice y.A y.args.length y.cap] 37, mapc ekI ekI m14 (aset ((nst l i).next) y.c ((k + 1 : Nat) : Int)), mapc mk3 ekI m15 ((nst l i).after), mapc mk3 ekI m16 (aset ((nst l i).till) y.key (max ((aget ((nst l i).till) y.key).getD 0) ((k + 1 : Nat) : Int))), rows St.cells 22 1 A3 q3 T, all (T.map St.ch), argsS M, ros Ev.cells Al l, argsS (l.map Ev.ar)] rfl ?_
          refine To.ge rfl rfl rfl (Ge.append1 encS (i := 6) (j := 0) (el := St.nil) rfl s26 rfl rfl rfl rfl rfl (by first | omega | (simp only [List.length_append, List.length_cons, List.length_nil]; omega)) (by first | omega | (simp only [List.length_append, List.length_cons, List.length_nil]; omega))) ?_
          rintro _ _ ⟨A74_2, q74_2, rfl, rfl⟩
          refine To.as [row 22 1 (some ⟨b73_2, 0, none⟩) 1 1 [.slice none 0 0], box b9 [.int .i64 y.key.1, .int .i64 y.key.2.1, .int .i64 y.key.2.2] 55, box b8 [.int .i64 y.t, .int .i64 y.c, .int .u8 y.k, .int .i64 y.p, .int .i64 y.n, .int .i64 y.cp, .int .i64 y.h, .int .i64 y.d, .slice y.A y.args.length y.cap] 37, mapc ekI ekI m14 (aset ((nst l i).next) y.c ((k + 1 : Nat) : Int)), mapc mk3 ekI m15 ((nst l i).after), mapc mk3 ekI m16 (aset ((nst l i).till) y.key (max ((aget ((nst l i).till) y.key).getD 0) ((k + 1 : Nat) : Int))), rows St.cells 22 1 A74_2 q74_2 (T ++ [St.nil]), all (T.map St.ch), argsS M, ros Ev.cells Al l, argsS (l.map Ev.ar)] rfl ?_
          refine To.rd rfl rfl rfl (Rd.assign rfl rfl) ?_
          refine To.nil ?_
          refine To.thenN ?_
          refine To.only [7, 0, 0, 0, 0, 0, 0, 0, 0, 0, 0] rfl ?_
          refine To.nilRow Ev.cells 37 9 (To.allPush ?_)
          rw [chs_push]
          have hs := at_last T St.nil (k := k) (by omega)
          have hk2 : k < (T ++ [St.nil]).length := by simp; omega
          have hk1 : k ≤ (T ++ [St.nil]).length := by omega
          have hsl : St.nil.l.length = 0 := rfl
          refine To.allOut k (ch_at hs) ?_
          refine To.flow [] [⟨0, [], 0⟩, ⟨1, [], 0⟩, ⟨2, [], 0⟩, ⟨3, [], 0⟩, ⟨6, [], 1⟩, ⟨7, [], 4⟩, ⟨4, [], 1⟩, ⟨5, [], 1⟩, ⟨8, [7], 2⟩, ⟨9, [7, 8], 5⟩, ⟨10, [], 1⟩, ⟨11, [], 5⟩] mixed (by kernel_rfl) (oks_nil _) ?_
          refine FlowS.free rfl rfl rfl rfl (Rd.move rfl rfl) ?_
          refine FlowS.free rfl rfl rfl rfl (Rd.move rfl rfl) ?_
          refine FlowS.free rfl rfl rfl rfl (Rd.move rfl rfl) ?_
          refine FlowS.free rfl rfl rfl rfl (Rd.move rfl rfl) ?_
          refine FlowS.rd rfl rfl rfl rfl (Rd.loadS (i := 4) rfl rfl r37 rfl box_whole rfl) ?_
          refine FlowS.callM rfl rfl rfl rfl rfl (Ent.fn rfl rfl ca34) (clone_fn y (ha y (List.mem_of_getElem? hy))) rfl (oks_cons (oks_S 11 rfl (mem_at hy Ev.ar)) (oks_nil _)) ?_
          rintro _ _ ⟨A1, q1, rfl, rfl⟩
          refine ⟨rfl, ?_⟩
          refine FlowS.rd rfl rfl rfl rfl (Rd.indexRows (i := 8) (j := k) rfl rfl rfl s26 rfl hs) ?_
          refine FlowS.rd rfl rfl rfl rfl (Rd.load (i := 8) rfl rfl c22 rfl (gives_1 (rows_gives encS hs) rfl)) ?_
          refine FlowS.mk rfl rfl rfl rfl rfl (Mk.sliceN (us := [.int .i64 (({ y with A := A1, cap := q1 } : Ev).t), .int .i64 (({ y with A := A1, cap := q1 } : Ev).c), .int .u8 (({ y with A := A1, cap := q1 } : Ev).k), .int .i64 (({ y with A := A1, cap := q1 } : Ev).p), .int .i64 (({ y with A := A1, cap := q1 } : Ev).n), .int .i64 (({ y with A := A1, cap := q1 } : Ev).cp), .int .i64 (({ y with A := A1, cap := q1 } : Ev).h), .int .i64 (({ y with A := A1, cap := q1 } : Ev).d), .slice (({ y with A := A1, cap := q1 } : Ev).A) (({ y with A := A1, cap := q1 } : Ev).args.length) (({ y with A := A1, cap := q1 } : Ev).cap)]) rfl s22 rfl rfl rfl rfl rfl rfl) ?_
          rintro _ _ ⟨b83_3, rfl, rfl⟩
          refine FlowS.ge rfl rfl rfl rfl (Ge.append1 encE (i := 2) (j := 0) (el := ({ y with A := A1, cap := q1 } : Ev)) rfl s22 rfl rfl rfl rfl rfl (by first | omega | (simp only [List.length_append, List.length_cons, List.length_nil]; omega)) (by first | omega | (simp only [List.length_append, List.length_cons, List.length_nil]; omega))) ?_
          rintro _ _ ⟨A84_3, q84_3, rfl, rfl⟩
          refine ⟨oks_nil _, ?_⟩
          refine FlowS.rd rfl rfl rfl rfl (Rd.indexRows (i := 10) (j := k) rfl rfl rfl s26 rfl hs) ?_
          refine FlowS.up (Γ' := [row 37 9 (some ⟨b83_3, 0, none⟩) 1 1 [.int .i64 (({ y with A := A1, cap := q1 } : Ev).t), .int .i64 (({ y with A := A1, cap := q1 } : Ev).c), .int .u8 (({ y with A := A1, cap := q1 } : Ev).k), .int .i64 (({ y with A := A1, cap := q1 } : Ev).p), .int .i64 (({ y with A := A1, cap := q1 } : Ev).n), .int .i64 (({ y with A := A1, cap := q1 } : Ev).cp), .int .i64 (({ y with A := A1, cap := q1 } : Ev).h), .int .i64 (({ y with A := A1, cap := q1 } : Ev).d), .slice (({ y with A := A1, cap := q1 } : Ev).A) (({ y with A := A1, cap := q1 } : Ev).args.length) (({ y with A := A1, cap := q1 } : Ev).cap)], rows encI 2 1 A1 q1 y.args, rows Ev.cells 37 9 A84_3 q84_3 (St.nil.l ++ [({ y with A := A1, cap := q1 } : Ev)]), all (((T ++ [St.nil]).map St.ch).eraseIdx k), row 22 1 (some ⟨b73_2, 0, none⟩) 1 1 [.slice none 0 0], box b9 [.int .i64 y.key.1, .int .i64 y.key.2.1, .int .i64 y.key.2.2] 55, box b8 [.int .i64 y.t, .int .i64 y.c, .int .u8 y.k, .int .i64 y.p, .int .i64 y.n, .int .i64 y.cp, .int .i64 y.h, .int .i64 y.d, .slice y.A y.args.length y.cap] 37, mapc ekI ekI m14 (aset ((nst l i).next) y.c ((k + 1 : Nat) : Int)), mapc mk3 ekI m15 ((nst l i).after), mapc mk3 ekI m16 (aset ((nst l i).till) y.key (max ((aget ((nst l i).till) y.key).getD 0) ((k + 1 : Nat) : Int))), rows St.cells 22 1 A74_2 q74_2 ((T ++ [St.nil]).set k (⟨A84_3, q84_3, (St.nil.l ++ [({ y with A := A1, cap := q1 } : Ev)])⟩ : St)), argsS M, ros Ev.cells Al l, argsS (l.map Ev.ar)]) rfl rfl rfl (Up.store (i := 10) rfl rfl rfl c22 rfl rfl (rows_takes encS (y := (⟨A84_3, q84_3, (St.nil.l ++ [({ y with A := A1, cap := q1 } : Ev)])⟩ : St)) (by decide) (by omega))) (oks_nil _) ?_
          refine FlowS.fin ?_
          refine To.as [row 37 9 (some ⟨b83_3, 0, none⟩) 1 1 [.int .i64 (({ y with A := A1, cap := q1 } : Ev).t), .int .i64 (({ y with A := A1, cap := q1 } : Ev).c), .int .u8 (({ y with A := A1, cap := q1 } : Ev).k), .int .i64 (({ y with A := A1, cap := q1 } : Ev).p), .int .i64 (({ y with A := A1, cap := q1 } : Ev).n), .int .i64 (({ y with A := A1, cap := q1 } : Ev).cp), .int .i64 (({ y with A := A1, cap := q1 } : Ev).h), .int .i64 (({ y with A := A1, cap := q1 } : Ev).d), .slice (({ y with A := A1, cap := q1 } : Ev).A) (({ y with A := A1, cap := q1 } : Ev).args.length) (({ y with A := A1, cap := q1 } : Ev).cap)], rows encI 2 1 A1 q1 y.args, rows Ev.cells 37 9 A84_3 q84_3 (St.nil.l ++ [({ y with A := A1, cap := q1 } : Ev)]), all (((T ++ [St.nil]).map St.ch).eraseIdx k), row 22 1 (some ⟨b73_2, 0, none⟩) 1 1 [.slice none 0 0], box b9 [.int .i64 y.key.1, .int .i64 y.key.2.1, .int .i64 y.key.2.2] 55, box b8 [.int .i64 y.t, .int .i64 y.c, .int .u8 y.k, .int .i64 y.p, .int .i64 y.n, .int .i64 y.cp, .int .i64 y.h, .int .i64 y.d, .slice y.A y.args.length y.cap] 37, mapc ekI ekI m14 (aset ((nst l i).next) y.c ((k + 1 : Nat) : Int)), mapc mk3 ekI m15 ((nst l i).after), mapc mk3 ekI m16 (aset ((nst l i).till) y.key (max ((aget ((nst l i).till) y.key).getD 0) ((k + 1 : Nat) : Int))), rows St.cells 22 1 A74_2 q74_2 ((T ++ [St.nil]).set k (⟨A84_3, q84_3, (St.nil.l ++ [({ y with A := A1, cap := q1 } : Ev)])⟩ : St)), argsS M, ros Ev.cells Al l, argsS (l.map Ev.ar)] rfl ?_
          refine To.sub [(3, .slice A74_2 ((T ++ [St.nil]).length) q74_2), (4, .map (some m14)), (5, .map (some m15)), (6, .map (some m16)), (17, .slice Al l.length cl), (18, .int .i64 ((l.length : Nat) : Int)), (19, .int .i64 ((i : Nat) : Int)), (20, .bool (decide (((i : Nat) : Int) < ((l.length : Nat) : Int)))), (8, .pointer (some ⟨b8, 0, none⟩)), (9, .pointer (some ⟨b9, 0, none⟩)), (10, .int .i64 y.rl), (11, .int .i64 ((k : Nat) : Int)), (32, .int .i64 y.rl), (33, .bool (decide (y.rl = 1))), (48, .bool (decide (y.rl = 2))), (71, .bool (decide (((k : Nat) : Int) = ((T.length : Nat) : Int))))] ⟨rfl, rfl, rfl, rfl, rfl, rfl, rfl, rfl, rfl, rfl, rfl, rfl, rfl, rfl, rfl, rfl, trivial⟩ ?_
          refine To.blockN ?_
          refine To.thenN ?_
          refine To.reg ?_
          refine To.rd rfl rfl rfl (Rd.inc rfl rfl rfl (by omega)) ?_
          refine To.rd rfl rfl rfl (Rd.move rfl rfl) ?_
          refine To.nil ?_
          refine To.thenN ?_
          refine To.only [1, 0, 0, 0, 0, 0, 0, 0, 0, 0, 0, 0, 0, 0] rfl ?_
          refine To.layRow ?_
          refine To.derive (argsS (M ++ [(A1, y.args)])) rfl (argsS_add 0 11 rfl rfl).1 (argsS_add 0 11 rfl rfl).2 ?_
          refine To.only [3, 3, 0, 0, 0, 0, 0, 0, 0, 0, 0, 0, 0, 0, 0] rfl ?_
          refine To.allIn k (ch_at hs) ?_
          rw [chs_set]
          refine To.sub [(3, .slice A74_2 ((T ++ [St.nil]).set k ⟨A84_3, q84_3, St.nil.l ++ [({ y with A := A1, cap := q1 } : Ev)]⟩).length q74_2), (4, .map (some m14)), (5, .map (some m15)), (6, .map (some m16)), (17, .slice Al l.length cl), (18, .int .i64 ((l.length : Nat) : Int)), (19, .int .i64 (((i + 1) : Nat) : Int))] ⟨by rw [List.length_set]; rfl, rfl, rfl, rfl, rfl, rfl, rfl, trivial⟩ ?_
          refine To.only [7, 7, 7, 7, 0, 0, 6, 6] rfl ?_
          refine To.as [mapc ekI ekI m14 ((nst l (i + 1)).next), mapc mk3 ekI m15 ((nst l (i + 1)).after), mapc mk3 ekI m16 ((nst l (i + 1)).till), rows St.cells 22 1 A74_2 q74_2 ((T ++ [St.nil]).set k ⟨A84_3, q84_3, St.nil.l ++ [({ y with A := A1, cap := q1 } : Ev)]⟩), all (((T ++ [St.nil]).set k ⟨A84_3, q84_3, St.nil.l ++ [({ y with A := A1, cap := q1 } : Ev)]⟩).map St.ch), argsS (M ++ [(A1, y.args)]), ros Ev.cells Al l, argsS (l.map Ev.ar)] (by rw [nst_next hy hat, nst_after0 hy c33, nst_till1 hy hat c48]) ?_
          refine To.again (l.length - (i + 1)) (by omega) ⟨i + 1, (T ++ [St.nil]).set k ⟨A84_3, q84_3, St.nil.l ++ [({ y with A := A1, cap := q1 } : Ev)]⟩, M ++ [(A1, y.args)], A74_2, q74_2, rfl, rfl, rfl, (by omega), (by rw [nst_steps hy hat]; exact vals_new hT c71 rfl), (all_set hs (all_push hM) (fun e h => List.mem_append_left _ h) (fun e he => (List.mem_append.1 he).elim .inl (fun h => .inr (by rw [List.mem_singleton.1 h]; exact List.mem_append_right _ (List.mem_singleton.2 rfl))))), (all_set hs (all_push hA) (fun e h => h) (fun e he => (List.mem_append.1 he).elim .inl (fun h => .inr (by rw [List.mem_singleton.1 h]; exact ha y (List.mem_of_getElem? hy))))), (cnt_setN hn c71)⟩
        ·
          refine To.skip ?_
          refine To.thenN ?_
          obtain ⟨s, hs⟩ : ∃ z0, T[k]? = some z0 := ⟨T[k]'(by omega), List.getElem?_eq_getElem _⟩
          have hsl : s.l.length ≤ 1000000 := hb s (List.mem_of_getElem? hs)
          refine To.only [6, 0, 0, 0, 0, 0, 0, 0, 0, 0] rfl ?_
          refine To.allOut k (ch_at hs) ?_
          refine To.flow [] [⟨0, [], 0⟩, ⟨1, [], 0⟩, ⟨2, [], 0⟩, ⟨3, [], 0⟩, ⟨6, [], 1⟩, ⟨7, [], 4⟩, ⟨4, [], 1⟩, ⟨5, [], 1⟩, ⟨8, [7], 2⟩, ⟨9, [7, 8], 5⟩, ⟨10, [], 1⟩, ⟨11, [], 5⟩] mixed (by kernel_rfl) (oks_nil _) ?_
          refine FlowS.free rfl rfl rfl rfl (Rd.move rfl rfl) ?_
          refine FlowS.free rfl rfl rfl rfl (Rd.move rfl rfl) ?_
          refine FlowS.free rfl rfl rfl rfl (Rd.move rfl rfl) ?_
          refine FlowS.free rfl rfl rfl rfl (Rd.move rfl rfl) ?_
          refine FlowS.rd rfl rfl rfl rfl (Rd.loadS (i := 3) rfl rfl r37 rfl box_whole rfl) ?_
          refine FlowS.callM rfl rfl rfl rfl rfl (Ent.fn rfl rfl ca34) (clone_fn y (ha y (List.mem_of_getElem? hy))) rfl (oks_cons (oks_S 10 rfl (mem_at hy Ev.ar)) (oks_nil _)) ?_
          rintro _ _ ⟨A1, q1, rfl, rfl⟩
          refine ⟨rfl, ?_⟩
          refine FlowS.rd rfl rfl rfl rfl (Rd.indexRows (i := 7) (j := k) rfl rfl rfl s26 rfl hs) ?_
          refine FlowS.rd rfl rfl rfl rfl (Rd.load (i := 7) rfl rfl c22 rfl (gives_1 (rows_gives encS hs) rfl)) ?_
          refine FlowS.mk rfl rfl rfl rfl rfl (Mk.sliceN (us := [.int .i64 (({ y with A := A1, cap := q1 } : Ev).t), .int .i64 (({ y with A := A1, cap := q1 } : Ev).c), .int .u8 (({ y with A := A1, cap := q1 } : Ev).k), .int .i64 (({ y with A := A1, cap := q1 } : Ev).p), .int .i64 (({ y with A := A1, cap := q1 } : Ev).n), .int .i64 (({ y with A := A1, cap := q1 } : Ev).cp), .int .i64 (({ y with A := A1, cap := q1 } : Ev).h), .int .i64 (({ y with A := A1, cap := q1 } : Ev).d), .slice (({ y with A := A1, cap := q1 } : Ev).A) (({ y with A := A1, cap := q1 } : Ev).args.length) (({ y with A := A1, cap := q1 } : Ev).cap)]) rfl s22 rfl rfl rfl rfl rfl rfl) ?_
          rintro _ _ ⟨b83_4, rfl, rfl⟩
          refine FlowS.ge rfl rfl rfl rfl (Ge.append1 encE (i := 2) (j := 0) (el := ({ y with A := A1, cap := q1 } : Ev)) rfl s22 rfl rfl rfl rfl rfl (by first | omega | (simp only [List.length_append, List.length_cons, List.length_nil]; omega)) (by first | omega | (simp only [List.length_append, List.length_cons, List.length_nil]; omega))) ?_
          rintro _ _ ⟨A84_4, q84_4, rfl, rfl⟩
          refine ⟨oks_nil _, ?_⟩
          refine FlowS.rd rfl rfl rfl rfl (Rd.indexRows (i := 9) (j := k) rfl rfl rfl s26 rfl hs) ?_
          refine FlowS.up (Γ' := [row 37 9 (some ⟨b83_4, 0, none⟩) 1 1 [.int .i64 (({ y with A := A1, cap := q1 } : Ev).t), .int .i64 (({ y with A := A1, cap := q1 } : Ev).c), .int .u8 (({ y with A := A1, cap := q1 } : Ev).k), .int .i64 (({ y with A := A1, cap := q1 } : Ev).p), .int .i64 (({ y with A := A1, cap := q1 } : Ev).n), .int .i64 (({ y with A := A1, cap := q1 } : Ev).cp), .int .i64 (({ y with A := A1, cap := q1 } : Ev).h), .int .i64 (({ y with A := A1, cap := q1 } : Ev).d), .slice (({ y with A := A1, cap := q1 } : Ev).A) (({ y with A := A1, cap := q1 } : Ev).args.length) (({ y with A := A1, cap := q1 } : Ev).cap)], rows encI 2 1 A1 q1 y.args, rows Ev.cells 37 9 A84_4 q84_4 (s.l ++ [({ y with A := A1, cap := q1 } : Ev)]), all ((T.map St.ch).eraseIdx k), box b9 [.int .i64 y.key.1, .int .i64 y.key.2.1, .int .i64 y.key.2.2] 55, box b8 [.int .i64 y.t, .int .i64 y.c, .int .u8 y.k, .int .i64 y.p, .int .i64 y.n, .int .i64 y.cp, .int .i64 y.h, .int .i64 y.d, .slice y.A y.args.length y.cap] 37, mapc ekI ekI m14 (aset ((nst l i).next) y.c ((k + 1 : Nat) : Int)), mapc mk3 ekI m15 ((nst l i).after), mapc mk3 ekI m16 (aset ((nst l i).till) y.key (max ((aget ((nst l i).till) y.key).getD 0) ((k + 1 : Nat) : Int))), rows St.cells 22 1 A3 q3 (T.set k (⟨A84_4, q84_4, (s.l ++ [({ y with A := A1, cap := q1 } : Ev)])⟩ : St)), argsS M, ros Ev.cells Al l, argsS (l.map Ev.ar)]) rfl rfl rfl (Up.store (i := 9) rfl rfl rfl c22 rfl rfl (rows_takes encS (y := (⟨A84_4, q84_4, (s.l ++ [({ y with A := A1, cap := q1 } : Ev)])⟩ : St)) (by decide) (by omega))) (oks_nil _) ?_
          refine FlowS.fin ?_
          refine To.as [row 37 9 (some ⟨b83_4, 0, none⟩) 1 1 [.int .i64 (({ y with A := A1, cap := q1 } : Ev).t), .int .i64 (({ y with A := A1, cap := q1 } : Ev).c), .int .u8 (({ y with A := A1, cap := q1 } : Ev).k), .int .i64 (({ y with A := A1, cap := q1 } : Ev).p), .int .i64 (({ y with A := A1, cap := q1 } : Ev).n), .int .i64 (({ y with A := A1, cap := q1 } : Ev).cp), .int .i64 (({ y with A := A1, cap := q1 } : Ev).h), .int .i64 (({ y with A := A1, cap := q1 } : Ev).d), .slice (({ y with A := A1, cap := q1 } : Ev).A) (({ y with A := A1, cap := q1 } : Ev).args.length) (({ y with A := A1, cap := q1 } : Ev).cap)], rows encI 2 1 A1 q1 y.args, rows Ev.cells 37 9 A84_4 q84_4 (s.l ++ [({ y with A := A1, cap := q1 } : Ev)]), all ((T.map St.ch).eraseIdx k), box b9 [.int .i64 y.key.1, .int .i64 y.key.2.1, .int .i64 y.key.2.2] 55, box b8 [.int .i64 y.t, .int .i64 y.c, .int .u8 y.k, .int .i64 y.p, .int .i64 y.n, .int .i64 y.cp, .int .i64 y.h, .int .i64 y.d, .slice y.A y.args.length y.cap] 37, mapc ekI ekI m14 (aset ((nst l i).next) y.c ((k + 1 : Nat) : Int)), mapc mk3 ekI m15 ((nst l i).after), mapc mk3 ekI m16 (aset ((nst l i).till) y.key (max ((aget ((nst l i).till) y.key).getD 0) ((k + 1 : Nat) : Int))), rows St.cells 22 1 A3 q3 (T.set k (⟨A84_4, q84_4, (s.l ++ [({ y with A := A1, cap := q1 } : Ev)])⟩ : St)), argsS M, ros Ev.cells Al l, argsS (l.map Ev.ar)] rfl ?_
          refine To.sub [(3, .slice A3 T.length q3), (4, .map (some m14)), (5, .map (some m15)), (6, .map (some m16)), (17, .slice Al l.length cl), (18, .int .i64 ((l.length : Nat) : Int)), (19, .int .i64 ((i : Nat) : Int)), (20, .bool (decide (((i : Nat) : Int) < ((l.length : Nat) : Int)))), (8, .pointer (some ⟨b8, 0, none⟩)), (9, .pointer (some ⟨b9, 0, none⟩)), (10, .int .i64 y.rl), (11, .int .i64 ((k : Nat) : Int)), (32, .int .i64 y.rl), (33, .bool (decide (y.rl = 1))), (48, .bool (decide (y.rl = 2))), (71, .bool (decide (((k : Nat) : Int) = ((T.length : Nat) : Int))))] ⟨rfl, rfl, rfl, rfl, rfl, rfl, rfl, rfl, rfl, rfl, rfl, rfl, rfl, rfl, rfl, rfl, trivial⟩ ?_
          refine To.blockN ?_
          refine To.thenN ?_
          refine To.reg ?_
          refine To.rd rfl rfl rfl (Rd.inc rfl rfl rfl (by omega)) ?_
          refine To.rd rfl rfl rfl (Rd.move rfl rfl) ?_
          refine To.nil ?_
          refine To.thenN ?_
          refine To.only [1, 0, 0, 0, 0, 0, 0, 0, 0, 0, 0, 0, 0] rfl ?_
          refine To.layRow ?_
          refine To.derive (argsS (M ++ [(A1, y.args)])) rfl (argsS_add 0 10 rfl rfl).1 (argsS_add 0 10 rfl rfl).2 ?_
          refine To.only [3, 3, 0, 0, 0, 0, 0, 0, 0, 0, 0, 0, 0, 0] rfl ?_
          refine To.allIn k (ch_at hs) ?_
          rw [chs_set]
          refine To.sub [(3, .slice A3 (T.set k ⟨A84_4, q84_4, s.l ++ [({ y with A := A1, cap := q1 } : Ev)]⟩).length q3), (4, .map (some m14)), (5, .map (some m15)), (6, .map (some m16)), (17, .slice Al l.length cl), (18, .int .i64 ((l.length : Nat) : Int)), (19, .int .i64 (((i + 1) : Nat) : Int))] ⟨by rw [List.length_set]; rfl, rfl, rfl, rfl, rfl, rfl, rfl, trivial⟩ ?_
          refine To.only [6, 6, 6, 6, 0, 0, 5, 5] rfl ?_
          refine To.as [mapc ekI ekI m14 ((nst l (i + 1)).next), mapc mk3 ekI m15 ((nst l (i + 1)).after), mapc mk3 ekI m16 ((nst l (i + 1)).till), rows St.cells 22 1 A3 q3 (T.set k ⟨A84_4, q84_4, s.l ++ [({ y with A := A1, cap := q1 } : Ev)]⟩), all ((T.set k ⟨A84_4, q84_4, s.l ++ [({ y with A := A1, cap := q1 } : Ev)]⟩).map St.ch), argsS (M ++ [(A1, y.args)]), ros Ev.cells Al l, argsS (l.map Ev.ar)] (by rw [nst_next hy hat, nst_after0 hy c33, nst_till1 hy hat c48]) ?_
          refine To.again (l.length - (i + 1)) (by omega) ⟨i + 1, T.set k ⟨A84_4, q84_4, s.l ++ [({ y with A := A1, cap := q1 } : Ev)]⟩, M ++ [(A1, y.args)], A3, q3, rfl, rfl, rfl, (by omega), (by rw [nst_steps hy hat]; exact vals_put hT hs c71 rfl), (all_set hs hM (fun e h => List.mem_append_left _ h) (fun e he => (List.mem_append.1 he).elim .inl (fun h => .inr (by rw [List.mem_singleton.1 h]; exact List.mem_append_right _ (List.mem_singleton.2 rfl))))), (all_set hs hA (fun e h => h) (fun e he => (List.mem_append.1 he).elim .inl (fun h => .inr (by rw [List.mem_singleton.1 h]; exact ha y (List.mem_of_getElem? hy))))), (cnt_set hn hs)⟩
      ·
        refine To.skip ?_
        refine To.blockN ?_
        refine To.thenN ?_
        refine To.seq ?_
        have hk0 : (aget ((nst l i).next) y.c).getD 0 = ((k : Nat) : Int) := by rw [← hat]; simp [NS.at_, c33, c48]
        refine To.sub [(3, .slice A3 T.length q3), (4, .map (some m14)), (5, .map (some m15)), (6, .map (some m16)), (17, .slice Al l.length cl), (18, .int .i64 ((l.length : Nat) : Int)), (19, .int .i64 ((i : Nat) : Int)), (20, .bool (decide (((i : Nat) : Int) < ((l.length : Nat) : Int)))), (8, .pointer (some ⟨b8, 0, none⟩)), (9, .pointer (some ⟨b9, 0, none⟩)), (10, .int .i64 y.rl), (11, .int .i64 ((k : Nat) : Int)), (32, .int .i64 y.rl), (33, .bool (decide (y.rl = 1))), (48, .bool (decide (y.rl = 2)))] ⟨rfl, rfl, rfl, rfl, rfl, rfl, rfl, rfl, rfl, rfl, rfl, congrArg (fun z => some (Value.int .i64 z)) hk0, rfl, rfl, rfl, trivial⟩ ?_
        refine To.reg ?_
        refine To.rd rfl rfl rfl (Rd.move rfl rfl) ?_
        refine To.rd rfl rfl rfl (Rd.field rfl rfl fl37_1) ?_
        refine To.rd rfl rfl rfl (Rd.load (i := 1) rfl rfl c3 rfl (box_gives1 rfl)) ?_
        refine To.rd rfl rfl rfl (Rd.move rfl rfl) ?_
        refine To.rd rfl rfl rfl (Rd.inc rfl rfl rfl (by omega)) ?_
        refine To.up rfl rfl (Up.mapUpdate (i := 2) (k := y.c) (v := ((k + 1 : Nat) : Int)) (m := ((nst l i).next)) keyI rfl Try.underlying52 rfl rfl rfl rfl) ?_
        refine To.nil ?_
        refine To.thenN ?_
        refine To.seq ?_
        refine To.seq ?_
        refine To.reg ?_
        refine To.rd rfl rfl rfl (Rd.move rfl rfl) ?_
        refine To.rd rfl rfl rfl (Rd.move rfl rfl) ?_
        refine To.rd rfl rfl rfl (Rd.len rfl rfl Try.underlying26) ?_
        refine To.rd rfl rfl rfl (Rd.eql rfl rfl rfl) ?_
        refine To.nil ?_
        refine To.thenN ?_
        refine To.condP rfl (fun c71 => ?_) (fun c71 => ?_)
        ·
          refine To.reg ?_
          refine To.rd rfl rfl rfl (Rd.move rfl rfl) ?_
          refine To.mk rfl rfl rfl (Mk.sliceN (us := [.slice none 0 0]) rfl s26 rfl rfl rfl rfl rfl rfl) ?_
          rintro _ _ ⟨b73_3, rfl, rfl⟩
          refine To.as [row 22 1 (some ⟨b73_3, 0, none⟩) 1 1 [.slice none 0 0], box b9 [.int .i64 y.key.1, .int .i64 y.key.2.1, .int .i64 y.key.2.2] 55, box b8 [.int .i64 y.t, .int .i64 y.c, .int .u8 y.k, .int .i64 y.p, .int .i64 y.n, .int .i64 y.cp, .int .i64 y.h, .int .i64 y.d, .slice y.A y.args.length y.cap] 37, mapc ekI ekI m14 (aset ((nst l i).next) y.c ((k + 1 : Nat) : Int)), mapc mk3 ekI m15 ((nst l i).after), mapc mk3 ekI m16 ((nst l i).till), rows St.cells 22 1 A3 q3 T, all (T.map St.ch), argsS M, ros Ev.cells Al l, argsS (l.map Ev.ar)] rfl ?_
          refine To.ge rfl rfl rfl (Ge.append1 encS (i := 6) (j := 0) (el := St.nil) rfl s26 rfl rfl rfl rfl rfl (by first | omega | (simp only [List.length_append, List.length_cons, List.length_nil]; omega)) (by first | omega | (simp only [List.length_append, List.length_cons, List.length_nil]; omega))) ?_
          rintro _ _ ⟨A74_3, q74_3, rfl, rfl⟩
          refine To.as [row 22 1 (some ⟨b73_3, 0, none⟩) 1 1 [.slice none 0 0], box b9 [.int .i64 y.key.1, .int .i64 y.key.2.1, .int .i64 y.key.2.2] 55, box b8 [.int .i64 y.t, .int .i64 y.c, .int .u8 y.k, .int .i64 y.p, .int .i64 y.n, .int .i64 y.cp, .int .i64 y.h, .int .i64 y.d, .slice y.A y.args.length y.cap] 37, mapc ekI ekI m14 (aset ((nst l i).next) y.c ((k + 1 : Nat) : Int)), mapc mk3 ekI m15 ((nst l i).after), mapc mk3 ekI m16 ((nst l i).till), rows St.cells 22 1 A74_3 q74_3 (T ++ [St.nil]), all (T.map St.ch), argsS M, ros Ev.cells Al l, argsS (l.map Ev.ar)] rfl ?_
          refine To.rd rfl rfl rfl (Rd.assign rfl rfl) ?_
          refine To.nil ?_
          refine To.thenN ?_
          refine To.only [7, 0, 0, 0, 0, 0, 0, 0, 0, 0, 0] rfl ?_
          refine To.nilRow Ev.cells 37 9 (To.allPush ?_)
          rw [chs_push]
          have hs := at_last T St.nil (k := k) (by omega)
          have hk2 : k < (T ++ [St.nil]).length := by simp; omega
          have hk1 : k ≤ (T ++ [St.nil]).length := by omega
          have hsl : St.nil.l.length = 0 := rfl
          refine To.allOut k (ch_at hs) ?_
          refine To.flow [] [⟨0, [], 0⟩, ⟨1, [], 0⟩, ⟨2, [], 0⟩, ⟨3, [], 0⟩, ⟨6, [], 1⟩, ⟨7, [], 4⟩, ⟨4, [], 1⟩, ⟨5, [], 1⟩, ⟨8, [7], 2⟩, ⟨9, [7, 8], 5⟩, ⟨10, [], 1⟩, ⟨11, [], 5⟩] mixed (by kernel_rfl) (oks_nil _) ?_
          refine FlowS.free rfl rfl rfl rfl (Rd.move rfl rfl) ?_
          refine FlowS.free rfl rfl rfl rfl (Rd.move rfl rfl) ?_
          refine FlowS.free rfl rfl rfl rfl (Rd.move rfl rfl) ?_
          refine FlowS.free rfl rfl rfl rfl (Rd.move rfl rfl) ?_
          refine FlowS.rd rfl rfl rfl rfl (Rd.loadS (i := 4) rfl rfl r37 rfl box_whole rfl) ?_
          refine FlowS.callM rfl rfl rfl rfl rfl (Ent.fn rfl rfl ca34) (clone_fn y (ha y (List.mem_of_getElem? hy))) rfl (oks_cons (oks_S 11 rfl (mem_at hy Ev.ar)) (oks_nil _)) ?_
          rintro _ _ ⟨A1, q1, rfl, rfl⟩
          refine ⟨rfl, ?_⟩
          refine FlowS.rd rfl rfl rfl rfl (Rd.indexRows (i := 8) (j := k) rfl rfl rfl s26 rfl hs) ?_
          refine FlowS.rd rfl rfl rfl rfl (Rd.load (i := 8) rfl rfl c22 rfl (gives_1 (rows_gives encS hs) rfl)) ?_
          refine FlowS.mk rfl rfl rfl rfl rfl (Mk.sliceN (us := [.int .i64 (({ y with A := A1, cap := q1 } : Ev).t), .int .i64 (({ y with A := A1, cap := q1 } : Ev).c), .int .u8 (({ y with A := A1, cap := q1 } : Ev).k), .int .i64 (({ y with A := A1, cap := q1 } : Ev).p), .int .i64 (({ y with A := A1, cap := q1 } : Ev).n), .int .i64 (({ y with A := A1, cap := q1 } : Ev).cp), .int .i64 (({ y with A := A1, cap := q1 } : Ev).h), .int .i64 (({ y with A := A1, cap := q1 } : Ev).d), .slice (({ y with A := A1, cap := q1 } : Ev).A) (({ y with A := A1, cap := q1 } : Ev).args.length) (({ y with A := A1, cap := q1 } : Ev).cap)]) rfl s22 rfl rfl rfl rfl rfl rfl) ?_
          rintro _ _ ⟨b83_5, rfl, rfl⟩
          refine FlowS.ge rfl rfl rfl rfl (Ge.append1 encE (i := 2) (j := 0) (el := ({ y with A := A1, cap := q1 } : Ev)) rfl s22 rfl rfl rfl rfl rfl (by first | omega | (simp only [List.length_append, List.length_cons, List.length_nil]; omega)) (by first | omega | (simp only [List.length_append, List.length_cons, List.length_nil]; omega))) ?_
          rintro _ _ ⟨A84_5, q84_5, rfl, rfl⟩
          refine ⟨oks_nil _, ?_⟩
          refine FlowS.rd rfl rfl rfl rfl (Rd.indexRows (i := 10) (j := k) rfl rfl rfl s26 rfl hs) ?_
          refine FlowS.up (Γ' := [row 37 9 (some ⟨b83_5, 0, none⟩) 1 1 [.int .i64 (({ y with A := A1, cap := q1 } : Ev).t), .int .i64 (({ y with A := A1, cap := q1 } : Ev).c), .int .u8 (({ y with A := A1, cap := q1 } : Ev).k), .int .i64 (({ y with A := A1, cap := q1 } : Ev).p), .int .i64 (({ y with A := A1, cap := q1 } : Ev).n), .int .i64 (({ y with A := A1, cap := q1 } : Ev).cp), .int .i64 (({ y with A := A1, cap := q1 } : Ev).h), .int .i64 (({ y with A := A1, cap := q1 } : Ev).d), .slice (({ y with A := A1, cap := q1 } : Ev).A) (({ y with A := A1, cap := q1 } : Ev).args.length) (({ y with A := A1, cap := q1 } : Ev).cap)], rows encI 2 1 A1 q1 y.args, rows Ev.cells 37 9 A84_5 q84_5 (St.nil.l ++ [({ y with A := A1, cap := q1 } : Ev)]), all (((T ++ [St.nil]).map St.ch).eraseIdx k), row 22 1 (some ⟨b73_3, 0, none⟩) 1 1 [.slice none 0 0], box b9 [.int .i64 y.key.1, .int .i64 y.key.2.1, .int .i64 y.key.2.2] 55, box b8 [.int .i64 y.t, .int .i64 y.c, .int .u8 y.k, .int .i64 y.p, .int .i64 y.n, .int .i64 y.cp, .int .i64 y.h, .int .i64 y.d, .slice y.A y.args.length y.cap] 37, mapc ekI ekI m14 (aset ((nst l i).next) y.c ((k + 1 : Nat) : Int)), mapc mk3 ekI m15 ((nst l i).after), mapc mk3 ekI m16 ((nst l i).till), rows St.cells 22 1 A74_3 q74_3 ((T ++ [St.nil]).set k (⟨A84_5, q84_5, (St.nil.l ++ [({ y with A := A1, cap := q1 } : Ev)])⟩ : St)), argsS M, ros Ev.cells Al l, argsS (l.map Ev.ar)]) rfl rfl rfl (Up.store (i := 10) rfl rfl rfl c22 rfl rfl (rows_takes encS (y := (⟨A84_5, q84_5, (St.nil.l ++ [({ y with A := A1, cap := q1 } : Ev)])⟩ : St)) (by decide) (by omega))) (oks_nil _) ?_
          refine FlowS.fin ?_
          refine To.as [row 37 9 (some ⟨b83_5, 0, none⟩) 1 1 [.int .i64 (({ y with A := A1, cap := q1 } : Ev).t), .int .i64 (({ y with A := A1, cap := q1 } : Ev).c), .int .u8 (({ y with A := A1, cap := q1 } : Ev).k), .int .i64 (({ y with A := A1, cap := q1 } : Ev).p), .int .i64 (({ y with A := A1, cap := q1 } : Ev).n), .int .i64 (({ y with A := A1, cap := q1 } : Ev).cp), .int .i64 (({ y with A := A1, cap := q1 } : Ev).h), .int .i64 (({ y with A := A1, cap := q1 } : Ev).d), .slice (({ y with A := A1, cap := q1 } : Ev).A) (({ y with A := A1, cap := q1 } : Ev).args.length) (({ y with A := A1, cap := q1 } : Ev).cap)], rows encI 2 1 A1 q1 y.args, rows Ev.cells 37 9 A84_5 q84_5 (St.nil.l ++ [({ y with A := A1, cap := q1 } : Ev)]), all (((T ++ [St.nil]).map St.ch).eraseIdx k), row 22 1 (some ⟨b73_3, 0, none⟩) 1 1 [.slice none 0 0], box b9 [.int .i64 y.key.1, .int .i64 y.key.2.1, .int .i64 y.key.2.2] 55, box b8 [.int .i64 y.t, .int .i64 y.c, .int .u8 y.k, .int .i64 y.p, .int .i64 y.n, .int .i64 y.cp, .int .i64 y.h, .int .i64 y.d, .slice y.A y.args.length y.cap] 37, mapc ekI ekI m14 (aset ((nst l i).next) y.c ((k + 1 : Nat) : Int)), mapc mk3 ekI m15 ((nst l i).after), mapc mk3 ekI m16 ((nst l i).till), rows St.cells 22 1 A74_3 q74_3 ((T ++ [St.nil]).set k (⟨A84_5, q84_5, (St.nil.l ++ [({ y with A := A1, cap := q1 } : Ev)])⟩ : St)), argsS M, ros Ev.cells Al l, argsS (l.map Ev.ar)] rfl ?_
          refine To.sub [(3, .slice A74_3 ((T ++ [St.nil]).length) q74_3), (4, .map (some m14)), (5, .map (some m15)), (6, .map (some m16)), (17, .slice Al l.length cl), (18, .int .i64 ((l.length : Nat) : Int)), (19, .int .i64 ((i : Nat) : Int)), (20, .bool (decide (((i : Nat) : Int) < ((l.length : Nat) : Int)))), (8, .pointer (some ⟨b8, 0, none⟩)), (9, .pointer (some ⟨b9, 0, none⟩)), (10, .int .i64 y.rl), (11, .int .i64 ((k : Nat) : Int)), (32, .int .i64 y.rl), (33, .bool (decide (y.rl = 1))), (48, .bool (decide (y.rl = 2))), (71, .bool (decide (((k : Nat) : Int) = ((T.length : Nat) : Int))))] ⟨rfl, rfl, rfl, rfl, rfl, rfl, rfl, rfl, rfl, rfl, rfl, rfl, rfl, rfl, rfl, rfl, trivial⟩ ?_
          refine To.blockN ?_
          refine To.thenN ?_
          refine To.reg ?_
          refine To.rd rfl rfl rfl (Rd.inc rfl rfl rfl (by omega)) ?_
          refine To.rd rfl rfl rfl (Rd.move rfl rfl) ?_
          refine To.nil ?_
          refine To.thenN ?_
          refine To.only [1, 0, 0, 0, 0, 0, 0, 0, 0, 0, 0, 0, 0, 0] rfl ?_
          refine To.layRow ?_
          refine To.derive (argsS (M ++ [(A1, y.args)])) rfl (argsS_add 0 11 rfl rfl).1 (argsS_add 0 11 rfl rfl).2 ?_
          refine To.only [3, 3, 0, 0, 0, 0, 0, 0, 0, 0, 0, 0, 0, 0, 0] rfl ?_
          refine To.allIn k (ch_at hs) ?_
          rw [chs_set]
          refine To.sub [(3, .slice A74_3 ((T ++ [St.nil]).set k ⟨A84_5, q84_5, St.nil.l ++ [({ y with A := A1, cap := q1 } : Ev)]⟩).length q74_3), (4, .map (some m14)), (5, .map (some m15)), (6, .map (some m16)), (17, .slice Al l.length cl), (18, .int .i64 ((l.length : Nat) : Int)), (19, .int .i64 (((i + 1) : Nat) : Int))] ⟨by rw [List.length_set]; rfl, rfl, rfl, rfl, rfl, rfl, rfl, trivial⟩ ?_
          refine To.only [7, 7, 7, 7, 0, 0, 6, 6] rfl ?_
          refine To.as [mapc ekI ekI m14 ((nst l (i + 1)).next), mapc mk3 ekI m15 ((nst l (i + 1)).after), mapc mk3 ekI m16 ((nst l (i + 1)).till), rows St.cells 22 1 A74_3 q74_3 ((T ++ [St.nil]).set k ⟨A84_5, q84_5, St.nil.l ++ [({ y with A := A1, cap := q1 } : Ev)]⟩), all (((T ++ [St.nil]).set k ⟨A84_5, q84_5, St.nil.l ++ [({ y with A := A1, cap := q1 } : Ev)]⟩).map St.ch), argsS (M ++ [(A1, y.args)]), ros Ev.cells Al l, argsS (l.map Ev.ar)] (by rw [nst_next hy hat, nst_after0 hy c33, nst_till0 hy c48]) ?_
          refine To.again (l.length - (i + 1)) (by omega) ⟨i + 1, (T ++ [St.nil]).set k ⟨A84_5, q84_5, St.nil.l ++ [({ y with A := A1, cap := q1 } : Ev)]⟩, M ++ [(A1, y.args)], A74_3, q74_3, rfl, rfl, rfl, (by omega), (by rw [nst_steps hy hat]; exact vals_new hT c71 rfl), (all_set hs (all_push hM) (fun e h => List.mem_append_left _ h) (fun e he => (List.mem_append.1 he).elim .inl (fun h => .inr (by rw [List.mem_singleton.1 h]; exact List.mem_append_right _ (List.mem_singleton.2 rfl))))), (all_set hs (all_push hA) (fun e h => h) (fun e he => (List.mem_append.1 he).elim .inl (fun h => .inr (by rw [List.mem_singleton.1 h]; exact ha y (List.mem_of_getElem? hy))))), (cnt_setN hn c71)⟩
        ·
          refine To.skip ?_
          refine To.thenN ?_
          obtain ⟨s, hs⟩ : ∃ z0, T[k]? = some z0 := ⟨T[k]'(by omega), List.getElem?_eq_getElem _⟩
          have hsl : s.l.length ≤ 1000000 := hb s (List.mem_of_getElem? hs)
          refine To.only [6, 0, 0, 0, 0, 0, 0, 0, 0, 0] rfl ?_
          refine To.allOut k (ch_at hs) ?_
          refine To.flow [] [⟨0, [], 0⟩, ⟨1, [], 0⟩, ⟨2, [], 0⟩, ⟨3, [], 0⟩, ⟨6, [], 1⟩, ⟨7, [], 4⟩, ⟨4, [], 1⟩, ⟨5, [], 1⟩, ⟨8, [7], 2⟩, ⟨9, [7, 8], 5⟩, ⟨10, [], 1⟩, ⟨11, [], 5⟩] mixed (by kernel_rfl) (oks_nil _) ?_
          refine FlowS.free rfl rfl rfl rfl (Rd.move rfl rfl) ?_
          refine FlowS.free rfl rfl rfl rfl (Rd.move rfl rfl) ?_
          refine FlowS.free rfl rfl rfl rfl (Rd.move rfl rfl) ?_
          refine FlowS.free rfl rfl rfl rfl (Rd.move rfl rfl) ?_
          refine FlowS.rd rfl rfl rfl rfl (Rd.loadS (i := 3) rfl rfl r37 rfl box_whole rfl) ?_
          refine FlowS.callM rfl rfl rfl rfl rfl (Ent.fn rfl rfl ca34) (clone_fn y (ha y (List.mem_of_getElem? hy))) rfl (oks_cons (oks_S 10 rfl (mem_at hy Ev.ar)) (oks_nil _)) ?_
          rintro _ _ ⟨A1, q1, rfl, rfl⟩
          refine ⟨rfl, ?_⟩
          refine FlowS.rd rfl rfl rfl rfl (Rd.indexRows (i := 7) (j := k) rfl rfl rfl s26 rfl hs) ?_
          refine FlowS.rd rfl rfl rfl rfl (Rd.load (i := 7) rfl rfl c22 rfl (gives_1 (rows_gives encS hs) rfl)) ?_
          refine FlowS.mk rfl rfl rfl rfl rfl (Mk.sliceN (us := [.int .i64 (({ y with A := A1, cap := q1 } : Ev).t), .int .i64 (({ y with A := A1, cap := q1 } : Ev).c), .int .u8 (({ y with A := A1, cap := q1 } : Ev).k), .int .i64 (({ y with A := A1, cap := q1 } : Ev).p), .int .i64 (({ y with A := A1, cap := q1 } : Ev).n), .int .i64 (({ y with A := A1, cap := q1 } : Ev).cp), .int .i64 (({ y with A := A1, cap := q1 } : Ev).h), .int .i64 (({ y with A := A1, cap := q1 } : Ev).d), .slice (({ y with A := A1, cap := q1 } : Ev).A) (({ y with A := A1, cap := q1 } : Ev).args.length) (({ y with A := A1, cap := q1 } : Ev).cap)]) rfl s22 rfl rfl rfl rfl rfl rfl) ?_
          rintro _ _ ⟨b83_6, rfl, rfl⟩
          refine FlowS.ge rfl rfl rfl rfl (Ge.append1 encE (i := 2) (j := 0) (el := ({ y with A := A1, cap := q1 } : Ev)) rfl s22 rfl rfl rfl rfl rfl (by first | omega | (simp only [List.length_append, List.length_cons, List.length_nil]; omega)) (by first | omega | (simp only [List.length_append, List.length_cons, List.length_nil]; omega))) ?_
          rintro _ _ ⟨A84_6, q84_6, rfl, rfl⟩
          refine ⟨oks_nil _, ?_⟩
          refine FlowS.rd rfl rfl rfl rfl (Rd.indexRows (i := 9) (j := k) rfl rfl rfl s26 rfl hs) ?_
          refine FlowS.up (Γ' := [row 37 9 (some ⟨b83_6, 0, none⟩) 1 1 [.int .i64 (({ y with A := A1, cap := q1 } : Ev).t), .int .i64 (({ y with A := A1, cap := q1 } : Ev).c), .int .u8 (({ y with A := A1, cap := q1 } : Ev).k), .int .i64 (({ y with A := A1, cap := q1 } : Ev).p), .int .i64 (({ y with A := A1, cap := q1 } : Ev).n), .int .i64 (({ y with A := A1, cap := q1 } : Ev).cp), .int .i64 (({ y with A := A1, cap := q1 } : Ev).h), .int .i64 (({ y with A := A1, cap := q1 } : Ev).d), .slice (({ y with A := A1, cap := q1 } : Ev).A) (({ y with A := A1, cap := q1 } : Ev).args.length) (({ y with A := A1, cap := q1 } : Ev).cap)], rows encI 2 1 A1 q1 y.args, rows Ev.cells 37 9 A84_6 q84_6 (s.l ++ [({ y with A := A1, cap := q1 } : Ev)]), all ((T.map St.ch).eraseIdx k), box b9 [.int .i64 y.key.1, .int .i64 y.key.2.1, .int .i64 y.key.2.2] 55, box b8 [.int .i64 y.t, .int .i64 y.c, .int .u8 y.k, .int .i64 y.p, .int .i64 y.n, .int .i64 y.cp, .int .i64 y.h, .int .i64 y.d, .slice y.A y.args.length y.cap] 37, mapc ekI ekI m14 (aset ((nst l i).next) y.c ((k + 1 : Nat) : Int)), mapc mk3 ekI m15 ((nst l i).after), mapc mk3 ekI m16 ((nst l i).till), rows St.cells 22 1 A3 q3 (T.set k (⟨A84_6, q84_6, (s.l ++ [({ y with A := A1, cap := q1 } : Ev)])⟩ : St)), argsS M, ros Ev.cells Al l, argsS (l.map Ev.ar)]) rfl rfl rfl (Up.store (i := 9) rfl rfl rfl c22 rfl rfl (rows_takes encS (y := (⟨A84_6, q84_6, (s.l ++ [({ y with A := A1, cap := q1 } : Ev)])⟩ : St)) (by decide) (by omega))) (oks_nil _) ?_
          refine FlowS.fin ?_
          refine To.as [row 37 9 (some ⟨b83_6, 0, none⟩) 1 1 [.int .i64 (({ y with A := A1, cap := q1 } : Ev).t), .int .i64 (({ y with A := A1, cap := q1 } : Ev).c), .int .u8 (({ y with A := A1, cap := q1 } : Ev).k), .int .i64 (({ y with A := A1, cap := q1 } : Ev).p), .int .i64 (({ y with A := A1, cap := q1 } : Ev).n), .int .i64 (({ y with A := A1, cap := q1 } : Ev).cp), .int .i64 (({ y with A := A1, cap := q1 } : Ev).h), .int .i64 (({ y with A := A1, cap := q1 } : Ev).d), .slice (({ y with A := A1, cap := q1 } : Ev).A) (({ y with A := A1, cap := q1 } : Ev).args.length) (({ y with A := A1, cap := q1 } : Ev).cap)], rows encI 2 1 A1 q1 y.args, rows Ev.cells 37 9 A84_6 q84_6 (s.l ++ [({ y with A := A1, cap := q1 } : Ev)]), all ((T.map St.ch).eraseIdx k), box b9 [.int .i64 y.key.1, .int .i64 y.key.2.1, .int .i64 y.key.2.2] 55, box b8 [.int .i64 y.t, .int .i64 y.c, .int .u8 y.k, .int .i64 y.p, .int .i64 y.n, .int .i64 y.cp, .int .i64 y.h, .int .i64 y.d, .slice y.A y.args.length y.cap] 37, mapc ekI ekI m14 (aset ((nst l i).next) y.c ((k + 1 : Nat) : Int)), mapc mk3 ekI m15 ((nst l i).after), mapc mk3 ekI m16 ((nst l i).till), rows St.cells 22 1 A3 q3 (T.set k (⟨A84_6, q84_6, (s.l ++ [({ y with A := A1, cap := q1 } : Ev)])⟩ : St)), argsS M, ros Ev.cells Al l, argsS (l.map Ev.ar)] rfl ?_
          refine To.sub [(3, .slice A3 T.length q3), (4, .map (some m14)), (5, .map (some m15)), (6, .map (some m16)), (17, .slice Al l.length cl), (18, .int .i64 ((l.length : Nat) : Int)), (19, .int .i64 ((i : Nat) : Int)), (20, .bool (decide (((i : Nat) : Int) < ((l.length : Nat) : Int)))), (8, .pointer (some ⟨b8, 0, none⟩)), (9, .pointer (some ⟨b9, 0, none⟩)), (10, .int .i64 y.rl), (11, .int .i64 ((k : Nat) : Int)), (32, .int .i64 y.rl), (33, .bool (decide (y.rl = 1))), (48, .bool (decide (y.rl = 2))), (71, .bool (decide (((k : Nat) : Int) = ((T.length : Nat) : Int))))] ⟨rfl, rfl, rfl, rfl, rfl, rfl, rfl, rfl, rfl, rfl, rfl, rfl, rfl, rfl, rfl, rfl, trivial⟩ ?_
          refine To.blockN ?_
          refine To.thenN ?_
          refine To.reg ?_
          refine To.rd rfl rfl rfl (Rd.inc rfl rfl rfl (by omega)) ?_
          refine To.rd rfl rfl rfl (Rd.move rfl rfl) ?_
          refine To.nil ?_
          refine To.thenN ?_
          refine To.only [1, 0, 0, 0, 0, 0, 0, 0, 0, 0, 0, 0, 0] rfl ?_
          refine To.layRow ?_
          refine To.derive (argsS (M ++ [(A1, y.args)])) rfl (argsS_add 0 10 rfl rfl).1 (argsS_add 0 10 rfl rfl).2 ?_
          refine To.only [3, 3, 0, 0, 0, 0, 0, 0, 0, 0, 0, 0, 0, 0] rfl ?_
          refine To.allIn k (ch_at hs) ?_
          rw [chs_set]
          refine To.sub [(3, .slice A3 (T.set k ⟨A84_6, q84_6, s.l ++ [({ y with A := A1, cap := q1 } : Ev)]⟩).length q3), (4, .map (some m14)), (5, .map (some m15)), (6, .map (some m16)), (17, .slice Al l.length cl), (18, .int .i64 ((l.length : Nat) : Int)), (19, .int .i64 (((i + 1) : Nat) : Int))] ⟨by rw [List.length_set]; rfl, rfl, rfl, rfl, rfl, rfl, rfl, trivial⟩ ?_
          refine To.only [6, 6, 6, 6, 0, 0, 5, 5] rfl ?_
          refine To.as [mapc ekI ekI m14 ((nst l (i + 1)).next), mapc mk3 ekI m15 ((nst l (i + 1)).after), mapc mk3 ekI m16 ((nst l (i + 1)).till), rows St.cells 22 1 A3 q3 (T.set k ⟨A84_6, q84_6, s.l ++ [({ y with A := A1, cap := q1 } : Ev)]⟩), all ((T.set k ⟨A84_6, q84_6, s.l ++ [({ y with A := A1, cap := q1 } : Ev)]⟩).map St.ch), argsS (M ++ [(A1, y.args)]), ros Ev.cells Al l, argsS (l.map Ev.ar)] (by rw [nst_next hy hat, nst_after0 hy c33, nst_till0 hy c48]) ?_
          refine To.again (l.length - (i + 1)) (by omega) ⟨i + 1, T.set k ⟨A84_6, q84_6, s.l ++ [({ y with A := A1, cap := q1 } : Ev)]⟩, M ++ [(A1, y.args)], A3, q3, rfl, rfl, rfl, (by omega), (by rw [nst_steps hy hat]; exact vals_put hT hs c71 rfl), (all_set hs hM (fun e h => List.mem_append_left _ h) (fun e he => (List.mem_append.1 he).elim .inl (fun h => .inr (by rw [List.mem_singleton.1 h]; exact List.mem_append_right _ (List.mem_singleton.2 rfl))))), (all_set hs hA (fun e h => h) (fun e he => (List.mem_append.1 he).elim .inl (fun h => .inr (by rw [List.mem_singleton.1 h]; exact ha y (List.mem_of_getElem? hy))))), (cnt_set hn hs)⟩
  ·
    refine To.exit ?_
    refine To.thenX ?_
    refine To.thenX ?_
    refine To.blockX ?_
    refine To.thenN ?_
    refine To.seq ?_
    refine To.seq ?_
    refine To.reg ?_
    refine To.rd rfl rfl rfl (Rd.move rfl rfl) ?_
    refine To.rd rfl rfl rfl (Rd.len rfl rfl Try.underlying26) ?_
    refine To.rd rfl rfl rfl (Rd.move rfl rfl) ?_
    refine To.nil ?_
    refine To.thenN ?_
    refine To.block ?_
    obtain rfl : i = l.length := by omega
    refine To.sub [(3, .slice A3 T.length q3), (87, .slice A3 T.length q3), (88, .int .i64 ((T.length : Nat) : Int)), (89, .int .i64 ((0 : Nat) : Int))] ⟨rfl, rfl, rfl, rfl, trivial⟩ ?_
    refine To.only [3, 3, 3] rfl ?_
    refine To.loop (fun mz ρ Γ => ∃ (i2 : Nat) (U : List St), ρ = [(3, .slice A3 U.length q3), (87, .slice A3 U.length q3), (88, .int .i64 ((U.length : Nat) : Int)), (89, .int .i64 ((i2 : Nat) : Int))] ∧ Γ = [rows St.cells 22 1 A3 q3 U, all (U.map St.ch), argsS M] ∧ mz = U.length - i2 ∧ (i2 ≤ U.length) ∧ (valsT U = ((vals2 (nst l l.length).steps).take i2).map sortV ++ (vals2 (nst l l.length).steps).drop i2) ∧ (U.length = (vals2 (nst l l.length).steps).length) ∧ (∀ s ∈ U, ∀ e ∈ s.l, e.ar ∈ M) ∧ (∀ s ∈ U, ∀ e ∈ s.l, e.args.length ≤ 1000000000000) ∧ (∀ s ∈ U, s.l.length ≤ 1000000)) (T.length - 0) ⟨0, T, rfl, rfl, rfl, (Nat.zero_le _), (by simpa using hT), (by rw [hlen]; simp [vals2]), hM, hA, hb⟩ ?_
    rintro mz _ _ ⟨i2, U, rfl, rfl, rfl, hi2, hU, hUl, hM2, hA2, hB2⟩
    have hUb : U.length ≤ 1000000 := by rw [hUl]; simp only [vals2, List.length_map]; omega
    refine To.seq ?_
    refine To.reg ?_
    refine To.rd rfl rfl rfl (Rd.lss rfl rfl rfl) ?_
    refine To.nil ?_
    refine To.thenN ?_
    refine To.seq ?_
    refine To.condP rfl (fun c90 => ?_) (fun c90 => ?_)
    ·
      obtain ⟨s, hs⟩ : ∃ z0, U[i2]? = some z0 := ⟨U[i2]'(by omega), List.getElem?_eq_getElem _⟩
      refine To.skip ?_
      refine To.thenN ?_
      refine To.seq ?_
      refine To.block ?_
      refine To.seq ?_
      refine To.reg ?_
      refine To.rd rfl rfl rfl (Rd.indexRows (i := 0) (j := i2) rfl rfl rfl s26 rfl hs) ?_
      refine To.rd rfl rfl rfl (Rd.load (i := 0) rfl rfl c22 rfl (gives_1 (rows_gives encS hs) rfl)) ?_
      refine To.rd rfl rfl rfl (Rd.assign rfl rfl) ?_
      refine To.nil ?_
      refine To.thenN ?_
      refine To.only [1, 0, 0] rfl ?_
      refine To.allOut i2 (ch_at hs) ?_
      refine To.reg ?_
      refine To.rd rfl rfl rfl (Rd.move rfl rfl) ?_
      refine To.call [0, 2] rfl rfl rfl (Ent.fn rfl rfl ca35) rfl (HS s.A s.cap s.l M (hM2 s (List.mem_of_getElem? hs)) (hA2 s (List.mem_of_getElem? hs)) (Nat.le_trans (hB2 s (List.mem_of_getElem? hs)) (by decide))) ?_
      rintro _ _ ⟨m, rfl, rfl, hp, ho⟩
      refine To.as [rows Ev.cells 37 9 s.A s.cap m, argsS M, all ((U.map St.ch).eraseIdx i2), rows St.cells 22 1 A3 q3 U] rfl ?_
      refine To.nil ?_
      refine To.blockN ?_
      refine To.thenN ?_
      refine To.reg ?_
      refine To.rd rfl rfl rfl (Rd.inc rfl rfl rfl (by omega)) ?_
      refine To.rd rfl rfl rfl (Rd.move rfl rfl) ?_
      refine To.nil ?_
      refine To.thenN ?_
      refine To.only [0, 1, 0, 0] rfl ?_
      refine To.allIn i2 (ch_at hs) ?_
      rw [chs_set]
      refine To.sub [(3, .slice A3 (U.set i2 ⟨s.A, s.cap, m⟩).length q3), (87, .slice A3 (U.set i2 ⟨s.A, s.cap, m⟩).length q3), (88, .int .i64 (((U.set i2 ⟨s.A, s.cap, m⟩).length : Nat) : Int)), (89, .int .i64 (((i2 + 1) : Nat) : Int))] ⟨by rw [List.length_set]; rfl, by rw [List.length_set]; rfl, by rw [List.length_set]; rfl, rfl, trivial⟩ ?_
      refine To.only [2, 0, 0] rfl ?_
      refine To.as [rows St.cells 22 1 A3 q3 (U.set i2 ⟨s.A, s.cap, m⟩), all ((U.set i2 ⟨s.A, s.cap, m⟩).map St.ch), argsS M] (by rw [rows_same hs hp.length_eq]) ?_
      refine To.again ((U.set i2 ⟨s.A, s.cap, m⟩).length - (i2 + 1)) (by rw [List.length_set]; omega) ⟨i2 + 1, U.set i2 ⟨s.A, s.cap, m⟩, rfl, rfl, rfl, (by rw [List.length_set]; omega), (vals_sort hU hUl hs hp ho), (by rw [List.length_set]; exact hUl), (all_set hs hM2 (fun e h => h) (fun e he => .inl (hp.mem_iff.1 he))), (all_set hs hA2 (fun e h => h) (fun e he => .inl (hp.mem_iff.1 he))), (len_set1 hs hB2 hp)⟩
    ·
      refine To.exit ?_
      refine To.thenX ?_
      refine To.thenX ?_
      refine To.blockX ?_
      refine To.thenN ?_
      refine To.seq ?_
      refine To.reg ?_
      refine To.rd rfl rfl rfl (Rd.move rfl rfl) ?_
      refine To.rd rfl rfl rfl (Rd.assign rfl rfl) ?_
      refine To.nil ?_
      refine To.thenN ?_
      refine To.ret ?_
      refine To.only [0, 0, 0] rfl ?_
      refine To.end1 (.inl rfl) Try.results14 rfl ?_
      refine ⟨A3, q3, U, M, rfl, rfl, ?_, hM2, hA2⟩
      rw [hU, List.take_of_length_le (by omega), List.drop_eq_nil_of_le (by omega)]
      simp [normV, nst]
end Go.Proofs.Ytneimfacccgaeaa
