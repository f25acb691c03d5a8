/- Equality of normal forms; Equivalent. Own text (walks printed by sx.py). -/
import Derived.Test.YtneimfacccgaeaaV21
namespace Go.Proofs.Ytneimfacccgaeaa
open Go.RowKit Go.Flow Go.Mem Go.Sep
/-- Steps that only are read. -/
def stepsR (T : List St) : Chunk where
  owns := []
  reads := T.flatMap fun s => (ros Ev.cells s.A s.l).reads
  holds w := ∀ s ∈ T, (ros Ev.cells s.A s.l).holds w
  loc w w' h hw s hs := (ros Ev.cells s.A s.l).loc w w' (fun g hg => h g (.inr (List.mem_flatMap.2 ⟨s, hs, by simpa [ros, ro] using hg⟩))) (hw s hs)
  lt w hw g hg := by
    simp only [List.not_mem_nil, false_or] at hg
    obtain ⟨s, hs, hg⟩ := List.mem_flatMap.1 hg
    exact (ros Ev.cells s.A s.l).lt w (hw s hs) g (.inr hg)
theorem oks_steps {Γ : List Chunk} {T : List St} (i : Nat) (h : Γ[i]? = some (all (T.map St.ch))) : ∀ w, oks Γ w → (stepsR T).holds w := fun w hw s hs =>
  oks_row (Γ := [St.ch s]) 0 rfl w (fun c hc => by rw [List.mem_singleton.1 hc]; exact oks_all i h (List.mem_map.2 ⟨s, hs, rfl⟩) w hw)
theorem oks_stepR {Γ : List Chunk} {T : List St} (i : Nat) (h : Γ[i]? = some (stepsR T)) {s : St} (hs : s ∈ T) : ∀ w, oks Γ w → (ros Ev.cells s.A s.l).holds w := fun w hw => hw _ (List.mem_of_getElem? h) s hs
def cntS (S : List (List Ev)) : Nat := (S.map List.length).sum
theorem cnt_put (S : List (List Ev)) (k : Nat) (e : Ev) (h : k ≤ S.length) : cntS (put S k e) = cntS S + 1 := by
  unfold put
  split
  · simp [cntS]
  · have hk : k < S.length := by omega
    clear h
    unfold cntS
    induction S generalizing k with
    | nil => simp at hk
    | cons t T ih =>
      cases k with
      | zero => simp; omega
      | succ k =>
        have := ih k (by simp at *; omega) (by simpa using hk)
        simp only [List.getElem?_cons_succ, List.set_cons_succ, List.map_cons, List.sum_cons]; omega
theorem cnt_nst (l : List Ev) : ∀ j, j ≤ l.length → cntS (nst l j).steps = j
  | 0, _ => rfl
  | j + 1, h => by
    have hy : l[j]? = some l[j] := List.getElem?_eq_getElem (by omega)
    have ha := at_lv hy
    have hb := (nst_ok l j).at_ l[j]
    rw [nst_steps hy ha, cnt_put _ _ _ (by omega), cnt_nst l j (by omega)]
def cntV3 (V : List (List (List Int))) : Nat := (V.map List.length).sum
theorem cnt_norm (l : List Ev) : cntV3 (normV l) = l.length := by
  have h := cnt_nst l l.length (Nat.le_refl _)
  rw [← h]
  unfold cntV3 normV cntS nst vals2
  rw [List.take_length, List.map_map, List.map_map]
  congr 1
  refine List.map_congr_left fun s _ => ?_
  simp [(sortV_perm (s.map Ev.val)).length_eq]
theorem cnt_of_vals {U : List St} {l : List Ev} (h : valsT U = normV l) : cntT U = l.length := by
  rw [← cnt_norm, ← h]
  unfold cntV3 valsT cntT
  rw [List.map_map]
  congr 1
  refine List.map_congr_left fun s _ => ?_
  simp
theorem len_of_vals {U : List St} {l : List Ev} (h : valsT U = normV l) : ∀ s ∈ U, s.l.length ≤ l.length := fun s hs => by rw [← cnt_of_vals h]; exact cnt_mem hs
theorem cntL (U : List (List Ev)) : True := trivial
theorem steps_of_vals {U : List St} {l : List Ev} (h : valsT U = normV l) : U.length ≤ l.length := by
  have h1 := congrArg List.length h
  have h2 := nst_le l l.length
  simp only [valsT, normV, vals2, List.length_map] at h1
  simp only [nst, List.take_length] at h2
  omega
theorem norm_len {a b : List Ev} (h : normV a = normV b) : a.length = b.length := by rw [← cnt_norm a, ← cnt_norm b, h]
theorem tv_step {U V : List St} {i : Nat} {x y : St} (hx : U[i]? = some x) (hy : V[i]? = some y) (h : valsT (U.take i) = valsT (V.take i)) (e : x.l.map Ev.val = y.l.map Ev.val) : valsT (U.take (i + 1)) = valsT (V.take (i + 1)) := by
  unfold valsT at *
  rw [take_of_get hx, take_of_get hy, List.map_append, List.map_append, h]; simp [e]
theorem tv_no {U V : List St} {i : Nat} {x y : St} (hx : U[i]? = some x) (hy : V[i]? = some y) (e : ¬ x.l.map Ev.val = y.l.map Ev.val) : ¬ valsT U = valsT V := fun h => by
  have h1 : (valsT U)[i]? = (valsT V)[i]? := by rw [h]
  simp [valsT, hx, hy] at h1
  exact e h1
theorem sub_args {M : List (Option Addr × List Int)} {l : List Ev} (h : ∀ e ∈ l, e.ar ∈ M) : ∀ p ∈ l.map Ev.ar, p ∈ M := fun p hp => by
  obtain ⟨e, he, rfl⟩ := List.mem_map.1 hp
  exact h e he
set_option maxHeartbeats 2000000 in
set_option maxRecDepth 100000 in
theorem equalF_fn (Al Am : Option Addr) (cl cm : Nat) (l m : List Ev) (hl : ∀ e ∈ l, e.args.length ≤ 1000000000000) (hl2 : l.length ≤ 1000000000000) :
    Does Try.prog 43 [.slice Al l.length cl, .slice Am m.length cm, .func (.func 19) #[] #[]] [ros Ev.cells Al l, ros Ev.cells Am m, argsS (l.map Ev.ar), argsS (m.map Ev.ar)] (fun v _ => v = .bool (decide (l.map Ev.val = m.map Ev.val))) := by
  refine Does.enter Try.func43 rfl Try.ntmps43 rfl (fun w0 => ?_)
  refine To.seq ?_
  refine To.reg ?_
  refine To.rd rfl rfl rfl (Rd.assign rfl rfl) ?_
  refine To.nil ?_
  refine To.thenN ?_
  refine To.seq ?_
  refine To.seq ?_
  refine To.reg ?_
  refine To.rd rfl rfl rfl (Rd.move rfl rfl) ?_
  refine To.rd rfl rfl rfl (Rd.len rfl rfl Try.underlying22) ?_
  refine To.rd rfl rfl rfl (Rd.move rfl rfl) ?_
  refine To.rd rfl rfl rfl (Rd.len rfl rfl Try.underlying22) ?_
  refine To.rd rfl rfl rfl (Rd.neq rfl rfl rfl) ?_
  refine To.nil ?_
  refine To.thenN ?_
  refine To.condP rfl (fun c14 => ?_) (fun c14 => ?_)
  ·
    refine To.seq ?_
    refine To.reg ?_
    refine To.rd rfl rfl rfl (Rd.assign rfl rfl) ?_
    refine To.nil ?_
    refine To.thenN ?_
    refine To.ret ?_
    refine To.thenR ?_
    refine To.end1 (.inl rfl) Try.results43 rfl ?_
    have : l.map Ev.val ≠ m.map Ev.val := fun h => by have := congrArg List.length h; simp at this; omega
    simp [this]
  ·
    have hlen : l.length = m.length := by omega
    refine To.skip ?_
    refine To.thenN ?_
    refine To.seq ?_
    refine To.seq ?_
    refine To.reg ?_
    refine To.rd rfl rfl rfl (Rd.move rfl rfl) ?_
    refine To.rd rfl rfl rfl (Rd.len rfl rfl Try.underlying22) ?_
    refine To.rd rfl rfl rfl (Rd.move rfl rfl) ?_
    refine To.nil ?_
    refine To.thenN ?_
    refine To.block ?_
    refine To.sub [(1, .slice Am m.length cm), (2, .func (.func 19) #[] #[]), (15, .slice Al l.length cl), (16, .int .i64 ((l.length : Nat) : Int)), (17, .int .i64 ((0 : Nat) : Int))] ⟨rfl, rfl, rfl, rfl, rfl, trivial⟩ ?_
    refine To.only [0, 0, 0, 0] rfl ?_
    refine To.loop (fun mz ρ Γ => ∃ (i : Nat), ρ = [(1, .slice Am m.length cm), (2, .func (.func 19) #[] #[]), (15, .slice Al l.length cl), (16, .int .i64 ((l.length : Nat) : Int)), (17, .int .i64 ((i : Nat) : Int))] ∧ Γ = [ros Ev.cells Al l, ros Ev.cells Am m, argsS (l.map Ev.ar), argsS (m.map Ev.ar)] ∧ mz = l.length - i ∧ (i ≤ l.length) ∧ ((l.take i).map Ev.val = (m.take i).map Ev.val)) (l.length - 0) ⟨0, rfl, rfl, rfl, (Nat.zero_le _), rfl⟩ ?_
    rintro mz _ _ ⟨i, rfl, rfl, rfl, hi, hI⟩
    refine To.seq ?_
    refine To.reg ?_
    refine To.rd rfl rfl rfl (Rd.lss rfl rfl rfl) ?_
    refine To.nil ?_
    refine To.thenN ?_
    refine To.seq ?_
    refine To.condP rfl (fun c18 => ?_) (fun c18 => ?_)
    ·
      obtain ⟨x, hx⟩ : ∃ z0, l[i]? = some z0 := ⟨l[i]'(by omega), List.getElem?_eq_getElem _⟩
      obtain ⟨y, hy⟩ : ∃ z0, m[i]? = some z0 := ⟨m[i]'(by omega), List.getElem?_eq_getElem _⟩
      refine To.skip ?_
      refine To.thenN ?_
      refine To.seq ?_
      refine To.block ?_
      refine To.seq ?_
      refine To.reg ?_
      refine To.rd rfl rfl rfl (Rd.move rfl rfl) ?_
      refine To.rd rfl rfl rfl (Rd.indexRos encE (i := 0) (j := i) rfl rfl rfl s22 rfl hx) ?_
      refine To.rd rfl rfl rfl (Rd.loadS (i := 0) rfl rfl r37 rfl (ros_gives encE hx) (encE.len _)) ?_
      refine To.alloc rfl rfl rfl rfl z37 (fun b8 => ?_)
      refine To.rd rfl rfl rfl (Rd.assign rfl rfl) ?_
      refine To.up rfl rfl (Up.storeS (i := 0) rfl rfl rfl r37 rfl rfl rfl (box_takesAll rfl)) ?_
      refine To.nil ?_
      refine To.thenN ?_
      refine To.seq ?_
      refine To.reg ?_
      refine To.rd rfl rfl rfl (Rd.move rfl rfl) ?_
      refine To.rd rfl rfl rfl (Rd.move rfl rfl) ?_
      refine To.rd rfl rfl rfl (Rd.indexRos encE (i := 2) (j := i) rfl rfl rfl s22 rfl hy) ?_
      refine To.rd rfl rfl rfl (Rd.loadS (i := 2) rfl rfl r37 rfl (ros_gives encE hy) (encE.len _)) ?_
      refine To.alloc rfl rfl rfl rfl z37 (fun b9 => ?_)
      refine To.up rfl rfl (Up.storeS (i := 0) rfl rfl rfl r37 rfl rfl rfl (box_takesAll rfl)) ?_
      refine To.nil ?_
      refine To.thenN ?_
      refine To.seq ?_
      refine To.reg ?_
      refine To.rd rfl rfl rfl (Rd.move rfl rfl) ?_
      refine To.rd rfl rfl rfl (Rd.loadS (i := 1) rfl rfl r37 rfl box_whole rfl) ?_
      refine To.rd rfl rfl rfl (Rd.loadS (i := 0) rfl rfl r37 rfl box_whole rfl) ?_
      refine To.callV rfl rfl rfl (Ent.func (first := []) (captured := []) rfl rfl rfl ca19) (equal_fn2 x y (hl x (List.mem_of_getElem? hx))) rfl (oks_cons (oks_S 4 rfl (mem_at hx Ev.ar)) (oks_cons (oks_S 5 rfl (mem_at hy Ev.ar)) (oks_nil _))) ?_
      refine To.rd rfl rfl rfl (Rd.not rfl rfl) ?_
      refine To.nil ?_
      refine To.thenN ?_
      refine To.cond rfl (fun c30 => ?_) (fun c30 => ?_)
      ·
        refine To.seq ?_
        refine To.reg ?_
        refine To.rd rfl rfl rfl (Rd.assign rfl rfl) ?_
        refine To.nil ?_
        refine To.thenN ?_
        refine To.ret ?_
        refine To.blockR ?_
        refine To.thenR ?_
        refine To.thenR ?_
        refine To.blockR ?_
        refine To.thenR ?_
        refine To.end1 (.inl rfl) Try.results43 rfl ?_
        simp [vals_no hx hy (by simpa using c30)]
      ·
        refine To.skip ?_
        refine To.blockN ?_
        refine To.thenN ?_
        refine To.reg ?_
        refine To.rd rfl rfl rfl (Rd.inc rfl rfl rfl (by omega)) ?_
        refine To.rd rfl rfl rfl (Rd.move rfl rfl) ?_
        refine To.nil ?_
        refine To.thenN ?_
        refine To.sub [(1, .slice Am m.length cm), (2, .func (.func 19) #[] #[]), (15, .slice Al l.length cl), (16, .int .i64 ((l.length : Nat) : Int)), (17, .int .i64 (((i + 1) : Nat) : Int))] ⟨rfl, rfl, rfl, rfl, rfl, trivial⟩ ?_
        refine To.only [2, 2, 2, 2] rfl ?_
        refine To.again (l.length - (i + 1)) (by omega) ⟨i + 1, rfl, rfl, rfl, (by omega), (vals_step hx hy hI (by simpa using c30))⟩
    ·
      refine To.exit ?_
      refine To.thenX ?_
      refine To.thenX ?_
      refine To.blockX ?_
      refine To.thenN ?_
      refine To.seq ?_
      refine To.reg ?_
      refine To.rd rfl rfl rfl (Rd.assign rfl rfl) ?_
      refine To.nil ?_
      refine To.thenN ?_
      refine To.ret ?_
      refine To.end1 (.inl rfl) Try.results43 rfl ?_
      obtain rfl : i = l.length := by omega
      rw [List.take_length, hlen, List.take_length] at hI
      simp [hI]
set_option maxHeartbeats 2000000 in
set_option maxRecDepth 100000 in
theorem equal1_fn (Al Am : Option Addr) (cl cm : Nat) (l m : List Ev) (hl : ∀ e ∈ l, e.args.length ≤ 1000000000000) (hl2 : l.length ≤ 1000000000000) :
    Does Try.prog 42 [.slice Al l.length cl, .slice Am m.length cm] [ros Ev.cells Al l, ros Ev.cells Am m, argsS (l.map Ev.ar), argsS (m.map Ev.ar)] (fun v _ => v = .bool (decide (l.map Ev.val = m.map Ev.val))) := by
  refine Does.enter Try.func42 rfl Try.ntmps42 rfl (fun w0 => ?_)
  refine To.seq ?_
  refine To.reg ?_
  refine To.rd rfl rfl rfl (Rd.assign rfl rfl) ?_
  refine To.nil ?_
  refine To.thenN ?_
  refine To.seq ?_
  refine To.reg ?_
  refine To.rd rfl rfl rfl (Rd.move rfl rfl) ?_
  refine To.rd rfl rfl rfl (Rd.move rfl rfl) ?_
  refine To.callV rfl rfl rfl (Ent.fn rfl rfl ca43) (equalF_fn Al Am cl cm l m hl hl2) rfl (oks_cons (oks_at 0 rfl) (oks_cons (oks_at 1 rfl) (oks_cons (oks_at 2 rfl) (oks_cons (oks_at 3 rfl) (oks_nil _))))) ?_
  refine To.rd rfl rfl rfl (Rd.assign rfl rfl) ?_
  refine To.nil ?_
  refine To.thenN ?_
  refine To.ret ?_
  refine To.end1 (.inl rfl) Try.results42 rfl ?_
  rfl
set_option maxHeartbeats 2000000 in
set_option maxRecDepth 100000 in
theorem rsame_fn (Au Av : Option Addr) (cu cv : Nat) (U V : List St) (M K : List (Option Addr × List Int)) (hM : ∀ s ∈ U, ∀ e ∈ s.l, e.ar ∈ M) (hK : ∀ s ∈ V, ∀ e ∈ s.l, e.ar ∈ K) (hA : ∀ s ∈ U, ∀ e ∈ s.l, e.args.length ≤ 1000000000000) (hB : ∀ s ∈ U, s.l.length ≤ 1000000000000) (hU : U.length ≤ 1000000) :
    Does Try.prog 13 [.slice Au U.length cu, .slice Av V.length cv] [ros St.cells Au U, ros St.cells Av V, stepsR U, stepsR V, argsS M, argsS K] (fun v _ => v = .bool (decide (valsT U = valsT V))) := by
  refine Does.enter Try.func13 rfl Try.ntmps13 rfl (fun w0 => ?_)
  refine To.seq ?_
  refine To.reg ?_
  refine To.rd rfl rfl rfl (Rd.assign rfl rfl) ?_
  refine To.nil ?_
  refine To.thenN ?_
  refine To.seq ?_
  refine To.seq ?_
  refine To.reg ?_
  refine To.rd rfl rfl rfl (Rd.move rfl rfl) ?_
  refine To.rd rfl rfl rfl (Rd.len rfl rfl Try.underlying26) ?_
  refine To.rd rfl rfl rfl (Rd.move rfl rfl) ?_
  refine To.rd rfl rfl rfl (Rd.len rfl rfl Try.underlying26) ?_
  refine To.rd rfl rfl rfl (Rd.neq rfl rfl rfl) ?_
  refine To.nil ?_
  refine To.thenN ?_
  refine To.condP rfl (fun c10 => ?_) (fun c10 => ?_)
  ·
    refine To.seq ?_
    refine To.reg ?_
    refine To.rd rfl rfl rfl (Rd.assign rfl rfl) ?_
    refine To.nil ?_
    refine To.thenN ?_
    refine To.ret ?_
    refine To.thenR ?_
    refine To.end1 (.inl rfl) Try.results13 rfl ?_
    have : ¬ valsT U = valsT V := fun h => by have := congrArg List.length h; simp [valsT] at this; omega
    simp [this]
  ·
    have hlen : U.length = V.length := by omega
    refine To.skip ?_
    refine To.thenN ?_
    refine To.seq ?_
    refine To.seq ?_
    refine To.reg ?_
    refine To.rd rfl rfl rfl (Rd.move rfl rfl) ?_
    refine To.rd rfl rfl rfl (Rd.len rfl rfl Try.underlying26) ?_
    refine To.rd rfl rfl rfl (Rd.move rfl rfl) ?_
    refine To.nil ?_
    refine To.thenN ?_
    refine To.block ?_
    refine To.sub [(0, .slice Au U.length cu), (1, .slice Av V.length cv), (12, .int .i64 ((U.length : Nat) : Int)), (13, .int .i64 ((0 : Nat) : Int))] ⟨rfl, rfl, rfl, rfl, trivial⟩ ?_
    refine To.only [0, 0, 0, 0, 0, 0] rfl ?_
    refine To.loop (fun mz ρ Γ => ∃ (i : Nat), ρ = [(0, .slice Au U.length cu), (1, .slice Av V.length cv), (12, .int .i64 ((U.length : Nat) : Int)), (13, .int .i64 ((i : Nat) : Int))] ∧ Γ = [ros St.cells Au U, ros St.cells Av V, stepsR U, stepsR V, argsS M, argsS K] ∧ mz = U.length - i ∧ (i ≤ U.length) ∧ (valsT (U.take i) = valsT (V.take i))) (U.length - 0) ⟨0, rfl, rfl, rfl, (Nat.zero_le _), rfl⟩ ?_
    rintro mz _ _ ⟨i, rfl, rfl, rfl, hi, hI⟩
    refine To.seq ?_
    refine To.reg ?_
    refine To.rd rfl rfl rfl (Rd.lss rfl rfl rfl) ?_
    refine To.nil ?_
    refine To.thenN ?_
    refine To.seq ?_
    refine To.condP rfl (fun c14 => ?_) (fun c14 => ?_)
    ·
      obtain ⟨x, hx⟩ : ∃ z0, U[i]? = some z0 := ⟨U[i]'(by omega), List.getElem?_eq_getElem _⟩
      obtain ⟨y, hy⟩ : ∃ z0, V[i]? = some z0 := ⟨V[i]'(by omega), List.getElem?_eq_getElem _⟩
      refine To.skip ?_
      refine To.thenN ?_
      refine To.seq ?_
      refine To.block ?_
      refine To.seq ?_
      refine To.reg ?_
      refine To.rd rfl rfl rfl (Rd.move rfl rfl) ?_
      refine To.rd rfl rfl rfl (Rd.assign rfl rfl) ?_
      refine To.nil ?_
      refine To.thenN ?_
      refine To.seq ?_
      refine To.flow [ros St.cells Au U, ros St.cells Av V, stepsR U, stepsR V, argsS M, argsS K] [⟨0, [], 0⟩, ⟨1, [], 0⟩, ⟨4, [], 0⟩, ⟨5, [], 0⟩, ⟨2, [], 1⟩, ⟨3, [], 1⟩, ⟨6, [], 1⟩, ⟨7, [], 1⟩, ⟨8, [], 3⟩, ⟨9, [], 0⟩] mixed (by kernel_rfl) (oks_cons (oks_at 0 rfl) (oks_cons (oks_at 1 rfl) (oks_cons (oks_at 2 rfl) (oks_cons (oks_at 3 rfl) (oks_cons (oks_at 4 rfl) (oks_cons (oks_at 5 rfl) (oks_nil _))))))) ?_
      refine FlowS.free rfl rfl rfl rfl (Rd.move rfl rfl) ?_
      refine FlowS.free rfl rfl rfl rfl (Rd.move rfl rfl) ?_
      refine FlowS.free rfl rfl rfl rfl (Rd.move rfl rfl) ?_
      refine FlowS.free rfl rfl rfl rfl (Rd.move rfl rfl) ?_
      refine FlowS.rd rfl rfl rfl rfl (Rd.indexRos encS (i := 0) (j := i) rfl rfl rfl s26 rfl hx) ?_
      refine FlowS.rd rfl rfl rfl rfl (Rd.load (i := 0) rfl rfl c22 rfl (gives_1 (ros_gives encS hx) rfl)) ?_
      refine FlowS.rd rfl rfl rfl rfl (Rd.indexRos encS (i := 1) (j := i) rfl rfl rfl s26 rfl hy) ?_
      refine FlowS.rd rfl rfl rfl rfl (Rd.load (i := 1) rfl rfl c22 rfl (gives_1 (ros_gives encS hy) rfl)) ?_
      refine FlowS.callQ rfl rfl rfl rfl (Ent.fn rfl rfl ca25) (sames_fn x.A y.A x.cap y.cap x.l y.l (hA x (List.mem_of_getElem? hx)) (hB x (List.mem_of_getElem? hx))) rfl (oks_cons (oks_stepR 2 rfl (List.mem_of_getElem? hx)) (oks_cons (oks_stepR 3 rfl (List.mem_of_getElem? hy)) (oks_cons ((argsS_sub 4 rfl (sub_args (hM x (List.mem_of_getElem? hx)))).2) (oks_cons ((argsS_sub 5 rfl (sub_args (hK y (List.mem_of_getElem? hy)))).2) (oks_nil _))))) ?_
      refine FlowS.free rfl rfl rfl rfl (Rd.not rfl rfl) ?_
      refine FlowS.fin ?_
      refine To.as [ros St.cells Au U, ros St.cells Av V, stepsR U, stepsR V, argsS M, argsS K] rfl ?_
      refine To.thenN ?_
      refine To.cond rfl (fun c25 => ?_) (fun c25 => ?_)
      ·
        refine To.seq ?_
        refine To.reg ?_
        refine To.rd rfl rfl rfl (Rd.assign rfl rfl) ?_
        refine To.nil ?_
        refine To.thenN ?_
        refine To.ret ?_
        refine To.blockR ?_
        refine To.thenR ?_
        refine To.thenR ?_
        refine To.blockR ?_
        refine To.thenR ?_
        refine To.end1 (.inl rfl) Try.results13 rfl ?_
        simp [tv_no hx hy (by simpa using c25)]
      ·
        refine To.skip ?_
        refine To.blockN ?_
        refine To.thenN ?_
        refine To.reg ?_
        refine To.rd rfl rfl rfl (Rd.inc rfl rfl rfl (by omega)) ?_
        refine To.rd rfl rfl rfl (Rd.move rfl rfl) ?_
        refine To.nil ?_
        refine To.thenN ?_
        refine To.sub [(0, .slice Au U.length cu), (1, .slice Av V.length cv), (12, .int .i64 ((U.length : Nat) : Int)), (13, .int .i64 (((i + 1) : Nat) : Int))] ⟨rfl, rfl, rfl, rfl, trivial⟩ ?_
        refine To.only [0, 0, 0, 0, 0, 0] rfl ?_
        refine To.again (U.length - (i + 1)) (by omega) ⟨i + 1, rfl, rfl, rfl, (by omega), (tv_step hx hy hI (by simpa using c25))⟩
    ·
      refine To.exit ?_
      refine To.thenX ?_
      refine To.thenX ?_
      refine To.blockX ?_
      refine To.thenN ?_
      refine To.seq ?_
      refine To.reg ?_
      refine To.rd rfl rfl rfl (Rd.assign rfl rfl) ?_
      refine To.nil ?_
      refine To.thenN ?_
      refine To.ret ?_
      refine To.end1 (.inl rfl) Try.results13 rfl ?_
      obtain rfl : i = U.length := by omega
      rw [List.take_length, hlen, List.take_length] at hI
      simp [hI]
set_option maxHeartbeats 2000000 in
set_option maxRecDepth 100000 in
theorem equalS_fn (Au Av : Option Addr) (cu cv : Nat) (U V : List St) (M K : List (Option Addr × List Int)) (hM : ∀ s ∈ U, ∀ e ∈ s.l, e.ar ∈ M) (hK : ∀ s ∈ V, ∀ e ∈ s.l, e.ar ∈ K) (hA : ∀ s ∈ U, ∀ e ∈ s.l, e.args.length ≤ 1000000000000) (hB : ∀ s ∈ U, s.l.length ≤ 1000000000000) (hU : U.length ≤ 1000000) :
    Does Try.prog 41 [.slice Au U.length cu, .slice Av V.length cv, .func (.func 42) #[] #[]] [ros St.cells Au U, ros St.cells Av V, stepsR U, stepsR V, argsS M, argsS K] (fun v _ => v = .bool (decide (valsT U = valsT V))) := by
  refine Does.enter Try.func41 rfl Try.ntmps41 rfl (fun w0 => ?_)
  refine To.seq ?_
  refine To.reg ?_
  refine To.rd rfl rfl rfl (Rd.assign rfl rfl) ?_
  refine To.nil ?_
  refine To.thenN ?_
  refine To.seq ?_
  refine To.seq ?_
  refine To.reg ?_
  refine To.rd rfl rfl rfl (Rd.move rfl rfl) ?_
  refine To.rd rfl rfl rfl (Rd.len rfl rfl Try.underlying26) ?_
  refine To.rd rfl rfl rfl (Rd.move rfl rfl) ?_
  refine To.rd rfl rfl rfl (Rd.len rfl rfl Try.underlying26) ?_
  refine To.rd rfl rfl rfl (Rd.neq rfl rfl rfl) ?_
  refine To.nil ?_
  refine To.thenN ?_
  refine To.condP rfl (fun c14 => ?_) (fun c14 => ?_)
  ·
    refine To.seq ?_
    refine To.reg ?_
    refine To.rd rfl rfl rfl (Rd.assign rfl rfl) ?_
    refine To.nil ?_
    refine To.thenN ?_
    refine To.ret ?_
    refine To.thenR ?_
    refine To.end1 (.inl rfl) Try.results41 rfl ?_
    have : ¬ valsT U = valsT V := fun h => by have := congrArg List.length h; simp [valsT] at this; omega
    simp [this]
  ·
    have hlen : U.length = V.length := by omega
    refine To.skip ?_
    refine To.thenN ?_
    refine To.seq ?_
    refine To.seq ?_
    refine To.reg ?_
    refine To.rd rfl rfl rfl (Rd.move rfl rfl) ?_
    refine To.rd rfl rfl rfl (Rd.len rfl rfl Try.underlying26) ?_
    refine To.rd rfl rfl rfl (Rd.move rfl rfl) ?_
    refine To.nil ?_
    refine To.thenN ?_
    refine To.block ?_
    refine To.sub [(1, .slice Av V.length cv), (2, .func (.func 42) #[] #[]), (15, .slice Au U.length cu), (16, .int .i64 ((U.length : Nat) : Int)), (17, .int .i64 ((0 : Nat) : Int))] ⟨rfl, rfl, rfl, rfl, rfl, trivial⟩ ?_
    refine To.only [0, 0, 0, 0, 0, 0] rfl ?_
    refine To.loop (fun mz ρ Γ => ∃ (i : Nat), ρ = [(1, .slice Av V.length cv), (2, .func (.func 42) #[] #[]), (15, .slice Au U.length cu), (16, .int .i64 ((U.length : Nat) : Int)), (17, .int .i64 ((i : Nat) : Int))] ∧ Γ = [ros St.cells Au U, ros St.cells Av V, stepsR U, stepsR V, argsS M, argsS K] ∧ mz = U.length - i ∧ (i ≤ U.length) ∧ (valsT (U.take i) = valsT (V.take i))) (U.length - 0) ⟨0, rfl, rfl, rfl, (Nat.zero_le _), rfl⟩ ?_
    rintro mz _ _ ⟨i, rfl, rfl, rfl, hi, hI⟩
    refine To.seq ?_
    refine To.reg ?_
    refine To.rd rfl rfl rfl (Rd.lss rfl rfl rfl) ?_
    refine To.nil ?_
    refine To.thenN ?_
    refine To.seq ?_
    refine To.condP rfl (fun c18 => ?_) (fun c18 => ?_)
    ·
      obtain ⟨x, hx⟩ : ∃ z0, U[i]? = some z0 := ⟨U[i]'(by omega), List.getElem?_eq_getElem _⟩
      obtain ⟨y, hy⟩ : ∃ z0, V[i]? = some z0 := ⟨V[i]'(by omega), List.getElem?_eq_getElem _⟩
      refine To.skip ?_
      refine To.thenN ?_
      refine To.seq ?_
      refine To.block ?_
      refine To.seq ?_
      refine To.reg ?_
      refine To.rd rfl rfl rfl (Rd.move rfl rfl) ?_
      refine To.rd rfl rfl rfl (Rd.indexRos encS (i := 0) (j := i) rfl rfl rfl s26 rfl hx) ?_
      refine To.rd rfl rfl rfl (Rd.load (i := 0) rfl rfl c22 rfl (gives_1 (ros_gives encS hx) rfl)) ?_
      refine To.rd rfl rfl rfl (Rd.assign rfl rfl) ?_
      refine To.rd rfl rfl rfl (Rd.assign rfl rfl) ?_
      refine To.nil ?_
      refine To.thenN ?_
      refine To.seq ?_
      refine To.reg ?_
      refine To.rd rfl rfl rfl (Rd.move rfl rfl) ?_
      refine To.rd rfl rfl rfl (Rd.move rfl rfl) ?_
      refine To.rd rfl rfl rfl (Rd.indexRos encS (i := 1) (j := i) rfl rfl rfl s26 rfl hy) ?_
      refine To.rd rfl rfl rfl (Rd.load (i := 1) rfl rfl c22 rfl (gives_1 (ros_gives encS hy) rfl)) ?_
      refine To.rd rfl rfl rfl (Rd.assign rfl rfl) ?_
      refine To.nil ?_
      refine To.thenN ?_
      refine To.seq ?_
      refine To.reg ?_
      refine To.rd rfl rfl rfl (Rd.move rfl rfl) ?_
      refine To.rd rfl rfl rfl (Rd.move rfl rfl) ?_
      refine To.rd rfl rfl rfl (Rd.move rfl rfl) ?_
      refine To.callV rfl rfl rfl (Ent.func (first := []) (captured := []) rfl rfl rfl ca42) (equal1_fn x.A y.A x.cap y.cap x.l y.l (hA x (List.mem_of_getElem? hx)) (hB x (List.mem_of_getElem? hx))) rfl (oks_cons (oks_stepR 2 rfl (List.mem_of_getElem? hx)) (oks_cons (oks_stepR 3 rfl (List.mem_of_getElem? hy)) (oks_cons ((argsS_sub 4 rfl (sub_args (hM x (List.mem_of_getElem? hx)))).2) (oks_cons ((argsS_sub 5 rfl (sub_args (hK y (List.mem_of_getElem? hy)))).2) (oks_nil _))))) ?_
      refine To.rd rfl rfl rfl (Rd.not rfl rfl) ?_
      refine To.nil ?_
      refine To.thenN ?_
      refine To.cond rfl (fun c30 => ?_) (fun c30 => ?_)
      ·
        refine To.seq ?_
        refine To.reg ?_
        refine To.rd rfl rfl rfl (Rd.assign rfl rfl) ?_
        refine To.nil ?_
        refine To.thenN ?_
        refine To.ret ?_
        refine To.blockR ?_
        refine To.thenR ?_
        refine To.thenR ?_
        refine To.blockR ?_
        refine To.thenR ?_
        refine To.end1 (.inl rfl) Try.results41 rfl ?_
        simp [tv_no hx hy (by simpa using c30)]
      ·
        refine To.skip ?_
        refine To.blockN ?_
        refine To.thenN ?_
        refine To.reg ?_
        refine To.rd rfl rfl rfl (Rd.inc rfl rfl rfl (by omega)) ?_
        refine To.rd rfl rfl rfl (Rd.move rfl rfl) ?_
        refine To.nil ?_
        refine To.thenN ?_
        refine To.sub [(1, .slice Av V.length cv), (2, .func (.func 42) #[] #[]), (15, .slice Au U.length cu), (16, .int .i64 ((U.length : Nat) : Int)), (17, .int .i64 (((i + 1) : Nat) : Int))] ⟨rfl, rfl, rfl, rfl, rfl, trivial⟩ ?_
        refine To.only [0, 0, 0, 0, 0, 0] rfl ?_
        refine To.again (U.length - (i + 1)) (by omega) ⟨i + 1, rfl, rfl, rfl, (by omega), (tv_step hx hy hI (by simpa using c30))⟩
    ·
      refine To.exit ?_
      refine To.thenX ?_
      refine To.thenX ?_
      refine To.blockX ?_
      refine To.thenN ?_
      refine To.seq ?_
      refine To.reg ?_
      refine To.rd rfl rfl rfl (Rd.assign rfl rfl) ?_
      refine To.nil ?_
      refine To.thenN ?_
      refine To.ret ?_
      refine To.end1 (.inl rfl) Try.results41 rfl ?_
      obtain rfl : i = U.length := by omega
      rw [List.take_length, hlen, List.take_length] at hI
      simp [hI]
set_option maxHeartbeats 2000000 in
set_option maxRecDepth 100000 in
theorem equiv_fn (Aa Ab : Option Addr) (ca cb : Nat) (a b : List Ev) (hal : a.length ≤ 1000000) (haa : ∀ e ∈ a, e.args.length ≤ 1000000000000) (hbl : b.length ≤ 1000000) (hba : ∀ e ∈ b, e.args.length ≤ 1000000000000) :
    Does Try.prog 24 [.slice Aa a.length ca, .slice Ab b.length cb] [ros Ev.cells Aa a, ros Ev.cells Ab b, argsS (a.map Ev.ar), argsS (b.map Ev.ar)] (fun v _ => v = .bool (decide (normV a = normV b))) := by
  refine Does.enter Try.func24 rfl Try.ntmps24 rfl (fun w0 => ?_)
  refine To.seq ?_
  refine To.reg ?_
  refine To.rd rfl rfl rfl (Rd.assign rfl rfl) ?_
  refine To.nil ?_
  refine To.thenN ?_
  refine To.seq ?_
  refine To.seq ?_
  refine To.reg ?_
  refine To.rd rfl rfl rfl (Rd.move rfl rfl) ?_
  refine To.rd rfl rfl rfl (Rd.len rfl rfl Try.underlying22) ?_
  refine To.rd rfl rfl rfl (Rd.move rfl rfl) ?_
  refine To.rd rfl rfl rfl (Rd.len rfl rfl Try.underlying22) ?_
  refine To.rd rfl rfl rfl (Rd.neq rfl rfl rfl) ?_
  refine To.nil ?_
  refine To.thenN ?_
  refine To.condP rfl (fun c9 => ?_) (fun c9 => ?_)
  ·
    refine To.seq ?_
    refine To.reg ?_
    refine To.rd rfl rfl rfl (Rd.assign rfl rfl) ?_
    refine To.nil ?_
    refine To.thenN ?_
    refine To.ret ?_
    refine To.thenR ?_
    refine To.end1 (.inl rfl) Try.results24 rfl ?_
    have : ¬ normV a = normV b := fun h => by have := norm_len h; omega
    simp [this]
  ·
    refine To.skip ?_
    refine To.thenN ?_
    refine To.seq ?_
    refine To.reg ?_
    refine To.rd rfl rfl rfl (Rd.move rfl rfl) ?_
    refine To.dup 0 rfl rfl ?_
    refine To.dup 3 rfl rfl ?_
    refine To.call [1, 0] rfl rfl rfl (Ent.fn rfl rfl ca14) rfl (normal_fn Aa ca a hal haa) ?_
    rintro _ _ ⟨AU, qU, U, Ma, rfl, rfl, hU, hMU, hAU⟩
    refine To.as [rows St.cells 22 1 AU qU U, all (U.map St.ch), argsS Ma, ros Ev.cells Aa a, ros Ev.cells Ab b, argsS (a.map Ev.ar), argsS (b.map Ev.ar)] rfl ?_
    refine To.rd rfl rfl rfl (Rd.move rfl rfl) ?_
    refine To.dup 4 rfl rfl ?_
    refine To.dup 7 rfl rfl ?_
    refine To.call [1, 0] rfl rfl rfl (Ent.fn rfl rfl ca14) rfl (normal_fn Ab cb b hbl hba) ?_
    rintro _ _ ⟨AV, qV, V, Mb, rfl, rfl, hV, hMV, hAV⟩
    refine To.as [rows St.cells 22 1 AV qV V, all (V.map St.ch), argsS Mb, rows St.cells 22 1 AU qU U, all (U.map St.ch), argsS Ma, ros Ev.cells Aa a, ros Ev.cells Ab b, argsS (a.map Ev.ar), argsS (b.map Ev.ar)] rfl ?_
    refine To.callV rfl rfl rfl (Ent.fn rfl rfl ca41) (equalS_fn AU AV qU qV U V Ma Mb hMU hMV hAU (fun s hs => Nat.le_trans (len_of_vals hU s hs) (Nat.le_trans hal (by decide))) (Nat.le_trans (steps_of_vals hU) hal)) rfl (oks_cons (oks_row 3 rfl) (oks_cons (oks_row 0 rfl) (oks_cons (oks_steps 4 rfl) (oks_cons (oks_steps 1 rfl) (oks_cons (oks_at 5 rfl) (oks_cons (oks_at 2 rfl) (oks_nil _))))))) ?_
    refine To.rd rfl rfl rfl (Rd.assign rfl rfl) ?_
    refine To.nil ?_
    refine To.thenN ?_
    refine To.ret ?_
    refine To.end1 (.inl rfl) Try.results24 rfl ?_
    rw [hU, hV]
end Go.Proofs.Ytneimfacccgaeaa
