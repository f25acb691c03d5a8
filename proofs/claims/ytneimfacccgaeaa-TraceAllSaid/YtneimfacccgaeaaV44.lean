/- The walk of TraceAll. Own text (walks printed by sx.py). -/
import Derived.Test.YtneimfacccgaeaaV43
namespace Go.Proofs.Ytneimfacccgaeaa
open Go.RowKit Go.Flow Go.Mem Go.Sep
theorem oks_stl {Γ : List Chunk} {T : List St} {k : Nat} {s : St} (i : Nat) (h : Γ[i]? = some (all (T.map St.ch))) (hs : T[k]? = some s) : ∀ w, oks Γ w → (ros Ev.cells s.A s.l).holds w := fun w hw =>
  oks_row (Γ := [rows Ev.cells 37 9 s.A s.cap s.l]) 0 rfl w (fun c hc => by rw [List.mem_singleton.1 hc]; exact oks_all i h (List.mem_map.2 ⟨s, List.mem_of_getElem? hs, rfl⟩) w hw)
theorem argsS_app {Γ : List Chunk} {l m : List (Option Addr × List Int)} (i j : Nat) (hi : Γ[i]? = some (argsS l)) (hj : Γ[j]? = some (argsS m)) : (∀ g ∈ (argsS (l ++ m)).reads, g ∈ reads Γ) ∧ (∀ w, oks Γ w → (argsS (l ++ m)).holds w) :=
  ⟨fun g hg => by
    obtain ⟨p, hp, hg⟩ := List.mem_flatMap.1 hg
    rcases List.mem_append.1 hp with h | h
    · exact mem_reads.2 ⟨_, List.mem_of_getElem? hi, List.mem_flatMap.2 ⟨p, h, hg⟩⟩
    · exact mem_reads.2 ⟨_, List.mem_of_getElem? hj, List.mem_flatMap.2 ⟨p, h, hg⟩⟩, fun w hw p hp => by
    rcases List.mem_append.1 hp with h | h
    · exact hw _ (List.mem_of_getElem? hi) p h
    · exact hw _ (List.mem_of_getElem? hj) p h⟩
/-- What has been seen. -/
def SeenOk (a : List Ev) (T : List St) (M : List (Option Addr × List Int)) (k : Nat) : Prop := T.length = k ∧ ∀ (j : Nat) (s : St), T[j]? = some s → (∃ o, (ords a [])[j]? = some o ∧ s.l.map Ev.val = valsO a o) ∧ ∀ e ∈ s.l, e.ar ∈ M ∧ e.args.length ≤ 1000000000000
theorem SeenOk.nil (a : List Ev) : SeenOk a [] [] 0 := ⟨rfl, fun j s h => by simp at h⟩
theorem SeenOk.push {a : List Ev} {T : List St} {M : List (Option Addr × List Int)} {k : Nat} (h : SeenOk a T M k) {A : Option Addr} {q : Nat} {E : List Ev} {o : List Nat} (ho : (ords a [])[k]? = some o) (hE : E.map Ev.val = valsO a o) (hEa : ∀ e ∈ E, e.args.length ≤ 1000000000000) : SeenOk a (T ++ [⟨A, q, E⟩]) (M ++ E.map Ev.ar) (k + 1) := by
  refine ⟨by rw [List.length_append, h.1]; rfl, fun j s hs => ?_⟩
  rw [List.getElem?_append] at hs
  split at hs
  · obtain ⟨h1, h2⟩ := h.2 j s hs
    exact ⟨h1, fun e he => ⟨List.mem_append_left _ (h2 e he).1, (h2 e he).2⟩⟩
  · rename_i hj
    have hj0 : j - T.length = 0 := by
      rcases Nat.eq_zero_or_pos (j - T.length) with h' | h'
      · exact h'
      · rw [List.getElem?_eq_none (by simp; omega)] at hs; cases hs
    rw [hj0] at hs
    simp only [List.getElem?_cons_zero, Option.some.injEq] at hs
    subst hs
    have : j = k := by have := h.1; omega
    subst this
    exact ⟨⟨o, ho, hE⟩, fun e he => ⟨List.mem_append_right _ (List.mem_map.2 ⟨e, he, rfl⟩), hEa e he⟩⟩
theorem SeenOk.any {a : List Ev} {T : List St} {M : List (Option Addr × List Int)} (h : SeenOk a T M (ords a []).length) {m : List Ev} (hm : m.length = a.length) : (T.any fun s => decide (s.l.map Ev.val = m.map Ev.val)) = decide (normV a = normV m) := by
  have : (T.any fun s => decide (s.l.map Ev.val = m.map Ev.val)) = true ↔ normV a = normV m := by
    rw [norm_iff hm, List.any_eq_true]
    constructor
    · rintro ⟨s, hs, e⟩
      obtain ⟨j, hj⟩ := List.mem_iff_getElem?.1 hs
      obtain ⟨⟨o, ho, hv⟩, _⟩ := h.2 j s hj
      exact ⟨o, List.mem_of_getElem? ho, hv.symm.trans (of_decide_eq_true e)⟩
    · rintro ⟨o, ho, hv⟩
      obtain ⟨j, hj⟩ := List.mem_iff_getElem?.1 ho
      have hjl : j < T.length := by rw [h.1]; exact (List.getElem?_eq_some_iff.1 hj).1
      obtain ⟨⟨o', ho', hv'⟩, _⟩ := h.2 j T[j] (List.getElem?_eq_getElem hjl)
      rw [hj] at ho'
      have := Option.some.inj ho'
      subst this
      exact ⟨T[j], List.getElem_mem _, decide_eq_true (hv'.trans hv)⟩
  by_cases e : normV a = normV m
  · rw [decide_eq_true e]; exact this.2 e
  · rw [decide_eq_false e]
    cases hb : T.any fun s => decide (s.l.map Ev.val = m.map Ev.val)
    · rfl
    · exact (e (this.1 hb)).elim
theorem any_step {T : List St} {p : St → Bool} {q : Nat} {s : St} (hs : T[q]? = some s) : (T.take (q + 1)).any p = ((T.take q).any p || p s) := by
  rw [take_of_get hs, List.any_append]; simp
theorem set2_mem {a : List Ev} {i k : Nat} {u v : Ev} (hu : a[k]? = some u) (hv : a[i]? = some v) : ∀ e ∈ (a.set i u).set k v, e ∈ a := fun e he => by
  rcases List.mem_or_eq_of_mem_set he with h1 | rfl
  · rcases List.mem_or_eq_of_mem_set h1 with h2 | rfl
    · exact h2
    · exact List.mem_of_getElem? hu
  · exact List.mem_of_getElem? hv
theorem seen_len {a : List Ev} {T : List St} {M : List (Option Addr × List Int)} {k : Nat} (h : SeenOk a T M k) (h5 : a.length ≤ 5) {j : Nat} {s : St} (hs : T[j]? = some s) : s.l.length ≤ 1000000 := by
  obtain ⟨⟨o, ho, hv⟩, _⟩ := h.2 j s hs
  have h1 := congrArg List.length hv
  rw [List.length_map, valsO, List.length_map] at h1
  have := (ords_rch (List.mem_of_getElem? ho)).2
  omega
set_option maxHeartbeats 2000000 in
set_option maxRecDepth 100000 in
theorem tall_fn (AX : Option Addr) (cX : Nat) (X : List Ev) (hcX : X.length ≤ cX) (hokX : ∀ e ∈ X, e.ok) :
    Does Try.prog 10 [.slice AX X.length cX] [ros Ev.cells AX X, argsS (X.map Ev.ar)] (fun v _ => v = .bool true) := by
  refine Does.enterM Try.func10 rfl Try.ntmps10 rfl (fun w0 => ?_)
  refine To.seq ?_
  refine To.reg ?_
  refine To.boxed rfl rfl rfl rfl rfl rfl (fun b1 => ?_)
  refine To.alloc rfl rfl rfl rfl z4 (fun b2 => ?_)
  refine To.nil ?_
  refine To.thenN ?_
  refine To.seq ?_
  refine To.seq ?_
  refine To.reg ?_
  refine To.callV rfl rfl rfl (Ent.fn rfl rfl ca11) (awake_fn) rfl (oks_nil _) ?_
  refine To.rd rfl rfl rfl (Rd.not rfl rfl) ?_
  refine To.nil ?_
  refine To.thenN ?_
  refine To.condF rfl ?_
  refine To.skip ?_
  refine To.thenN ?_
  refine To.seq ?_
  refine To.reg ?_
  refine To.rd rfl rfl rfl (Rd.load (i := 1) rfl rfl c22 rfl (box_gives1 rfl)) ?_
  refine To.callQ rfl rfl rfl (Ent.fn rfl rfl ca12) (few_fn AX cX X 5 (by decide) hcX (fun e he => (hokX e he).cap)) rfl (oks_cons (oks_at 2 rfl) (oks_nil _)) ?_
  rintro _ _ ⟨Aa, qa, rfl, rfl⟩
  refine ⟨rfl, ?_⟩
  refine To.as [rows Ev.cells 37 9 Aa qa ((X.take 5).map Ev.cut), box b2 [.bool false] 4, box b1 [.slice AX X.length cX] 22, ros Ev.cells AX X, argsS (X.map Ev.ar)] rfl ?_
  refine To.up rfl rfl (Up.store (i := 2) rfl rfl rfl c22 rfl rfl (box_takesAll rfl)) ?_
  refine To.nil ?_
  refine To.thenN ?_
  refine To.seq ?_
  refine To.know (p := ((X.take 5).map Ev.cut).length ≤ qa) (fun w hw => own_caps 0 rfl hw) (fun hqa => ?_)
  refine To.only [0, 0, 0, 0, 0] rfl ?_
  refine To.layRow ?_
  refine To.derive (argsS (((X.take 5).map Ev.cut).map Ev.ar)) rfl (argsS_cut 4 rfl).1 (argsS_cut 4 rfl).2 ?_
  have hal : ((X.take 5).map Ev.cut).length ≤ 5 := cut_len
  have haa : ∀ e ∈ ((X.take 5).map Ev.cut), e.args.length ≤ 1000000000000 := cut_args
  have hak : ∀ e ∈ ((X.take 5).map Ev.cut), 0 ≤ e.k ∧ e.k < 256 := cut_k hokX
  obtain ⟨a, ha⟩ : ∃ a, a = ((X.take 5).map Ev.cut) := ⟨_, rfl⟩
  rw [← ha] at hal haa hak hqa
  rw [← ha]
  refine To.reg ?_
  refine To.rd rfl rfl rfl (Rd.load (i := 3) rfl rfl c22 rfl (box_gives1 rfl)) ?_
  refine To.callV rfl rfl rfl (Ent.fn rfl rfl ca16) ((count_fn Aa qa a (Nat.le_trans hal (by decide)) hqa).mono (R' := fun v _ => v = .tuple #[.int .u64 (((ords a []).length : Nat) : Int), .bool true]) (fun v _ h => by rw [h, if_pos (Nat.le_trans hal (by decide)), cnt_ords hal])) rfl (oks_cons (oks_at 1 rfl) (oks_nil _)) ?_
  refine To.rd rfl rfl rfl (Rd.move rfl rfl) ?_
  refine To.rd rfl rfl rfl (Rd.extract rfl rfl rfl) ?_
  refine To.rd rfl rfl rfl (Rd.extract rfl rfl rfl) ?_
  refine To.rd rfl rfl rfl (Rd.assign rfl rfl) ?_
  refine To.rd rfl rfl rfl (Rd.assign rfl rfl) ?_
  refine To.nil ?_
  refine To.thenN ?_
  refine To.seq ?_
  refine To.reg ?_
  refine To.alloc rfl rfl rfl rfl z26 (fun b5 => ?_)
  refine To.nil ?_
  refine To.thenN ?_
  refine To.seq ?_
  refine To.seq ?_
  refine To.reg ?_
  refine To.rd rfl rfl rfl (Rd.load (i := 4) rfl rfl c22 rfl (box_gives1 rfl)) ?_
  refine To.dup 2 rfl rfl ?_
  refine To.dup 2 rfl rfl ?_
  refine To.call [1, 0] rfl rfl rfl (Ent.fn rfl rfl ca32) rfl (orders_fn Aa qa a (Nat.le_trans hal (by decide)) haa 1000) ?_
  rintro _ _ ⟨bo1, bo2, Aw, qw, W, hW, hWa, rfl, rfl⟩
  refine To.as [ro (some ⟨bo1, 0, none⟩) [.int .i64 1000], ro (some ⟨bo2, 0, none⟩) [.slice Aw W.length qw], ros Ev.cells Aw W, argsS (W.map Ev.ar), box b5 [.slice none 0 0] 26, argsS (a.map Ev.ar), ros Ev.cells Aa a, box b2 [.bool false] 4, box b1 [.slice Aa a.length qa] 22, ros Ev.cells AX X, argsS (X.map Ev.ar)] rfl ?_
  refine To.nil ?_
  refine To.thenN ?_
  refine To.block ?_
  have hWl0 : W.length = a.length := by have := congrArg List.length hW; simpa using this
  refine To.nilRow St.cells 22 1 (To.allNil (To.free (c := argsS []) rfl rfl (fun w p hp => by simp at hp) ?_))
  refine To.sub [(1, .pointer (some ⟨b1, 0, none⟩)), (2, .pointer (some ⟨b2, 0, none⟩)), (3, .int .u64 (((ords a []).length : Nat) : Int)), (4, .bool true), (5, .pointer (some ⟨b5, 0, none⟩)), (25, .func (.func 45) #[] #[.pointer (some ⟨bo1, 0, none⟩), .pointer (some ⟨bo2, 0, none⟩)])] ⟨rfl, rfl, rfl, rfl, rfl, rfl, trivial⟩ ?_
  refine To.only [3, 3, 3, 3, 3, 2, 1, 0, 2, 2, 1, 0] rfl ?_
  refine To.as [ro (some ⟨bo1, 0, none⟩) [.int .i64 1000], ro (some ⟨bo2, 0, none⟩) [.slice Aw W.length qw], ros Ev.cells Aw W, argsS (W.map Ev.ar), box b5 [.slice none (([] : List St).length) 0] 26, rows St.cells 22 1 none 0 ([] : List St), all (([] : List St).map St.ch), argsS [], box b2 [.bool false] 4, box b1 [.slice Aa a.length qa] 22, ros Ev.cells Aa a, argsS (a.map Ev.ar)] rfl ?_
  refine To.rangeFunc (Γa := [ro (some ⟨bo1, 0, none⟩) [.int .i64 1000], ro (some ⟨bo2, 0, none⟩) [.slice Aw W.length qw], ros Ev.cells Aw W, argsS (W.map Ev.ar)]) (Γc := [box b5 [.slice none (([] : List St).length) 0] 26, rows St.cells 22 1 none 0 ([] : List St), all (([] : List St).map St.ch), argsS [], box b2 [.bool false] 4, box b1 [.slice Aa a.length qa] 22, ros Ev.cells Aa a, argsS (a.map Ev.ar)]) (fun Γ2 => ∃ (T : List St) (At : Option Addr) (qt : Nat) (M : List (Option Addr × List Int)), Γ2 = [box b5 [.slice At T.length qt] 26, rows St.cells 22 1 At qt T, all (T.map St.ch), argsS M, box b2 [.bool false] 4, box b1 [.slice Aa a.length qa] 22, ros Ev.cells Aa a, argsS (a.map Ev.ar)] ∧ SeenOk a T M ((ords W []).take (1000 : Int).toNat).length) (fun _ => False) rfl ca45 (fun lp L hLp hLa hLb hLt => ?_) ?_ ?_
  ·
    refine (iter_fn Aw qw W (by omega) hWa 1000 (by decide) bo1 bo2 lp (fun k c => ∃ (T : List St) (At : Option Addr) (qt : Nat) (M : List (Option Addr × List Int)), c = all (recd lp L .ready none :: [box b5 [.slice At T.length qt] 26, rows St.cells 22 1 At qt T, all (T.map St.ch), argsS M, box b2 [.bool false] 4, box b1 [.slice Aa a.length qa] 22, ros Ev.cells Aa a, argsS (a.map Ev.ar)]) ∧ SeenOk a T M k) (fun _ => False) _ ?_ ⟨[], none, 0, [], rfl, SeenOk.nil a⟩).mono ?_
    ·
      rintro k _ o AE qE E ⟨T, At, qt, M, rfl, hT⟩ hkn ho hE hEa hAE
      refine RoundDoes.of (Γe := [rows Ev.cells 37 9 AE qE E, argsS (E.map Ev.ar)]) hLp hLa hLb hLt rfl (fun w1 => ?_)
      refine To.as [recd lp L .ready none, rows Ev.cells 37 9 AE qE E, argsS (E.map Ev.ar), box b5 [.slice At T.length qt] 26, rows St.cells 22 1 At qt T, all (T.map St.ch), argsS M, box b2 [.bool false] 4, box b1 [.slice Aa a.length qa] 22, ros Ev.cells Aa a, argsS (a.map Ev.ar)] rfl ?_
      have hWl : W.length = a.length := by have := congrArg List.length hW; simpa using this
      have ho2 : (ords a [])[k]? = some o := by rw [← ords_val hW]; exact ho
      have hE2 : E.map Ev.val = valsO a o := by rw [hE, valsO_val hW]
      have hTk := hT.1
      have hEl : E.length ≤ 5 := by
        have h := congrArg List.length hE2
        rw [List.length_map, valsO, List.length_map] at h
        have := (ords_rch (List.mem_of_getElem? ho2)).2
        omega
      refine ToR.reg ?_
      refine ToR.rd rfl rfl rfl (Rd.assign rfl rfl) ?_
      refine ToR.nil ?_
      refine To.thenN (To.begins ?_)
      refine ToR.block ?_
      refine ToR.seq ?_
      refine ToR.seq ?_
      refine ToR.reg ?_
      refine ToR.rd rfl rfl rfl (Rd.load (i := 3) rfl rfl c26 rfl (box_gives1 rfl)) ?_
      refine ToR.rd rfl rfl rfl (Rd.len rfl rfl Try.underlying26) ?_
      refine ToR.rd rfl rfl rfl (Rd.move rfl rfl) ?_
      refine ToR.nil ?_
      refine To.thenN ?_
      refine ToR.block ?_
      refine To.sub [(1, .pointer (some ⟨b1, 0, none⟩)), (2, .pointer (some ⟨b2, 0, none⟩)), (5, .pointer (some ⟨b5, 0, none⟩)), (6, .slice AE E.length qE), (27, .slice At T.length qt), (28, .int .i64 ((T.length : Nat) : Int)), (29, .int .i64 ((0 : Nat) : Int))] ⟨rfl, rfl, rfl, rfl, rfl, rfl, rfl, trivial⟩ ?_
      refine To.only [0, 0, 0, 0, 0, 0, 0, 0, 0, 0, 0] rfl ?_
      refine ToR.loop (fun mz ρ Γ => ∃ (m : Nat), ρ = [(1, .pointer (some ⟨b1, 0, none⟩)), (2, .pointer (some ⟨b2, 0, none⟩)), (5, .pointer (some ⟨b5, 0, none⟩)), (6, .slice AE E.length qE), (27, .slice At T.length qt), (28, .int .i64 ((T.length : Nat) : Int)), (29, .int .i64 ((m : Nat) : Int))] ∧ Γ = [recd lp L .busy none, rows Ev.cells 37 9 AE qE E, argsS (E.map Ev.ar), box b5 [.slice At T.length qt] 26, rows St.cells 22 1 At qt T, all (T.map St.ch), argsS M, box b2 [.bool false] 4, box b1 [.slice Aa a.length qa] 22, ros Ev.cells Aa a, argsS (a.map Ev.ar)] ∧ mz = T.length - m ∧ (m ≤ T.length)) (T.length - 0) ⟨0, rfl, rfl, rfl, (Nat.zero_le _)⟩ ?_
      rintro mz _ _ ⟨m, rfl, rfl, rfl, hm⟩
      refine ToR.seq ?_
      refine ToR.reg ?_
      refine ToR.rd rfl rfl rfl (Rd.lss rfl rfl rfl) ?_
      refine ToR.nil ?_
      refine To.thenN ?_
      refine ToR.seq ?_
      refine ToR.condP rfl (fun c30 => ?_) (fun c30 => ?_)
      ·
        obtain ⟨s, hs⟩ : ∃ z0, T[m]? = some z0 := ⟨T[m]'(by omega), List.getElem?_eq_getElem _⟩
        obtain ⟨⟨o1, ho1, hsv⟩, hsa⟩ := hT.2 m s hs
        have hsl := seen_len hT hal hs
        refine ToR.skip ?_
        refine To.thenN ?_
        refine ToR.seq ?_
        refine ToR.block ?_
        refine ToR.seq ?_
        refine ToR.reg ?_
        refine ToR.rd rfl rfl rfl (Rd.indexRows (i := 4) (j := m) rfl rfl rfl s26 rfl hs) ?_
        refine ToR.rd rfl rfl rfl (Rd.load (i := 4) rfl rfl c22 rfl (gives_1 (rows_gives encS hs) rfl)) ?_
        refine ToR.rd rfl rfl rfl (Rd.assign rfl rfl) ?_
        refine ToR.nil ?_
        refine To.thenN ?_
        refine ToR.seq ?_
        refine ToR.reg ?_
        refine ToR.rd rfl rfl rfl (Rd.move rfl rfl) ?_
        refine ToR.rd rfl rfl rfl (Rd.move rfl rfl) ?_
        refine ToR.callV rfl rfl rfl (Ent.fn rfl rfl ca25) ((sames_fn s.A AE s.cap qE s.l E (fun e he => (hsa e he).2) (Nat.le_trans hsl (by decide))).mono (R' := fun v _ => v = .bool false) (fun v _ h => by rw [h, decide_eq_false]; rw [hsv, hE2]; exact ords_diff ho1 ho2 (by omega))) rfl (oks_cons (oks_stl 5 rfl hs) (oks_cons (oks_row 1 rfl) (oks_cons ((argsS_sub 6 rfl (fun p hp => by obtain ⟨e, he, rfl⟩ := List.mem_map.1 hp; exact (hsa e he).1)).2) (oks_cons (oks_at 2 rfl) (oks_nil _))))) ?_
        refine ToR.nil ?_
        refine To.thenN ?_
        refine ToR.condF rfl ?_
        refine ToR.skip ?_
        refine To.blockN ?_
        refine To.thenN ?_
        refine ToR.reg ?_
        refine ToR.rd rfl rfl rfl (Rd.inc rfl rfl rfl (by omega)) ?_
        refine ToR.rd rfl rfl rfl (Rd.move rfl rfl) ?_
        refine ToR.nil ?_
        refine To.thenN ?_
        refine To.sub [(1, .pointer (some ⟨b1, 0, none⟩)), (2, .pointer (some ⟨b2, 0, none⟩)), (5, .pointer (some ⟨b5, 0, none⟩)), (6, .slice AE E.length qE), (27, .slice At T.length qt), (28, .int .i64 ((T.length : Nat) : Int)), (29, .int .i64 (((m + 1) : Nat) : Int))] ⟨rfl, rfl, rfl, rfl, rfl, rfl, rfl, trivial⟩ ?_
        refine To.only [0, 0, 0, 0, 0, 0, 0, 0, 0, 0, 0] rfl ?_
        refine To.again (T.length - (m + 1)) (by omega) ⟨m + 1, rfl, rfl, rfl, (by omega)⟩
      ·
        refine ToR.exit ?_
        refine To.thenX ?_
        refine To.thenX ?_
        refine To.blockX ?_
        refine To.thenN ?_
        refine ToR.seq ?_
        refine ToR.flow [] [⟨1, [], 0⟩, ⟨2, [], 4⟩, ⟨0, [], 1⟩, ⟨3, [2], 2⟩, ⟨4, [2, 3], 5⟩, ⟨5, [], 5⟩] mixed (by kernel_rfl) (oks_nil _) ?_
        refine FlowS.free rfl rfl rfl rfl (Rd.move rfl rfl) ?_
        refine FlowS.callM rfl rfl rfl rfl rfl (Ent.fn rfl rfl ca30) (cloneS_fn AE qE E hAE (by omega)) rfl (oks_cons (oks_row 1 rfl) (oks_nil _)) ?_
        rintro _ _ ⟨A9, q9, rfl, rfl⟩
        refine ⟨rfl, ?_⟩
        refine FlowS.rd rfl rfl rfl rfl (Rd.load (i := 3) rfl rfl c26 rfl (box_gives1 rfl)) ?_
        refine FlowS.mk rfl rfl rfl rfl rfl (Mk.sliceN (us := [.slice A9 E.length q9]) rfl s26 rfl rfl rfl rfl rfl rfl) ?_
        rintro _ _ ⟨b40, rfl, rfl⟩
        refine FlowS.ge rfl rfl rfl rfl (Ge.append1 encS (i := 6) (j := 0) (el := (⟨A9, q9, E⟩ : St)) rfl s26 rfl rfl rfl rfl rfl (by first | omega | (simp only [List.length_append, List.length_cons, List.length_nil]; omega)) (by first | omega | (simp only [List.length_append, List.length_cons, List.length_nil]; omega))) ?_
        rintro _ _ ⟨A41, q41, rfl, rfl⟩
        refine ⟨oks_nil _, ?_⟩
        refine FlowS.up (Γ' := [row 22 1 (some ⟨b40, 0, none⟩) 1 1 [.slice A9 E.length q9], rows Ev.cells 37 9 A9 q9 E, recd lp L .busy none, rows Ev.cells 37 9 AE qE E, argsS (E.map Ev.ar), box b5 [.slice A41 ((T ++ [(⟨A9, q9, E⟩ : St)]).length) q41] 26, rows St.cells 22 1 A41 q41 (T ++ [(⟨A9, q9, E⟩ : St)]), all (T.map St.ch), argsS M, box b2 [.bool false] 4, box b1 [.slice Aa a.length qa] 22, ros Ev.cells Aa a, argsS (a.map Ev.ar)]) rfl rfl rfl (Up.store (i := 5) rfl rfl rfl c26 rfl rfl (box_takesAll rfl)) (oks_nil _) ?_
        refine FlowS.fin ?_
        refine To.as [row 22 1 (some ⟨b40, 0, none⟩) 1 1 [.slice A9 E.length q9], rows Ev.cells 37 9 A9 q9 E, recd lp L .busy none, rows Ev.cells 37 9 AE qE E, argsS (E.map Ev.ar), box b5 [.slice A41 ((T ++ [(⟨A9, q9, E⟩ : St)]).length) q41] 26, rows St.cells 22 1 A41 q41 (T ++ [(⟨A9, q9, E⟩ : St)]), all (T.map St.ch), argsS M, box b2 [.bool false] 4, box b1 [.slice Aa a.length qa] 22, ros Ev.cells Aa a, argsS (a.map Ev.ar)] rfl ?_
        refine To.thenN ?_
        refine ToR.seq ?_
        refine ToR.reg ?_
        refine ToR.rd rfl rfl rfl (Rd.load (i := 10) rfl rfl c22 rfl (box_gives1 rfl)) ?_
        refine ToR.rd rfl rfl rfl (Rd.move rfl rfl) ?_
        refine ToR.callV rfl rfl rfl (Ent.fn rfl rfl ca24) ((equiv_fn Aa AE qa qE a E (Nat.le_trans hal (by decide)) haa (by omega) hEa).mono (R' := fun v _ => v = .bool true) (fun v _ h => by rw [h, norm_order hE2 (ords_rch (List.mem_of_getElem? ho2)).1 (ords_rch (List.mem_of_getElem? ho2)).2]; simp)) rfl (oks_cons (oks_at 11 rfl) (oks_cons (oks_row 3 rfl) (oks_cons (oks_at 12 rfl) (oks_cons (oks_at 4 rfl) (oks_nil _))))) ?_
        refine ToR.rd rfl rfl rfl (Rd.not rfl rfl) ?_
        refine ToR.nil ?_
        refine To.thenN ?_
        refine ToR.condF rfl ?_
        refine ToR.skip ?_
        refine To.blockN ?_
        refine To.derive (argsS (M ++ E.map Ev.ar)) rfl (argsS_app 8 4 rfl rfl).1 (argsS_app 8 4 rfl rfl).2 ?_
        refine To.only [2, 7, 0, 0, 0, 0, 0, 0, 0, 0, 0, 0, 0, 0] rfl ?_
        refine To.allPush ?_
        rw [chs_pushS]
        refine To.only [3, 5, 5, 0, 0, 4, 4, 4, 4] rfl ?_
        refine To.roundN ?_
        exact ⟨_, rfl, .inl ⟨rfl, T ++ [(⟨A9, q9, E⟩ : St)], A41, q41, M ++ E.map Ev.ar, rfl, hT.push ho2 hE2 hEa⟩⟩
    ·
      rintro v Γ' ⟨c', rfl, (⟨T, At, qt, M, rfl, hT⟩ | h)⟩
      · exact ⟨_, .inl ⟨rfl, T, At, qt, M, rfl, hT⟩⟩
      · exact h.elim
  ·
    rintro D _ ⟨T, At, qt, M, rfl, hT⟩
    refine To.as [dfr D, box b5 [.slice At T.length qt] 26, rows St.cells 22 1 At qt T, all (T.map St.ch), argsS M, box b2 [.bool false] 4, box b1 [.slice Aa a.length qa] 22, ros Ev.cells Aa a, argsS (a.map Ev.ar)] rfl ?_
    refine To.blockN ?_
    refine To.thenN ?_
    refine To.seq ?_
    refine To.seq ?_
    have hlen : T.length = (ords a []).length := by
      rw [hT.1, ords_val hW, List.take_of_length_le]
      exact Nat.le_trans (ords_len5 hal) (by decide)
    have hl120 := ords_len5 hal
    have hT2 : SeenOk a T M (ords a []).length := ⟨hlen, hT.2⟩
    refine To.reg ?_
    refine To.rd rfl rfl rfl (Rd.move rfl rfl) ?_
    refine To.rd rfl rfl rfl (Rd.not rfl rfl) ?_
    refine To.rd rfl rfl rfl (Rd.move rfl rfl) ?_
    refine To.rd rfl rfl rfl (Rd.move rfl rfl) ?_
    refine To.rd rfl rfl rfl (Rd.load (i := 1) rfl rfl c26 rfl (box_gives1 rfl)) ?_
    refine To.rd rfl rfl rfl (Rd.len rfl rfl Try.underlying26) ?_
    refine To.rd rfl rfl rfl (Rd.conv rfl rfl Try.underlying3 Try.underlying30 (wrapU (by first | omega | (simp only [List.length_append, List.length_cons, List.length_nil]; omega)))) ?_
    refine To.rd rfl rfl rfl (Rd.neq rfl rfl rfl) ?_
    refine To.rd rfl rfl rfl (Rd.pickF rfl rfl rfl) ?_
    refine To.nil ?_
    refine To.thenN ?_
    refine To.condP rfl (fun c54 => ?_) (fun c54 => ?_)
    ·
      omega
    ·
      refine To.skip ?_
      refine To.thenN ?_
      refine To.seq ?_
      refine To.seq ?_
      refine To.reg ?_
      refine To.rd rfl rfl rfl (Rd.load (i := 6) rfl rfl c22 rfl (box_gives1 rfl)) ?_
      refine To.rd rfl rfl rfl (Rd.len rfl rfl Try.underlying22) ?_
      refine To.rd rfl rfl rfl (Rd.move rfl rfl) ?_
      refine To.nil ?_
      refine To.thenN ?_
      refine To.block ?_
      refine To.sub [(1, .pointer (some ⟨b1, 0, none⟩)), (2, .pointer (some ⟨b2, 0, none⟩)), (5, .pointer (some ⟨b5, 0, none⟩)), (56, .int .i64 ((a.length : Nat) : Int)), (57, .int .i64 ((0 : Nat) : Int))] ⟨rfl, rfl, rfl, rfl, rfl, trivial⟩ ?_
      refine To.only [0, 0, 0, 0, 0, 0, 0, 0, 0] rfl ?_
      refine To.loop (fun mz ρ Γ => ∃ (i : Nat), ρ = [(1, .pointer (some ⟨b1, 0, none⟩)), (2, .pointer (some ⟨b2, 0, none⟩)), (5, .pointer (some ⟨b5, 0, none⟩)), (56, .int .i64 ((a.length : Nat) : Int)), (57, .int .i64 ((i : Nat) : Int))] ∧ Γ = [dfr D, box b5 [.slice At T.length qt] 26, rows St.cells 22 1 At qt T, all (T.map St.ch), argsS M, box b2 [.bool false] 4, box b1 [.slice Aa a.length qa] 22, ros Ev.cells Aa a, argsS (a.map Ev.ar)] ∧ mz = a.length - i ∧ (i ≤ a.length)) (a.length - 0) ⟨0, rfl, rfl, rfl, (Nat.zero_le _)⟩ ?_
      rintro mz _ _ ⟨i, rfl, rfl, rfl, hi⟩
      refine To.seq ?_
      refine To.reg ?_
      refine To.rd rfl rfl rfl (Rd.lss rfl rfl rfl) ?_
      refine To.nil ?_
      refine To.thenN ?_
      refine To.seq ?_
      refine To.condP rfl (fun c58 => ?_) (fun c58 => ?_)
      ·
        refine To.know (p := Aa.isNone = false) (fun w hw => ros_some encE (by decide) (l := a) (by omega) 7 rfl hw) (fun hAa => ?_)
        refine To.skip ?_
        refine To.thenN ?_
        refine To.seq ?_
        refine To.block ?_
        refine To.seq ?_
        refine To.reg ?_
        refine To.rd rfl rfl rfl (Rd.move rfl rfl) ?_
        refine To.rd rfl rfl rfl (Rd.assign rfl rfl) ?_
        refine To.nil ?_
        refine To.thenN ?_
        refine To.seq ?_
        refine To.reg ?_
        refine To.rd rfl rfl rfl (Rd.move rfl rfl) ?_
        refine To.rd rfl rfl rfl (Rd.move rfl rfl) ?_
        refine To.nil ?_
        refine To.thenN ?_
        refine To.block ?_
        refine To.sub [(1, .pointer (some ⟨b1, 0, none⟩)), (2, .pointer (some ⟨b2, 0, none⟩)), (5, .pointer (some ⟨b5, 0, none⟩)), (9, .int .i64 ((i : Nat) : Int)), (56, .int .i64 ((a.length : Nat) : Int)), (57, .int .i64 ((i : Nat) : Int)), (60, .int .i64 ((i : Nat) : Int)), (61, .int .i64 ((0 : Nat) : Int))] ⟨rfl, rfl, rfl, rfl, rfl, rfl, rfl, rfl, trivial⟩ ?_
        refine To.only [0, 0, 0, 0, 0, 0, 0, 0, 0] rfl ?_
        refine To.loop (fun mz ρ Γ => ∃ (k : Nat), ρ = [(1, .pointer (some ⟨b1, 0, none⟩)), (2, .pointer (some ⟨b2, 0, none⟩)), (5, .pointer (some ⟨b5, 0, none⟩)), (9, .int .i64 ((i : Nat) : Int)), (56, .int .i64 ((a.length : Nat) : Int)), (57, .int .i64 ((i : Nat) : Int)), (60, .int .i64 ((i : Nat) : Int)), (61, .int .i64 ((k : Nat) : Int))] ∧ Γ = [dfr D, box b5 [.slice At T.length qt] 26, rows St.cells 22 1 At qt T, all (T.map St.ch), argsS M, box b2 [.bool false] 4, box b1 [.slice Aa a.length qa] 22, ros Ev.cells Aa a, argsS (a.map Ev.ar)] ∧ mz = i - k ∧ (k ≤ i)) (i - 0) ⟨0, rfl, rfl, rfl, (Nat.zero_le _)⟩ ?_
        rintro mz _ _ ⟨k, rfl, rfl, rfl, hk⟩
        refine To.seq ?_
        refine To.reg ?_
        refine To.rd rfl rfl rfl (Rd.lss rfl rfl rfl) ?_
        refine To.nil ?_
        refine To.thenN ?_
        refine To.seq ?_
        refine To.condP rfl (fun c62 => ?_) (fun c62 => ?_)
        ·
          refine To.skip ?_
          refine To.thenN ?_
          refine To.seq ?_
          refine To.block ?_
          refine To.seq ?_
          refine To.reg ?_
          refine To.rd rfl rfl rfl (Rd.move rfl rfl) ?_
          refine To.rd rfl rfl rfl (Rd.assign rfl rfl) ?_
          refine To.nil ?_
          refine To.thenN ?_
          refine To.seq ?_
          refine To.reg ?_
          refine To.rd rfl rfl rfl (Rd.load (i := 6) rfl rfl c22 rfl (box_gives1 rfl)) ?_
          refine To.callQ rfl rfl rfl (Ent.fn rfl rfl ca30) (cloneS_fn Aa qa a hAa (Nat.le_trans hal (by decide))) rfl (oks_cons (oks_at 7 rfl) (oks_nil _)) ?_
          rintro _ _ ⟨Am, qm, rfl, rfl⟩
          refine ⟨rfl, ?_⟩
          refine To.as [rows Ev.cells 37 9 Am qm a, dfr D, box b5 [.slice At T.length qt] 26, rows St.cells 22 1 At qt T, all (T.map St.ch), argsS M, box b2 [.bool false] 4, box b1 [.slice Aa a.length qa] 22, ros Ev.cells Aa a, argsS (a.map Ev.ar)] rfl ?_
          refine To.rd rfl rfl rfl (Rd.assign rfl rfl) ?_
          refine To.nil ?_
          refine To.thenN ?_
          refine To.seq ?_
          obtain ⟨u, hu⟩ : ∃ z0, a[k]? = some z0 := ⟨a[k]'(by omega), List.getElem?_eq_getElem _⟩
          obtain ⟨v, hv⟩ : ∃ z0, a[i]? = some z0 := ⟨a[i]'(by omega), List.getElem?_eq_getElem _⟩
          have hl2 : k < (a.set i u).length := by rw [List.length_set]; omega
          refine To.know (p := Am = some ⟨blk Am, ofs Am, none⟩) (fun w hw => rows_some encE (by decide) (l := a) (by omega) 0 rfl hw) (fun hAm => ?_)
          refine To.flow [] [⟨0, [], 0⟩, ⟨1, [], 0⟩, ⟨2, [], 0⟩, ⟨3, [], 0⟩, ⟨4, [], 0⟩, ⟨5, [], 0⟩, ⟨6, [], 0⟩, ⟨8, [], 0⟩, ⟨9, [], 0⟩, ⟨10, [], 0⟩, ⟨7, [], 1⟩, ⟨11, [], 1⟩, ⟨12, [], 0⟩, ⟨13, [], 5⟩, ⟨14, [], 0⟩, ⟨15, [], 5⟩] mixed (by kernel_rfl) (oks_nil _) ?_
          refine FlowS.free rfl rfl rfl rfl (Rd.move rfl rfl) ?_
          refine FlowS.free rfl rfl rfl rfl (Rd.move rfl rfl) ?_
          refine FlowS.free rfl rfl rfl rfl (Rd.move rfl rfl) ?_
          refine FlowS.free rfl rfl rfl rfl (Rd.move rfl rfl) ?_
          refine FlowS.free rfl rfl rfl rfl (Rd.move rfl rfl) ?_
          refine FlowS.free rfl rfl rfl rfl (Rd.move rfl rfl) ?_
          refine FlowS.free rfl rfl rfl rfl (Rd.indexS (j := k) hAm rfl rfl rfl s22 (by omega)) ?_
          refine FlowS.free rfl rfl rfl rfl (Rd.move rfl rfl) ?_
          refine FlowS.free rfl rfl rfl rfl (Rd.move rfl rfl) ?_
          refine FlowS.free rfl rfl rfl rfl (Rd.indexS (j := i) hAm rfl rfl rfl s22 (by omega)) ?_
          refine FlowS.rd rfl rfl rfl rfl (Rd.loadS (i := 0) rfl rfl r37 rfl (rows_gives encE hu) (encE.len _)) ?_
          refine FlowS.rd rfl rfl rfl rfl (Rd.loadS (i := 0) rfl rfl r37 rfl (rows_gives encE hv) (encE.len _)) ?_
          refine FlowS.free rfl rfl rfl rfl (Rd.indexS (j := i) hAm rfl rfl rfl s22 (by omega)) ?_
          refine FlowS.up (Γ' := [rows Ev.cells 37 9 Am qm (a.set i u), dfr D, box b5 [.slice At T.length qt] 26, rows St.cells 22 1 At qt T, all (T.map St.ch), argsS M, box b2 [.bool false] 4, box b1 [.slice Aa a.length qa] 22, ros Ev.cells Aa a, argsS (a.map Ev.ar)]) rfl rfl rfl (Up.storeS (i := 0) (us := Ev.cells u) rfl rfl rfl r37 (encE.len _) rfl rfl (rows_takes encE (by decide) (by omega))) (oks_nil _) ?_
          refine FlowS.free rfl rfl rfl rfl (Rd.indexS (j := k) hAm rfl rfl rfl s22 (by omega)) ?_
          refine FlowS.up (Γ' := [rows Ev.cells 37 9 Am qm ((a.set i u).set k v), dfr D, box b5 [.slice At T.length qt] 26, rows St.cells 22 1 At qt T, all (T.map St.ch), argsS M, box b2 [.bool false] 4, box b1 [.slice Aa a.length qa] 22, ros Ev.cells Aa a, argsS (a.map Ev.ar)]) rfl rfl rfl (Up.storeS (i := 0) (us := Ev.cells v) rfl rfl rfl r37 (encE.len _) rfl rfl (rows_takes encE (by decide) (by omega))) (oks_nil _) ?_
          refine FlowS.fin ?_
          refine To.as [rows Ev.cells 37 9 Am qm ((a.set i u).set k v), dfr D, box b5 [.slice At T.length qt] 26, rows St.cells 22 1 At qt T, all (T.map St.ch), argsS M, box b2 [.bool false] 4, box b1 [.slice Aa a.length qa] 22, ros Ev.cells Aa a, argsS (a.map Ev.ar)] rfl ?_
          refine To.sub [(1, .pointer (some ⟨b1, 0, none⟩)), (2, .pointer (some ⟨b2, 0, none⟩)), (5, .pointer (some ⟨b5, 0, none⟩)), (9, .int .i64 ((i : Nat) : Int)), (56, .int .i64 ((a.length : Nat) : Int)), (57, .int .i64 ((i : Nat) : Int)), (60, .int .i64 ((i : Nat) : Int)), (61, .int .i64 ((k : Nat) : Int)), (62, .bool (decide (((k : Nat) : Int) < ((i : Nat) : Int)))), (10, .int .i64 ((k : Nat) : Int)), (11, .slice Am a.length qm)] ⟨rfl, rfl, rfl, rfl, rfl, rfl, rfl, rfl, rfl, rfl, rfl, trivial⟩ ?_
          refine To.thenN ?_
          refine To.seq ?_
          have hom := set2_mem hu hv
          have hOl : ((a.set i u).set k v).length = a.length := by rw [List.length_set, List.length_set]
          have hoa : ∀ e ∈ ((a.set i u).set k v), e.args.length ≤ 1000000000000 := fun e he => haa e (hom e he)
          refine To.sub [(1, .pointer (some ⟨b1, 0, none⟩)), (2, .pointer (some ⟨b2, 0, none⟩)), (5, .pointer (some ⟨b5, 0, none⟩)), (9, .int .i64 ((i : Nat) : Int)), (56, .int .i64 ((a.length : Nat) : Int)), (57, .int .i64 ((i : Nat) : Int)), (60, .int .i64 ((i : Nat) : Int)), (61, .int .i64 ((k : Nat) : Int)), (10, .int .i64 ((k : Nat) : Int)), (11, .slice Am (((a.set i u).set k v).length) qm)] ⟨rfl, rfl, rfl, rfl, rfl, rfl, rfl, rfl, rfl, by rw [List.length_set, List.length_set]; rfl, trivial⟩ ?_
          refine To.reg ?_
          refine To.rd rfl rfl rfl (Rd.assign rfl rfl) ?_
          refine To.nil ?_
          refine To.thenN ?_
          refine To.seq ?_
          refine To.seq ?_
          refine To.reg ?_
          refine To.rd rfl rfl rfl (Rd.load (i := 2) rfl rfl c26 rfl (box_gives1 rfl)) ?_
          refine To.rd rfl rfl rfl (Rd.len rfl rfl Try.underlying26) ?_
          refine To.rd rfl rfl rfl (Rd.move rfl rfl) ?_
          refine To.nil ?_
          refine To.thenN ?_
          refine To.block ?_
          refine To.sub [(1, .pointer (some ⟨b1, 0, none⟩)), (2, .pointer (some ⟨b2, 0, none⟩)), (5, .pointer (some ⟨b5, 0, none⟩)), (9, .int .i64 ((i : Nat) : Int)), (11, .slice Am (((a.set i u).set k v).length) qm), (12, .bool false), (56, .int .i64 ((a.length : Nat) : Int)), (57, .int .i64 ((i : Nat) : Int)), (60, .int .i64 ((i : Nat) : Int)), (61, .int .i64 ((k : Nat) : Int)), (80, .slice At T.length qt), (81, .int .i64 ((T.length : Nat) : Int)), (82, .int .i64 ((0 : Nat) : Int))] ⟨rfl, rfl, rfl, rfl, rfl, rfl, rfl, rfl, rfl, rfl, rfl, rfl, rfl, trivial⟩ ?_
          refine To.only [1, 0, 0, 0, 0, 0, 0, 0, 0, 0] rfl ?_
          refine To.loop (fun mz ρ Γ => ∃ (q : Nat) (b : Bool), ρ = [(1, .pointer (some ⟨b1, 0, none⟩)), (2, .pointer (some ⟨b2, 0, none⟩)), (5, .pointer (some ⟨b5, 0, none⟩)), (9, .int .i64 ((i : Nat) : Int)), (11, .slice Am (((a.set i u).set k v).length) qm), (12, .bool b), (56, .int .i64 ((a.length : Nat) : Int)), (57, .int .i64 ((i : Nat) : Int)), (60, .int .i64 ((i : Nat) : Int)), (61, .int .i64 ((k : Nat) : Int)), (80, .slice At T.length qt), (81, .int .i64 ((T.length : Nat) : Int)), (82, .int .i64 ((q : Nat) : Int))] ∧ Γ = [dfr D, rows Ev.cells 37 9 Am qm ((a.set i u).set k v), box b5 [.slice At T.length qt] 26, rows St.cells 22 1 At qt T, all (T.map St.ch), argsS M, box b2 [.bool false] 4, box b1 [.slice Aa a.length qa] 22, ros Ev.cells Aa a, argsS (a.map Ev.ar)] ∧ mz = T.length - q ∧ (q ≤ T.length) ∧ (b = (T.take q).any (fun s => decide (s.l.map Ev.val = ((a.set i u).set k v).map Ev.val)))) (T.length - 0) ⟨0, false, rfl, rfl, rfl, (Nat.zero_le _), (by simp)⟩ ?_
          rintro mz _ _ ⟨q, b, rfl, rfl, rfl, hq, hb⟩
          refine To.seq ?_
          refine To.reg ?_
          refine To.rd rfl rfl rfl (Rd.lss rfl rfl rfl) ?_
          refine To.nil ?_
          refine To.thenN ?_
          refine To.seq ?_
          refine To.condP rfl (fun c83 => ?_) (fun c83 => ?_)
          ·
            obtain ⟨s, hs⟩ : ∃ z0, T[q]? = some z0 := ⟨T[q]'(by omega), List.getElem?_eq_getElem _⟩
            obtain ⟨⟨o1, ho1, hsv⟩, hsa⟩ := hT.2 q s hs
            have hsl := seen_len hT hal hs
            refine To.skip ?_
            refine To.thenN ?_
            refine To.seq ?_
            refine To.block ?_
            refine To.seq ?_
            refine To.reg ?_
            refine To.rd rfl rfl rfl (Rd.indexRows (i := 3) (j := q) rfl rfl rfl s26 rfl hs) ?_
            refine To.rd rfl rfl rfl (Rd.load (i := 3) rfl rfl c22 rfl (gives_1 (rows_gives encS hs) rfl)) ?_
            refine To.rd rfl rfl rfl (Rd.assign rfl rfl) ?_
            refine To.nil ?_
            refine To.thenN ?_
            refine To.reg ?_
            refine To.rd rfl rfl rfl (Rd.move rfl rfl) ?_
            refine To.rdB rfl rfl rfl (Rd.move rfl rfl) (fun g87 => ?_) (fun g87 => ?_)
            ·
              refine To.sk rfl rfl rfl ?_
              refine To.sk rfl rfl rfl ?_
              refine To.sk rfl rfl rfl ?_
              refine To.rd rfl rfl rfl (Rd.pickT rfl rfl rfl) ?_
              refine To.rd rfl rfl rfl (Rd.assign rfl rfl) ?_
              refine To.nil ?_
              refine To.blockN ?_
              refine To.thenN ?_
              refine To.reg ?_
              refine To.rd rfl rfl rfl (Rd.inc rfl rfl rfl (by omega)) ?_
              refine To.rd rfl rfl rfl (Rd.move rfl rfl) ?_
              refine To.nil ?_
              refine To.thenN ?_
              refine To.sub [(1, .pointer (some ⟨b1, 0, none⟩)), (2, .pointer (some ⟨b2, 0, none⟩)), (5, .pointer (some ⟨b5, 0, none⟩)), (9, .int .i64 ((i : Nat) : Int)), (11, .slice Am (((a.set i u).set k v).length) qm), (12, .bool true), (56, .int .i64 ((a.length : Nat) : Int)), (57, .int .i64 ((i : Nat) : Int)), (60, .int .i64 ((i : Nat) : Int)), (61, .int .i64 ((k : Nat) : Int)), (80, .slice At T.length qt), (81, .int .i64 ((T.length : Nat) : Int)), (82, .int .i64 (((q + 1) : Nat) : Int))] ⟨rfl, rfl, rfl, rfl, rfl, rfl, rfl, rfl, rfl, rfl, rfl, rfl, rfl, trivial⟩ ?_
              refine To.only [0, 0, 0, 0, 0, 0, 0, 0, 0, 0] rfl ?_
              refine To.again (T.length - (q + 1)) (by omega) ⟨q + 1, true, rfl, rfl, rfl, (by omega), (by rw [any_step hs, ← hb, g87]; rfl)⟩
            ·
              refine To.rd rfl rfl rfl (Rd.move rfl rfl) ?_
              refine To.rd rfl rfl rfl (Rd.move rfl rfl) ?_
              refine To.callV rfl rfl rfl (Ent.fn rfl rfl ca25) (sames_fn s.A Am s.cap qm s.l ((a.set i u).set k v) (fun e he => (hsa e he).2) (Nat.le_trans hsl (by decide))) rfl (oks_cons (oks_stl 4 rfl hs) (oks_cons (oks_row 1 rfl) (oks_cons ((argsS_sub 5 rfl (fun p hp => by obtain ⟨e, he, rfl⟩ := List.mem_map.1 hp; exact (hsa e he).1)).2) (oks_cons ((argsS_sub 9 rfl (fun p hp => by obtain ⟨e, he, rfl⟩ := List.mem_map.1 hp; exact List.mem_map.2 ⟨e, hom e he, rfl⟩)).2) (oks_nil _))))) ?_
              refine To.rd rfl rfl rfl (Rd.pickF rfl rfl rfl) ?_
              refine To.rd rfl rfl rfl (Rd.assign rfl rfl) ?_
              refine To.nil ?_
              refine To.blockN ?_
              refine To.thenN ?_
              refine To.reg ?_
              refine To.rd rfl rfl rfl (Rd.inc rfl rfl rfl (by omega)) ?_
              refine To.rd rfl rfl rfl (Rd.move rfl rfl) ?_
              refine To.nil ?_
              refine To.thenN ?_
              refine To.sub [(1, .pointer (some ⟨b1, 0, none⟩)), (2, .pointer (some ⟨b2, 0, none⟩)), (5, .pointer (some ⟨b5, 0, none⟩)), (9, .int .i64 ((i : Nat) : Int)), (11, .slice Am (((a.set i u).set k v).length) qm), (12, .bool (decide (s.l.map Ev.val = ((a.set i u).set k v).map Ev.val))), (56, .int .i64 ((a.length : Nat) : Int)), (57, .int .i64 ((i : Nat) : Int)), (60, .int .i64 ((i : Nat) : Int)), (61, .int .i64 ((k : Nat) : Int)), (80, .slice At T.length qt), (81, .int .i64 ((T.length : Nat) : Int)), (82, .int .i64 (((q + 1) : Nat) : Int))] ⟨rfl, rfl, rfl, rfl, rfl, rfl, rfl, rfl, rfl, rfl, rfl, rfl, rfl, trivial⟩ ?_
              refine To.only [0, 0, 0, 0, 0, 0, 0, 0, 0, 0] rfl ?_
              refine To.again (T.length - (q + 1)) (by omega) ⟨q + 1, (decide (s.l.map Ev.val = ((a.set i u).set k v).map Ev.val)), rfl, rfl, rfl, (by omega), (by rw [any_step hs, ← hb, g87]; rfl)⟩
          ·
            refine To.exit ?_
            refine To.thenX ?_
            refine To.thenX ?_
            refine To.blockX ?_
            refine To.thenN ?_
            refine To.seq ?_
            refine To.reg ?_
            refine To.rd rfl rfl rfl (Rd.load (i := 7) rfl rfl c22 rfl (box_gives1 rfl)) ?_
            refine To.rd rfl rfl rfl (Rd.move rfl rfl) ?_
            refine To.callV rfl rfl rfl (Ent.fn rfl rfl ca24) (equiv_fn Aa Am qa qm a ((a.set i u).set k v) (Nat.le_trans hal (by decide)) haa (Nat.le_trans (Nat.le_of_eq hOl) (Nat.le_trans hal (by decide))) hoa) rfl (oks_cons (oks_at 8 rfl) (oks_cons (oks_row 1 rfl) (oks_cons (oks_at 9 rfl) (oks_cons ((argsS_sub 9 rfl (fun p hp => by obtain ⟨e, he, rfl⟩ := List.mem_map.1 hp; exact List.mem_map.2 ⟨e, hom e he, rfl⟩)).2) (oks_nil _))))) ?_
            refine To.rd rfl rfl rfl (Rd.move rfl rfl) ?_
            refine To.rd rfl rfl rfl (Rd.neqB rfl Try.underlying4 rfl rfl) ?_
            refine To.nil ?_
            refine To.thenN ?_
            refine To.cond rfl (fun c97 => ?_) (fun c97 => ?_)
            ·
              have hb2 : b = decide (normV a = normV ((a.set i u).set k v)) := by rw [hb, show q = T.length by omega, List.take_length, hT2.any hOl]
              rw [hb2] at c97
              simp at c97
            ·
              refine To.skip ?_
              refine To.blockN ?_
              refine To.thenN ?_
              refine To.reg ?_
              refine To.rd rfl rfl rfl (Rd.inc rfl rfl rfl (by omega)) ?_
              refine To.rd rfl rfl rfl (Rd.move rfl rfl) ?_
              refine To.nil ?_
              refine To.thenN ?_
              refine To.sub [(1, .pointer (some ⟨b1, 0, none⟩)), (2, .pointer (some ⟨b2, 0, none⟩)), (5, .pointer (some ⟨b5, 0, none⟩)), (9, .int .i64 ((i : Nat) : Int)), (56, .int .i64 ((a.length : Nat) : Int)), (57, .int .i64 ((i : Nat) : Int)), (60, .int .i64 ((i : Nat) : Int)), (61, .int .i64 (((k + 1) : Nat) : Int))] ⟨rfl, rfl, rfl, rfl, rfl, rfl, rfl, rfl, trivial⟩ ?_
              refine To.only [0, 1, 1, 1, 1, 1, 1, 1, 1] rfl ?_
              refine To.again (i - (k + 1)) (by omega) ⟨k + 1, rfl, rfl, rfl, (by omega)⟩
        ·
          refine To.exit ?_
          refine To.thenX ?_
          refine To.thenX ?_
          refine To.blockX ?_
          refine To.blockN ?_
          refine To.thenN ?_
          refine To.reg ?_
          refine To.rd rfl rfl rfl (Rd.inc rfl rfl rfl (by omega)) ?_
          refine To.rd rfl rfl rfl (Rd.move rfl rfl) ?_
          refine To.nil ?_
          refine To.thenN ?_
          refine To.sub [(1, .pointer (some ⟨b1, 0, none⟩)), (2, .pointer (some ⟨b2, 0, none⟩)), (5, .pointer (some ⟨b5, 0, none⟩)), (56, .int .i64 ((a.length : Nat) : Int)), (57, .int .i64 (((i + 1) : Nat) : Int))] ⟨rfl, rfl, rfl, rfl, rfl, trivial⟩ ?_
          refine To.only [0, 0, 0, 0, 0, 0, 0, 0, 0] rfl ?_
          refine To.again (a.length - (i + 1)) (by omega) ⟨i + 1, rfl, rfl, rfl, (by omega)⟩
      ·
        refine To.exit ?_
        refine To.thenX ?_
        refine To.thenX ?_
        refine To.blockX ?_
        refine To.thenN ?_
        refine To.seq ?_
        refine To.reg ?_
        refine To.up rfl rfl (Up.store (i := 5) rfl rfl rfl c4 rfl rfl (box_takesAll rfl)) ?_
        refine To.nil ?_
        refine To.thenN ?_
        refine To.ret ?_
        refine To.endM (.inl rfl) Try.results10 rfl (i := 4) rfl c4 rfl rfl ?_
        rfl
  ·
    intro D _ h; exact h.elim
end Go.Proofs.Ytneimfacccgaeaa
