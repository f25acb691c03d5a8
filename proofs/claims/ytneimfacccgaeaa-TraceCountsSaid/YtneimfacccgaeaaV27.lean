/- The walk of TraceCounts. Own text (walks printed by sx.py). -/
import Derived.Test.YtneimfacccgaeaaV26
namespace Go.Proofs.Ytneimfacccgaeaa
open Go.RowKit Go.Flow Go.Mem Go.Sep
def xp (x : Nat → Nat) : Nat → Nat := fun c => x c % 6
def wst (p : Nat → Nat) : Nat → Nat × Nat
  | 0 => (1, 0)
  | c + 1 => wch (wst p c) (p c)
theorem wch_succ (st : Nat × Nat) (i : Nat) : wch st (i + 1) = ((wch st i).1 * ((wch st i).2 + 1) / (i + 1), (wch st i).2 + 1) := by
  unfold wch; rw [List.range_succ, List.foldl_append]; rfl
theorem wch_two (st : Nat × Nat) : ∀ i, (wch st i).2 = st.2 + i
  | 0 => rfl
  | i + 1 => by rw [wch_succ]; show (wch st i).2 + 1 = _; rw [wch_two st i]; omega
theorem wst_two (p : Nat → Nat) : ∀ c, (wst p c).2 = sumR p c
  | 0 => rfl
  | c + 1 => by unfold wst; rw [wch_two, wst_two p c, sumR_succ]
theorem seg_succ (c i : Nat) : seg c (i + 1) = seg c i ++ [ce c i] := by unfold seg; rw [List.range_succ, List.map_append]; rfl
theorem chs0 (p : Nat → Nat) (c : Nat) : chL p c ++ seg c 0 = chL p c := by simp [seg]
theorem seg_len (c i : Nat) : (seg c i).length = i := by simp [seg]
theorem xp_lt (x : Nat → Nat) (c : Nat) : xp x c < 6 := Nat.mod_lt _ (by decide)
theorem w_lt (x : Nat → Nat) {c i : Nat} (hc : c < 4) (hi : i < 6) : (wch (wst (xp x) c) i).1 < 100000000000 := by
  have : c = 0 ∨ c = 1 ∨ c = 2 ∨ c = 3 := by omega
  rcases this with rfl | rfl | rfl | rfl
  · exact want_lt (a := i) (b := 0) (c := 0) (d := 0) hi (by omega) (by omega) (by omega)
  · exact want_lt (b := i) (c := 0) (d := 0) (xp_lt x 0) hi (by omega) (by omega)
  · exact want_lt (c := i) (d := 0) (xp_lt x 0) (xp_lt x 1) hi (by omega)
  · exact want_lt (xp_lt x 0) (xp_lt x 1) (xp_lt x 2) hi
theorem sum_lt (x : Nat → Nat) {c : Nat} (hc : c ≤ 4) : sumR (xp x) c ≤ 20 := by
  have h0 := xp_lt x 0; have h1 := xp_lt x 1; have h2 := xp_lt x 2; have h3 := xp_lt x 3
  have : c = 0 ∨ c = 1 ∨ c = 2 ∨ c = 3 ∨ c = 4 := by omega
  rcases this with rfl | rfl | rfl | rfl | rfl <;> simp only [sumR] <;> omega
theorem arr_at {x : Nat → Nat} {c : Nat} (hc : c < 4) : ([.int .u8 ((x 0 : Nat) : Int), .int .u8 ((x 1 : Nat) : Int), .int .u8 ((x 2 : Nat) : Int), .int .u8 ((x 3 : Nat) : Int)] : List Value)[c]? = some (.int .u8 ((x c : Nat) : Int)) := by
  have : c = 0 ∨ c = 1 ∨ c = 2 ∨ c = 3 := by omega
  rcases this with rfl | rfl | rfl | rfl <;> rfl
theorem info5 : ∃ i, Try.prog.info? 5 = some i ∧ i.size = 1 := by
  have h : (Try.prog.info? 5).map (·.size) = some 1 := by kernel_rfl
  cases hi : Try.prog.info? 5 with
  | none => rw [hi] at h; cases h
  | some i => rw [hi] at h; simp at h; exact ⟨i, rfl, h⟩
theorem Rd.part {o : Oper} {ρ : Slots} {Γ : List Chunk} {a b : Operand} {x : Nat → Nat} {c : Nat} (ho : o.op = .index 29 a b) (ha : ev ρ a = some (.agg #[.int .u8 ((x 0 : Nat) : Int), .int .u8 ((x 1 : Nat) : Int), .int .u8 ((x 2 : Nat) : Int), .int .u8 ((x 3 : Nat) : Int)])) (hb : ev ρ b = some (.int .i64 ((c : Nat) : Int))) (hc : c < 4) : Rd Try.prog o ρ Γ (.int .u8 ((x c : Nat) : Int)) := by
  obtain ⟨i, h1, h2⟩ := info5
  exact Rd.indexV ho Try.underlying29 Try.underlying5 h1 h2 ha hb hc (arr_at hc)
theorem count_yes (A : Option Addr) (q : Nat) (l : List Ev) (h16 : l.length ≤ 16) (hq : l.length ≤ q) : Does Try.prog 16 [.slice A l.length q] [ros Ev.cells A l] (fun v _ => v = .tuple #[.int .u64 ((cntV l : Nat) : Int), .bool true]) :=
  (count_fn A q l (by omega) hq).mono fun v Γ' h => by rw [h, if_pos h16]
theorem count_no (A : Option Addr) (q : Nat) (l : List Ev) (h16 : 16 < l.length) (hl : l.length ≤ 1000000) (hq : l.length ≤ q) : Does Try.prog 16 [.slice A l.length q] [ros Ev.cells A l] (fun v _ => v = .tuple #[.int .u64 0, .bool false]) :=
  (count_fn A q l hl hq).mono fun v Γ' h => by rw [h, if_neg (by omega)]
set_option maxHeartbeats 2000000 in
set_option maxRecDepth 100000 in
theorem counts_fn0 (Al : Option Addr) (cl : Nat) (l : List Ev) (hc : l.length ≤ cl) (hok : ∀ e ∈ l, e.ok) (x : Nat → Nat) (hx : ∀ c, x c < 256) (h16 : sumR (xp x) 4 ≤ 16) :
    Does Try.prog 4 [.slice Al l.length cl, .agg #[.int .u8 ((x 0 : Nat) : Int), .int .u8 ((x 1 : Nat) : Int), .int .u8 ((x 2 : Nat) : Int), .int .u8 ((x 3 : Nat) : Int)]] [ros Ev.cells Al l, argsS (l.map Ev.ar)] (fun v _ => v = .bool true) := by
  refine Does.enter Try.func4 rfl Try.ntmps4 rfl (fun w0 => ?_)
  refine To.seq ?_
  refine To.reg ?_
  refine To.boxed rfl rfl rfl rfl rfl rfl (fun b3 => ?_)
  refine To.rd rfl rfl rfl (Rd.assign rfl rfl) ?_
  refine To.nil ?_
  refine To.thenN ?_
  refine To.seq ?_
  refine To.seq ?_
  refine To.reg ?_
  refine To.callV rfl rfl rfl (Ent.fn rfl rfl ca11) (awake_fn) rfl (oks_nil _) ?_
  refine To.rd rfl rfl rfl (Rd.not rfl rfl) ?_
  refine To.nil ?_
  refine To.thenN ?_
  refine To.condF rfl ?_
  refine To.skip ?_
  refine To.thenN ?_
  refine To.seq ?_
  refine To.reg ?_
  refine To.rd rfl rfl rfl (Rd.move rfl rfl) ?_
  refine To.callQ rfl rfl rfl (Ent.fn rfl rfl ca12) (few_fn Al cl l 11 (by decide) hc (fun e he => (hok e he).cap)) rfl (oks_cons (oks_at 1 rfl) (oks_nil _)) ?_
  rintro _ _ ⟨Ak, qk, rfl, rfl⟩
  refine ⟨rfl, ?_⟩
  refine To.as [rows Ev.cells 37 9 Ak qk ((l.take 11).map Ev.cut), box b3 [.int .u8 ((x 0 : Nat) : Int), .int .u8 ((x 1 : Nat) : Int), .int .u8 ((x 2 : Nat) : Int), .int .u8 ((x 3 : Nat) : Int)] 29, ros Ev.cells Al l, argsS (l.map Ev.ar)] rfl ?_
  refine To.rd rfl rfl rfl (Rd.assign rfl rfl) ?_
  refine To.nil ?_
  refine To.thenN ?_
  refine To.seq ?_
  refine To.know (p := ((l.take 11).map Ev.cut).length ≤ qk) (fun w hw => own_caps 0 rfl hw) (fun hqK => ?_)
  refine To.only [0, 0, 0, 0] rfl ?_
  refine To.layRow ?_
  refine To.derive (argsS (((l.take 11).map Ev.cut).map Ev.ar)) rfl (argsS_cut 3 rfl).1 (argsS_cut 3 rfl).2 ?_
  have hKl : ((l.take 11).map Ev.cut).length ≤ 11 := cut_len
  have hKa : ∀ e ∈ ((l.take 11).map Ev.cut), e.args.length ≤ 1000000000000 := cut_args
  have hKk : ∀ e ∈ ((l.take 11).map Ev.cut), 0 ≤ e.k ∧ e.k < 256 := cut_k hok
  obtain ⟨K, hK⟩ : ∃ K, K = ((l.take 11).map Ev.cut) := ⟨_, rfl⟩
  rw [← hK] at hKl hKa hKk hqK
  rw [← hK]
  refine To.reg ?_
  refine To.rd rfl rfl rfl (Rd.move rfl rfl) ?_
  refine To.callV rfl rfl rfl (Ent.fn rfl rfl ca16) (count_yes Ak qk K (Nat.le_trans hKl (by decide)) hqK) rfl (oks_cons (oks_at 1 rfl) (oks_nil _)) ?_
  refine To.rd rfl rfl rfl (Rd.move rfl rfl) ?_
  refine To.rd rfl rfl rfl (Rd.extract rfl rfl rfl) ?_
  refine To.rd rfl rfl rfl (Rd.extract rfl rfl rfl) ?_
  refine To.rd rfl rfl rfl (Rd.assign rfl rfl) ?_
  refine To.rd rfl rfl rfl (Rd.assign rfl rfl) ?_
  refine To.nil ?_
  refine To.thenN ?_
  refine To.seq ?_
  refine To.seq ?_
  refine To.reg ?_
  refine To.rd rfl rfl rfl (Rd.move rfl rfl) ?_
  refine To.rd rfl rfl rfl (Rd.not rfl rfl) ?_
  refine To.rd rfl rfl rfl (Rd.move rfl rfl) ?_
  refine To.rd rfl rfl rfl (Rd.move rfl rfl) ?_
  refine To.rd rfl rfl rfl (Rd.move rfl rfl) ?_
  refine To.callV rfl rfl rfl (Ent.fn rfl rfl ca17) (rcount_fn Ak qk K (Nat.le_trans hKl (by decide))) rfl (oks_cons (oks_at 1 rfl) (oks_nil _)) ?_
  refine To.rd rfl rfl rfl (Rd.neq rfl rfl rfl) ?_
  refine To.rd rfl rfl rfl (Rd.pickF rfl rfl rfl) ?_
  refine To.nil ?_
  refine To.sub [(0, .slice Al l.length cl), (1, .agg #[.int .u8 ((x 0 : Nat) : Int), .int .u8 ((x 1 : Nat) : Int), .int .u8 ((x 2 : Nat) : Int), .int .u8 ((x 3 : Nat) : Int)]), (3, .pointer (some ⟨b3, 0, none⟩)), (4, .bool false), (14, .bool false), (5, .slice Ak K.length qk), (6, .int .u64 ((cntV K : Nat) : Int)), (7, .bool true), (29, .bool (decide (((cntV K : Nat) : Int) ≠ ((cntV K : Nat) : Int))))] ⟨rfl, rfl, rfl, rfl, rfl, rfl, rfl, rfl, rfl, trivial⟩ ?_
  refine To.thenN ?_
  refine To.condP rfl (fun c29 => ?_) (fun c29 => ?_)
  ·
    exact absurd rfl c29
  ·
    refine To.skip ?_
    refine To.thenN ?_
    refine To.seq ?_
    refine To.reg ?_
    refine To.rd rfl rfl rfl (Rd.assign rfl rfl) ?_
    refine To.nil ?_
    refine To.thenN ?_
    refine To.seq ?_
    refine To.nilRow Ev.cells 37 9 ?_
    refine To.reg ?_
    refine To.rd rfl rfl rfl (Rd.assign rfl rfl) ?_
    refine To.nil ?_
    refine To.thenN ?_
    refine To.seq ?_
    refine To.seq ?_
    refine To.reg ?_
    refine To.rd rfl rfl rfl (Rd.loadS (i := 3) rfl rfl r29 rfl box_whole rfl) ?_
    refine To.rd rfl rfl rfl (Rd.move rfl rfl) ?_
    refine To.nil ?_
    refine To.thenN ?_
    refine To.block ?_
    refine To.sub [(8, .slice none ((chL (xp x) 0).length) 0), (9, .int .u64 (((wst (xp x) 0).1 : Nat) : Int)), (30, .agg #[.int .u8 ((x 0 : Nat) : Int), .int .u8 ((x 1 : Nat) : Int), .int .u8 ((x 2 : Nat) : Int), .int .u8 ((x 3 : Nat) : Int)]), (31, .int .i64 ((0 : Nat) : Int))] ⟨rfl, rfl, rfl, rfl, trivial⟩ ?_
    refine To.only [0] rfl ?_
    refine To.as [rows Ev.cells 37 9 none 0 (chL (xp x) 0)] rfl ?_
    refine To.loop (fun mz ρ Γ => ∃ (c : Nat) (A8 : Option Addr) (q8 : Nat), ρ = [(8, .slice A8 ((chL (xp x) c).length) q8), (9, .int .u64 (((wst (xp x) c).1 : Nat) : Int)), (30, .agg #[.int .u8 ((x 0 : Nat) : Int), .int .u8 ((x 1 : Nat) : Int), .int .u8 ((x 2 : Nat) : Int), .int .u8 ((x 3 : Nat) : Int)]), (31, .int .i64 ((c : Nat) : Int))] ∧ Γ = [rows Ev.cells 37 9 A8 q8 (chL (xp x) c)] ∧ mz = 4 - c ∧ (c ≤ 4)) (4 - 0) ⟨0, none, 0, rfl, rfl, rfl, (Nat.zero_le _)⟩ ?_
    rintro mz _ _ ⟨c, A8, q8, rfl, rfl, rfl, hcl⟩
    refine To.seq ?_
    refine To.reg ?_
    refine To.rd rfl rfl rfl (Rd.lss rfl rfl rfl) ?_
    refine To.nil ?_
    refine To.thenN ?_
    refine To.seq ?_
    refine To.condP rfl (fun c32 => ?_) (fun c32 => ?_)
    ·
      have hc4 : c < 4 := by omega
      have hx6 : x c % 6 < 6 := Nat.mod_lt _ (by decide)
      refine To.skip ?_
      refine To.thenN ?_
      refine To.seq ?_
      refine To.block ?_
      refine To.seq ?_
      refine To.reg ?_
      refine To.rd rfl rfl rfl (Rd.move rfl rfl) ?_
      refine To.rd rfl rfl rfl (Rd.part rfl rfl rfl hc4) ?_
      refine To.rd rfl rfl rfl (Rd.assign rfl rfl) ?_
      refine To.rd rfl rfl rfl (Rd.assign rfl rfl) ?_
      refine To.nil ?_
      refine To.thenN ?_
      refine To.seq ?_
      refine To.reg ?_
      refine To.rd rfl rfl rfl (Rd.move rfl rfl) ?_
      refine To.rd rfl rfl rfl (Rd.remN (a := (x c)) (b := 6) rfl rfl rfl (by omega)) ?_
      refine To.rd rfl rfl rfl (Rd.conv rfl rfl Try.underlying5 Try.underlying3 (IntWalk.i64_in _ (by omega))) ?_
      refine To.rd rfl rfl rfl (Rd.move rfl rfl) ?_
      refine To.nil ?_
      refine To.thenN ?_
      refine To.block ?_
      refine To.sub [(8, .slice A8 ((chL (xp x) c ++ seg c 0).length) q8), (9, .int .u64 (((wch (wst (xp x) c) 0).1 : Nat) : Int)), (10, .int .i64 ((c : Nat) : Int)), (30, .agg #[.int .u8 ((x 0 : Nat) : Int), .int .u8 ((x 1 : Nat) : Int), .int .u8 ((x 2 : Nat) : Int), .int .u8 ((x 3 : Nat) : Int)]), (31, .int .i64 ((c : Nat) : Int)), (37, .int .i64 ((x c % 6 : Nat) : Int)), (38, .int .i64 ((0 : Nat) : Int))] ⟨by rw [chs0]; rfl, rfl, rfl, rfl, rfl, rfl, rfl, trivial⟩ ?_
      refine To.only [0] rfl ?_
      refine To.as [rows Ev.cells 37 9 A8 q8 (chL (xp x) c ++ seg c 0)] (by rw [chs0]) ?_
      refine To.loop (fun mz ρ Γ => ∃ (i : Nat) (A9 : Option Addr) (q9 : Nat), ρ = [(8, .slice A9 ((chL (xp x) c ++ seg c i).length) q9), (9, .int .u64 (((wch (wst (xp x) c) i).1 : Nat) : Int)), (10, .int .i64 ((c : Nat) : Int)), (30, .agg #[.int .u8 ((x 0 : Nat) : Int), .int .u8 ((x 1 : Nat) : Int), .int .u8 ((x 2 : Nat) : Int), .int .u8 ((x 3 : Nat) : Int)]), (31, .int .i64 ((c : Nat) : Int)), (37, .int .i64 ((x c % 6 : Nat) : Int)), (38, .int .i64 ((i : Nat) : Int))] ∧ Γ = [rows Ev.cells 37 9 A9 q9 (chL (xp x) c ++ seg c i)] ∧ mz = x c % 6 - i ∧ (i ≤ x c % 6)) (x c % 6 - 0) ⟨0, A8, q8, rfl, rfl, rfl, (Nat.zero_le _)⟩ ?_
      rintro mz _ _ ⟨i, A9, q9, rfl, rfl, rfl, hi⟩
      refine To.seq ?_
      refine To.reg ?_
      refine To.rd rfl rfl rfl (Rd.lss rfl rfl rfl) ?_
      refine To.nil ?_
      refine To.thenN ?_
      refine To.seq ?_
      refine To.condP rfl (fun c39 => ?_) (fun c39 => ?_)
      ·
        refine To.skip ?_
        refine To.thenN ?_
        refine To.seq ?_
        refine To.block ?_
        refine To.seq ?_
        refine To.reg ?_
        refine To.rd rfl rfl rfl (Rd.move rfl rfl) ?_
        refine To.rd rfl rfl rfl (Rd.assign rfl rfl) ?_
        refine To.nil ?_
        refine To.thenN ?_
        refine To.seq ?_
        have hb0 := sum_lt x (c := c) (by omega)
        have hl0 : (chL (xp x) c ++ seg c i).length = sumR (xp x) c + i := by rw [List.length_append, chL_len, seg_len]
        refine To.reg ?_
        refine To.rd rfl rfl rfl (Rd.move rfl rfl) ?_
        refine To.rd rfl rfl rfl (Rd.move rfl rfl) ?_
        refine To.rd rfl rfl rfl (Rd.move rfl rfl) ?_
        refine To.rd rfl rfl rfl (Rd.move rfl rfl) ?_
        refine To.rd rfl rfl rfl (Rd.build (vs := [(0, .int .i64 ((i : Nat) : Int)), (1, .int .i64 ((c : Nat) : Int)), (2, .int .u8 3), (4, .int .i64 ((i : Nat) : Int))]) (cells := [.int .i64 ((i : Nat) : Int), .int .i64 ((c : Nat) : Int), .int .u8 3, .int .i64 0, .int .i64 ((i : Nat) : Int), .int .i64 0, .int .i64 0, .int .i64 0, .slice none 0 0]) rfl rfl rfl (by kernel_rfl)) ?_
        refine To.mk rfl rfl rfl (Mk.sliceN (us := [.int .i64 ((i : Nat) : Int), .int .i64 ((c : Nat) : Int), .int .u8 3, .int .i64 0, .int .i64 ((i : Nat) : Int), .int .i64 0, .int .i64 0, .int .i64 0, .slice none 0 0]) rfl s22 rfl rfl rfl rfl rfl rfl) ?_
        rintro _ _ ⟨b46, rfl, rfl⟩
        refine To.as [row 37 9 (some ⟨b46, 0, none⟩) 1 1 [.int .i64 ((i : Nat) : Int), .int .i64 ((c : Nat) : Int), .int .u8 3, .int .i64 0, .int .i64 ((i : Nat) : Int), .int .i64 0, .int .i64 0, .int .i64 0, .slice none 0 0], rows Ev.cells 37 9 A9 q9 (chL (xp x) c ++ seg c i)] rfl ?_
        refine To.ge rfl rfl rfl (Ge.append1 encE (i := 1) (j := 0) (el := (ce c i)) rfl s22 rfl rfl rfl rfl rfl (by first | omega | (simp only [List.length_append, List.length_cons, List.length_nil]; omega)) (by first | omega | (simp only [List.length_append, List.length_cons, List.length_nil]; omega))) ?_
        rintro _ _ ⟨A47, q47, rfl, rfl⟩
        refine To.as [row 37 9 (some ⟨b46, 0, none⟩) 1 1 [.int .i64 ((i : Nat) : Int), .int .i64 ((c : Nat) : Int), .int .u8 3, .int .i64 0, .int .i64 ((i : Nat) : Int), .int .i64 0, .int .i64 0, .int .i64 0, .slice none 0 0], rows Ev.cells 37 9 A47 q47 ((chL (xp x) c ++ seg c i) ++ [(ce c i)])] rfl ?_
        refine To.rd rfl rfl rfl (Rd.assign rfl rfl) ?_
        refine To.nil ?_
        refine To.thenN ?_
        have hlE : (chL (xp x) c ++ seg c i ++ [ce c i]).length = sumR (xp x) c + i + 1 := by rw [List.length_append, List.length_append, chL_len, seg_len]; rfl
        have hb := sum_lt x (c := c) (by omega)
        have hw := w_lt x (c := c) (i := i) (by omega) (by omega)
        have hmul : (wch (wst (xp x) c) i).1 * (chL (xp x) c ++ seg c i ++ [ce c i]).length < 18446744073709551616 := by
          rw [hlE]
          exact Nat.lt_of_le_of_lt (Nat.mul_le_mul (Nat.le_of_lt hw) (show _ ≤ 30 by omega)) (by decide)
        refine To.reg ?_
        refine To.rd rfl rfl rfl (Rd.move rfl rfl) ?_
        refine To.rd rfl rfl rfl (Rd.move rfl rfl) ?_
        refine To.rd rfl rfl rfl (Rd.len rfl rfl Try.underlying22) ?_
        refine To.rd rfl rfl rfl (Rd.conv rfl rfl Try.underlying3 Try.underlying30 (wrapU (by first | omega | (simp only [List.length_append, List.length_cons, List.length_nil]; omega)))) ?_
        refine To.rd rfl rfl rfl (Rd.mulU (a := ((wch (wst (xp x) c) i).1)) (b := (((chL (xp x) c ++ seg c i) ++ [(ce c i)]).length)) rfl rfl rfl hmul) ?_
        refine To.rd rfl rfl rfl (Rd.move rfl rfl) ?_
        refine To.rd rfl rfl rfl (Rd.inc rfl rfl rfl (by omega)) ?_
        refine To.rd rfl rfl rfl (Rd.conv rfl rfl Try.underlying3 Try.underlying30 (wrapU (by first | omega | (simp only [List.length_append, List.length_cons, List.length_nil]; omega)))) ?_
        refine To.rd rfl rfl rfl (Rd.quoU (a := (((wch (wst (xp x) c) i).1) * (((chL (xp x) c ++ seg c i) ++ [(ce c i)]).length))) (b := (i + 1)) rfl rfl rfl (by omega) hmul) ?_
        refine To.rd rfl rfl rfl (Rd.assign rfl rfl) ?_
        refine To.nil ?_
        refine To.sub [(8, .slice A47 (((chL (xp x) c ++ seg c i) ++ [(ce c i)]).length) q47), (9, .int .u64 (((((wch (wst (xp x) c) i).1) * (((chL (xp x) c ++ seg c i) ++ [(ce c i)]).length)) / (i + 1) : Nat) : Int)), (10, .int .i64 ((c : Nat) : Int)), (30, .agg #[.int .u8 ((x 0 : Nat) : Int), .int .u8 ((x 1 : Nat) : Int), .int .u8 ((x 2 : Nat) : Int), .int .u8 ((x 3 : Nat) : Int)]), (31, .int .i64 ((c : Nat) : Int)), (37, .int .i64 ((x c % 6 : Nat) : Int)), (38, .int .i64 ((i : Nat) : Int)), (39, .bool (decide (((i : Nat) : Int) < ((x c % 6 : Nat) : Int)))), (12, .int .i64 ((i : Nat) : Int))] ⟨rfl, rfl, rfl, rfl, rfl, rfl, rfl, rfl, rfl, trivial⟩ ?_
        refine To.blockN ?_
        refine To.thenN ?_
        refine To.reg ?_
        refine To.rd rfl rfl rfl (Rd.inc rfl rfl rfl (by omega)) ?_
        refine To.rd rfl rfl rfl (Rd.move rfl rfl) ?_
        refine To.nil ?_
        refine To.thenN ?_
        have hE : chL (xp x) c ++ seg c (i + 1) = chL (xp x) c ++ seg c i ++ [ce c i] := by rw [seg_succ, List.append_assoc]
        have hw : (wch (wst (xp x) c) (i + 1)).1 = (wch (wst (xp x) c) i).1 * (chL (xp x) c ++ seg c i ++ [ce c i]).length / (i + 1) := by
          rw [wch_succ, wch_two, wst_two, hlE]
        refine To.sub [(8, .slice A47 ((chL (xp x) c ++ seg c (i + 1)).length) q47), (9, .int .u64 (((wch (wst (xp x) c) (i + 1)).1 : Nat) : Int)), (10, .int .i64 ((c : Nat) : Int)), (30, .agg #[.int .u8 ((x 0 : Nat) : Int), .int .u8 ((x 1 : Nat) : Int), .int .u8 ((x 2 : Nat) : Int), .int .u8 ((x 3 : Nat) : Int)]), (31, .int .i64 ((c : Nat) : Int)), (37, .int .i64 ((x c % 6 : Nat) : Int)), (38, .int .i64 (((i + 1) : Nat) : Int))] ⟨by rw [hE]; rfl, by rw [hw]; rfl, rfl, rfl, rfl, rfl, rfl, trivial⟩ ?_
        refine To.only [1] rfl ?_
        refine To.as [rows Ev.cells 37 9 A47 q47 (chL (xp x) c ++ seg c (i + 1))] (by rw [hE]) ?_
        refine To.again (x c % 6 - (i + 1)) (by omega) ⟨i + 1, A47, q47, rfl, rfl, rfl, (by omega)⟩
      ·
        refine To.exit ?_
        refine To.thenX ?_
        refine To.thenX ?_
        refine To.blockX ?_
        refine To.blockN ?_
        refine To.thenN ?_
        refine To.reg ?_
        refine To.rd rfl rfl rfl (Rd.inc rfl rfl rfl (by omega)) ?_
        refine To.rd rfl rfl rfl (Rd.move rfl rfl) ?_
        refine To.nil ?_
        refine To.thenN ?_
        obtain rfl : i = x c % 6 := by omega
        have hE : chL (xp x) (c + 1) = chL (xp x) c ++ seg c (x c % 6) := chL_succ _ _
        refine To.sub [(8, .slice A9 ((chL (xp x) (c + 1)).length) q9), (9, .int .u64 (((wst (xp x) (c + 1)).1 : Nat) : Int)), (30, .agg #[.int .u8 ((x 0 : Nat) : Int), .int .u8 ((x 1 : Nat) : Int), .int .u8 ((x 2 : Nat) : Int), .int .u8 ((x 3 : Nat) : Int)]), (31, .int .i64 (((c + 1) : Nat) : Int))] ⟨by rw [hE]; rfl, rfl, rfl, rfl, trivial⟩ ?_
        refine To.only [0] rfl ?_
        refine To.as [rows Ev.cells 37 9 A9 q9 (chL (xp x) (c + 1))] (by rw [hE]) ?_
        refine To.again (4 - (c + 1)) (by omega) ⟨c + 1, A9, q9, rfl, rfl, rfl, (by omega)⟩
    ·
      refine To.exit ?_
      refine To.thenX ?_
      refine To.thenX ?_
      refine To.blockX ?_
      refine To.thenN ?_
      refine To.seq ?_
      obtain rfl : c = 4 := by omega
      refine To.know (p := (chL (xp x) 4).length ≤ q8) (fun w hw => own_caps 0 rfl hw) (fun hqE => ?_)
      refine To.reg ?_
      refine To.rd rfl rfl rfl (Rd.move rfl rfl) ?_
      refine To.callV rfl rfl rfl (Ent.fn rfl rfl ca16) (count_yes A8 q8 (chL (xp x) 4) (by rw [chL_len]; exact h16) hqE) rfl (oks_cons (oks_row 0 rfl) (oks_nil _)) ?_
      refine To.rd rfl rfl rfl (Rd.move rfl rfl) ?_
      refine To.rd rfl rfl rfl (Rd.extract rfl rfl rfl) ?_
      refine To.rd rfl rfl rfl (Rd.extract rfl rfl rfl) ?_
      refine To.rd rfl rfl rfl (Rd.assign rfl rfl) ?_
      refine To.rd rfl rfl rfl (Rd.assign rfl rfl) ?_
      refine To.nil ?_
      refine To.thenN ?_
      refine To.seq ?_
      refine To.seq ?_
      refine To.reg ?_
      refine To.rd rfl rfl rfl (Rd.move rfl rfl) ?_
      refine To.rd rfl rfl rfl (Rd.len rfl rfl Try.underlying22) ?_
      refine To.rd rfl rfl rfl (Rd.gtr rfl rfl rfl) ?_
      refine To.nil ?_
      refine To.thenN ?_
      refine To.condP rfl (fun c66 => ?_) (fun c66 => ?_)
      ·
        rw [chL_len] at c66; omega
      ·
        refine To.skip ?_
        refine To.thenN ?_
        refine To.seq ?_
        refine To.reg ?_
        refine To.rd rfl rfl rfl (Rd.move rfl rfl) ?_
        refine To.rd rfl rfl rfl (Rd.move rfl rfl) ?_
        refine To.rd rfl rfl rfl (Rd.eql rfl rfl rfl) ?_
        refine To.rdP rfl rfl rfl (Rd.move rfl rfl) (fun g76 => ?_) (fun g76 => ?_)
        ·
          refine To.rd rfl rfl rfl (Rd.move rfl rfl) ?_
          refine To.rd rfl rfl rfl (Rd.pickT rfl rfl rfl) ?_
          refine To.rd rfl rfl rfl (Rd.assign rfl rfl) ?_
          refine To.nil ?_
          refine To.sub [(8, .slice A8 ((chL (xp x) 4).length) q8), (9, .int .u64 (((wst (xp x) 4).1 : Nat) : Int)), (6, .int .u64 ((cntV (chL (xp x) 4) : Nat) : Int)), (7, .bool true), (66, .bool (decide (16 < (((chL (xp x) 4).length : Nat) : Int)))), (4, .bool true)] ⟨rfl, rfl, rfl, rfl, rfl, rfl, trivial⟩ ?_
          refine To.thenN ?_
          refine To.ret ?_
          refine To.end1 (.inl rfl) Try.results4 rfl ?_
          rfl
        ·
          exact absurd (congrArg (fun n : Nat => (n : Int)) (cnt_chains fun c _ => xp_lt x c)) g76
set_option maxHeartbeats 2000000 in
set_option maxRecDepth 100000 in
theorem counts_fn1 (Al : Option Addr) (cl : Nat) (l : List Ev) (hc : l.length ≤ cl) (hok : ∀ e ∈ l, e.ok) (x : Nat → Nat) (hx : ∀ c, x c < 256) (h16 : 16 < sumR (xp x) 4) :
    Does Try.prog 4 [.slice Al l.length cl, .agg #[.int .u8 ((x 0 : Nat) : Int), .int .u8 ((x 1 : Nat) : Int), .int .u8 ((x 2 : Nat) : Int), .int .u8 ((x 3 : Nat) : Int)]] [ros Ev.cells Al l, argsS (l.map Ev.ar)] (fun v _ => v = .bool true) := by
  refine Does.enter Try.func4 rfl Try.ntmps4 rfl (fun w0 => ?_)
  refine To.seq ?_
  refine To.reg ?_
  refine To.boxed rfl rfl rfl rfl rfl rfl (fun b3 => ?_)
  refine To.rd rfl rfl rfl (Rd.assign rfl rfl) ?_
  refine To.nil ?_
  refine To.thenN ?_
  refine To.seq ?_
  refine To.seq ?_
  refine To.reg ?_
  refine To.callV rfl rfl rfl (Ent.fn rfl rfl ca11) (awake_fn) rfl (oks_nil _) ?_
  refine To.rd rfl rfl rfl (Rd.not rfl rfl) ?_
  refine To.nil ?_
  refine To.thenN ?_
  refine To.condF rfl ?_
  refine To.skip ?_
  refine To.thenN ?_
  refine To.seq ?_
  refine To.reg ?_
  refine To.rd rfl rfl rfl (Rd.move rfl rfl) ?_
  refine To.callQ rfl rfl rfl (Ent.fn rfl rfl ca12) (few_fn Al cl l 11 (by decide) hc (fun e he => (hok e he).cap)) rfl (oks_cons (oks_at 1 rfl) (oks_nil _)) ?_
  rintro _ _ ⟨Ak, qk, rfl, rfl⟩
  refine ⟨rfl, ?_⟩
  refine To.as [rows Ev.cells 37 9 Ak qk ((l.take 11).map Ev.cut), box b3 [.int .u8 ((x 0 : Nat) : Int), .int .u8 ((x 1 : Nat) : Int), .int .u8 ((x 2 : Nat) : Int), .int .u8 ((x 3 : Nat) : Int)] 29, ros Ev.cells Al l, argsS (l.map Ev.ar)] rfl ?_
  refine To.rd rfl rfl rfl (Rd.assign rfl rfl) ?_
  refine To.nil ?_
  refine To.thenN ?_
  refine To.seq ?_
  refine To.know (p := ((l.take 11).map Ev.cut).length ≤ qk) (fun w hw => own_caps 0 rfl hw) (fun hqK => ?_)
  refine To.only [0, 0, 0, 0] rfl ?_
  refine To.layRow ?_
  refine To.derive (argsS (((l.take 11).map Ev.cut).map Ev.ar)) rfl (argsS_cut 3 rfl).1 (argsS_cut 3 rfl).2 ?_
  have hKl : ((l.take 11).map Ev.cut).length ≤ 11 := cut_len
  have hKa : ∀ e ∈ ((l.take 11).map Ev.cut), e.args.length ≤ 1000000000000 := cut_args
  have hKk : ∀ e ∈ ((l.take 11).map Ev.cut), 0 ≤ e.k ∧ e.k < 256 := cut_k hok
  obtain ⟨K, hK⟩ : ∃ K, K = ((l.take 11).map Ev.cut) := ⟨_, rfl⟩
  rw [← hK] at hKl hKa hKk hqK
  rw [← hK]
  refine To.reg ?_
  refine To.rd rfl rfl rfl (Rd.move rfl rfl) ?_
  refine To.callV rfl rfl rfl (Ent.fn rfl rfl ca16) (count_yes Ak qk K (Nat.le_trans hKl (by decide)) hqK) rfl (oks_cons (oks_at 1 rfl) (oks_nil _)) ?_
  refine To.rd rfl rfl rfl (Rd.move rfl rfl) ?_
  refine To.rd rfl rfl rfl (Rd.extract rfl rfl rfl) ?_
  refine To.rd rfl rfl rfl (Rd.extract rfl rfl rfl) ?_
  refine To.rd rfl rfl rfl (Rd.assign rfl rfl) ?_
  refine To.rd rfl rfl rfl (Rd.assign rfl rfl) ?_
  refine To.nil ?_
  refine To.thenN ?_
  refine To.seq ?_
  refine To.seq ?_
  refine To.reg ?_
  refine To.rd rfl rfl rfl (Rd.move rfl rfl) ?_
  refine To.rd rfl rfl rfl (Rd.not rfl rfl) ?_
  refine To.rd rfl rfl rfl (Rd.move rfl rfl) ?_
  refine To.rd rfl rfl rfl (Rd.move rfl rfl) ?_
  refine To.rd rfl rfl rfl (Rd.move rfl rfl) ?_
  refine To.callV rfl rfl rfl (Ent.fn rfl rfl ca17) (rcount_fn Ak qk K (Nat.le_trans hKl (by decide))) rfl (oks_cons (oks_at 1 rfl) (oks_nil _)) ?_
  refine To.rd rfl rfl rfl (Rd.neq rfl rfl rfl) ?_
  refine To.rd rfl rfl rfl (Rd.pickF rfl rfl rfl) ?_
  refine To.nil ?_
  refine To.sub [(0, .slice Al l.length cl), (1, .agg #[.int .u8 ((x 0 : Nat) : Int), .int .u8 ((x 1 : Nat) : Int), .int .u8 ((x 2 : Nat) : Int), .int .u8 ((x 3 : Nat) : Int)]), (3, .pointer (some ⟨b3, 0, none⟩)), (4, .bool false), (14, .bool false), (5, .slice Ak K.length qk), (6, .int .u64 ((cntV K : Nat) : Int)), (7, .bool true), (29, .bool (decide (((cntV K : Nat) : Int) ≠ ((cntV K : Nat) : Int))))] ⟨rfl, rfl, rfl, rfl, rfl, rfl, rfl, rfl, rfl, trivial⟩ ?_
  refine To.thenN ?_
  refine To.condP rfl (fun c29 => ?_) (fun c29 => ?_)
  ·
    exact absurd rfl c29
  ·
    refine To.skip ?_
    refine To.thenN ?_
    refine To.seq ?_
    refine To.reg ?_
    refine To.rd rfl rfl rfl (Rd.assign rfl rfl) ?_
    refine To.nil ?_
    refine To.thenN ?_
    refine To.seq ?_
    refine To.nilRow Ev.cells 37 9 ?_
    refine To.reg ?_
    refine To.rd rfl rfl rfl (Rd.assign rfl rfl) ?_
    refine To.nil ?_
    refine To.thenN ?_
    refine To.seq ?_
    refine To.seq ?_
    refine To.reg ?_
    refine To.rd rfl rfl rfl (Rd.loadS (i := 3) rfl rfl r29 rfl box_whole rfl) ?_
    refine To.rd rfl rfl rfl (Rd.move rfl rfl) ?_
    refine To.nil ?_
    refine To.thenN ?_
    refine To.block ?_
    refine To.sub [(8, .slice none ((chL (xp x) 0).length) 0), (9, .int .u64 (((wst (xp x) 0).1 : Nat) : Int)), (30, .agg #[.int .u8 ((x 0 : Nat) : Int), .int .u8 ((x 1 : Nat) : Int), .int .u8 ((x 2 : Nat) : Int), .int .u8 ((x 3 : Nat) : Int)]), (31, .int .i64 ((0 : Nat) : Int))] ⟨rfl, rfl, rfl, rfl, trivial⟩ ?_
    refine To.only [0] rfl ?_
    refine To.as [rows Ev.cells 37 9 none 0 (chL (xp x) 0)] rfl ?_
    refine To.loop (fun mz ρ Γ => ∃ (c : Nat) (A8 : Option Addr) (q8 : Nat), ρ = [(8, .slice A8 ((chL (xp x) c).length) q8), (9, .int .u64 (((wst (xp x) c).1 : Nat) : Int)), (30, .agg #[.int .u8 ((x 0 : Nat) : Int), .int .u8 ((x 1 : Nat) : Int), .int .u8 ((x 2 : Nat) : Int), .int .u8 ((x 3 : Nat) : Int)]), (31, .int .i64 ((c : Nat) : Int))] ∧ Γ = [rows Ev.cells 37 9 A8 q8 (chL (xp x) c)] ∧ mz = 4 - c ∧ (c ≤ 4)) (4 - 0) ⟨0, none, 0, rfl, rfl, rfl, (Nat.zero_le _)⟩ ?_
    rintro mz _ _ ⟨c, A8, q8, rfl, rfl, rfl, hcl⟩
    refine To.seq ?_
    refine To.reg ?_
    refine To.rd rfl rfl rfl (Rd.lss rfl rfl rfl) ?_
    refine To.nil ?_
    refine To.thenN ?_
    refine To.seq ?_
    refine To.condP rfl (fun c32 => ?_) (fun c32 => ?_)
    ·
      have hc4 : c < 4 := by omega
      have hx6 : x c % 6 < 6 := Nat.mod_lt _ (by decide)
      refine To.skip ?_
      refine To.thenN ?_
      refine To.seq ?_
      refine To.block ?_
      refine To.seq ?_
      refine To.reg ?_
      refine To.rd rfl rfl rfl (Rd.move rfl rfl) ?_
      refine To.rd rfl rfl rfl (Rd.part rfl rfl rfl hc4) ?_
      refine To.rd rfl rfl rfl (Rd.assign rfl rfl) ?_
      refine To.rd rfl rfl rfl (Rd.assign rfl rfl) ?_
      refine To.nil ?_
      refine To.thenN ?_
      refine To.seq ?_
      refine To.reg ?_
      refine To.rd rfl rfl rfl (Rd.move rfl rfl) ?_
      refine To.rd rfl rfl rfl (Rd.remN (a := (x c)) (b := 6) rfl rfl rfl (by omega)) ?_
      refine To.rd rfl rfl rfl (Rd.conv rfl rfl Try.underlying5 Try.underlying3 (IntWalk.i64_in _ (by omega))) ?_
      refine To.rd rfl rfl rfl (Rd.move rfl rfl) ?_
      refine To.nil ?_
      refine To.thenN ?_
      refine To.block ?_
      refine To.sub [(8, .slice A8 ((chL (xp x) c ++ seg c 0).length) q8), (9, .int .u64 (((wch (wst (xp x) c) 0).1 : Nat) : Int)), (10, .int .i64 ((c : Nat) : Int)), (30, .agg #[.int .u8 ((x 0 : Nat) : Int), .int .u8 ((x 1 : Nat) : Int), .int .u8 ((x 2 : Nat) : Int), .int .u8 ((x 3 : Nat) : Int)]), (31, .int .i64 ((c : Nat) : Int)), (37, .int .i64 ((x c % 6 : Nat) : Int)), (38, .int .i64 ((0 : Nat) : Int))] ⟨by rw [chs0]; rfl, rfl, rfl, rfl, rfl, rfl, rfl, trivial⟩ ?_
      refine To.only [0] rfl ?_
      refine To.as [rows Ev.cells 37 9 A8 q8 (chL (xp x) c ++ seg c 0)] (by rw [chs0]) ?_
      refine To.loop (fun mz ρ Γ => ∃ (i : Nat) (A9 : Option Addr) (q9 : Nat), ρ = [(8, .slice A9 ((chL (xp x) c ++ seg c i).length) q9), (9, .int .u64 (((wch (wst (xp x) c) i).1 : Nat) : Int)), (10, .int .i64 ((c : Nat) : Int)), (30, .agg #[.int .u8 ((x 0 : Nat) : Int), .int .u8 ((x 1 : Nat) : Int), .int .u8 ((x 2 : Nat) : Int), .int .u8 ((x 3 : Nat) : Int)]), (31, .int .i64 ((c : Nat) : Int)), (37, .int .i64 ((x c % 6 : Nat) : Int)), (38, .int .i64 ((i : Nat) : Int))] ∧ Γ = [rows Ev.cells 37 9 A9 q9 (chL (xp x) c ++ seg c i)] ∧ mz = x c % 6 - i ∧ (i ≤ x c % 6)) (x c % 6 - 0) ⟨0, A8, q8, rfl, rfl, rfl, (Nat.zero_le _)⟩ ?_
      rintro mz _ _ ⟨i, A9, q9, rfl, rfl, rfl, hi⟩
      refine To.seq ?_
      refine To.reg ?_
      refine To.rd rfl rfl rfl (Rd.lss rfl rfl rfl) ?_
      refine To.nil ?_
      refine To.thenN ?_
      refine To.seq ?_
      refine To.condP rfl (fun c39 => ?_) (fun c39 => ?_)
      ·
        refine To.skip ?_
        refine To.thenN ?_
        refine To.seq ?_
        refine To.block ?_
        refine To.seq ?_
        refine To.reg ?_
        refine To.rd rfl rfl rfl (Rd.move rfl rfl) ?_
        refine To.rd rfl rfl rfl (Rd.assign rfl rfl) ?_
        refine To.nil ?_
        refine To.thenN ?_
        refine To.seq ?_
        have hb0 := sum_lt x (c := c) (by omega)
        have hl0 : (chL (xp x) c ++ seg c i).length = sumR (xp x) c + i := by rw [List.length_append, chL_len, seg_len]
        refine To.reg ?_
        refine To.rd rfl rfl rfl (Rd.move rfl rfl) ?_
        refine To.rd rfl rfl rfl (Rd.move rfl rfl) ?_
        refine To.rd rfl rfl rfl (Rd.move rfl rfl) ?_
        refine To.rd rfl rfl rfl (Rd.move rfl rfl) ?_
        refine To.rd rfl rfl rfl (Rd.build (vs := [(0, .int .i64 ((i : Nat) : Int)), (1, .int .i64 ((c : Nat) : Int)), (2, .int .u8 3), (4, .int .i64 ((i : Nat) : Int))]) (cells := [.int .i64 ((i : Nat) : Int), .int .i64 ((c : Nat) : Int), .int .u8 3, .int .i64 0, .int .i64 ((i : Nat) : Int), .int .i64 0, .int .i64 0, .int .i64 0, .slice none 0 0]) rfl rfl rfl (by kernel_rfl)) ?_
        refine To.mk rfl rfl rfl (Mk.sliceN (us := [.int .i64 ((i : Nat) : Int), .int .i64 ((c : Nat) : Int), .int .u8 3, .int .i64 0, .int .i64 ((i : Nat) : Int), .int .i64 0, .int .i64 0, .int .i64 0, .slice none 0 0]) rfl s22 rfl rfl rfl rfl rfl rfl) ?_
        rintro _ _ ⟨b46, rfl, rfl⟩
        refine To.as [row 37 9 (some ⟨b46, 0, none⟩) 1 1 [.int .i64 ((i : Nat) : Int), .int .i64 ((c : Nat) : Int), .int .u8 3, .int .i64 0, .int .i64 ((i : Nat) : Int), .int .i64 0, .int .i64 0, .int .i64 0, .slice none 0 0], rows Ev.cells 37 9 A9 q9 (chL (xp x) c ++ seg c i)] rfl ?_
        refine To.ge rfl rfl rfl (Ge.append1 encE (i := 1) (j := 0) (el := (ce c i)) rfl s22 rfl rfl rfl rfl rfl (by first | omega | (simp only [List.length_append, List.length_cons, List.length_nil]; omega)) (by first | omega | (simp only [List.length_append, List.length_cons, List.length_nil]; omega))) ?_
        rintro _ _ ⟨A47, q47, rfl, rfl⟩
        refine To.as [row 37 9 (some ⟨b46, 0, none⟩) 1 1 [.int .i64 ((i : Nat) : Int), .int .i64 ((c : Nat) : Int), .int .u8 3, .int .i64 0, .int .i64 ((i : Nat) : Int), .int .i64 0, .int .i64 0, .int .i64 0, .slice none 0 0], rows Ev.cells 37 9 A47 q47 ((chL (xp x) c ++ seg c i) ++ [(ce c i)])] rfl ?_
        refine To.rd rfl rfl rfl (Rd.assign rfl rfl) ?_
        refine To.nil ?_
        refine To.thenN ?_
        have hlE : (chL (xp x) c ++ seg c i ++ [ce c i]).length = sumR (xp x) c + i + 1 := by rw [List.length_append, List.length_append, chL_len, seg_len]; rfl
        have hb := sum_lt x (c := c) (by omega)
        have hw := w_lt x (c := c) (i := i) (by omega) (by omega)
        have hmul : (wch (wst (xp x) c) i).1 * (chL (xp x) c ++ seg c i ++ [ce c i]).length < 18446744073709551616 := by
          rw [hlE]
          exact Nat.lt_of_le_of_lt (Nat.mul_le_mul (Nat.le_of_lt hw) (show _ ≤ 30 by omega)) (by decide)
        refine To.reg ?_
        refine To.rd rfl rfl rfl (Rd.move rfl rfl) ?_
        refine To.rd rfl rfl rfl (Rd.move rfl rfl) ?_
        refine To.rd rfl rfl rfl (Rd.len rfl rfl Try.underlying22) ?_
        refine To.rd rfl rfl rfl (Rd.conv rfl rfl Try.underlying3 Try.underlying30 (wrapU (by first | omega | (simp only [List.length_append, List.length_cons, List.length_nil]; omega)))) ?_
        refine To.rd rfl rfl rfl (Rd.mulU (a := ((wch (wst (xp x) c) i).1)) (b := (((chL (xp x) c ++ seg c i) ++ [(ce c i)]).length)) rfl rfl rfl hmul) ?_
        refine To.rd rfl rfl rfl (Rd.move rfl rfl) ?_
        refine To.rd rfl rfl rfl (Rd.inc rfl rfl rfl (by omega)) ?_
        refine To.rd rfl rfl rfl (Rd.conv rfl rfl Try.underlying3 Try.underlying30 (wrapU (by first | omega | (simp only [List.length_append, List.length_cons, List.length_nil]; omega)))) ?_
        refine To.rd rfl rfl rfl (Rd.quoU (a := (((wch (wst (xp x) c) i).1) * (((chL (xp x) c ++ seg c i) ++ [(ce c i)]).length))) (b := (i + 1)) rfl rfl rfl (by omega) hmul) ?_
        refine To.rd rfl rfl rfl (Rd.assign rfl rfl) ?_
        refine To.nil ?_
        refine To.sub [(8, .slice A47 (((chL (xp x) c ++ seg c i) ++ [(ce c i)]).length) q47), (9, .int .u64 (((((wch (wst (xp x) c) i).1) * (((chL (xp x) c ++ seg c i) ++ [(ce c i)]).length)) / (i + 1) : Nat) : Int)), (10, .int .i64 ((c : Nat) : Int)), (30, .agg #[.int .u8 ((x 0 : Nat) : Int), .int .u8 ((x 1 : Nat) : Int), .int .u8 ((x 2 : Nat) : Int), .int .u8 ((x 3 : Nat) : Int)]), (31, .int .i64 ((c : Nat) : Int)), (37, .int .i64 ((x c % 6 : Nat) : Int)), (38, .int .i64 ((i : Nat) : Int)), (39, .bool (decide (((i : Nat) : Int) < ((x c % 6 : Nat) : Int)))), (12, .int .i64 ((i : Nat) : Int))] ⟨rfl, rfl, rfl, rfl, rfl, rfl, rfl, rfl, rfl, trivial⟩ ?_
        refine To.blockN ?_
        refine To.thenN ?_
        refine To.reg ?_
        refine To.rd rfl rfl rfl (Rd.inc rfl rfl rfl (by omega)) ?_
        refine To.rd rfl rfl rfl (Rd.move rfl rfl) ?_
        refine To.nil ?_
        refine To.thenN ?_
        have hE : chL (xp x) c ++ seg c (i + 1) = chL (xp x) c ++ seg c i ++ [ce c i] := by rw [seg_succ, List.append_assoc]
        have hw : (wch (wst (xp x) c) (i + 1)).1 = (wch (wst (xp x) c) i).1 * (chL (xp x) c ++ seg c i ++ [ce c i]).length / (i + 1) := by
          rw [wch_succ, wch_two, wst_two, hlE]
        refine To.sub [(8, .slice A47 ((chL (xp x) c ++ seg c (i + 1)).length) q47), (9, .int .u64 (((wch (wst (xp x) c) (i + 1)).1 : Nat) : Int)), (10, .int .i64 ((c : Nat) : Int)), (30, .agg #[.int .u8 ((x 0 : Nat) : Int), .int .u8 ((x 1 : Nat) : Int), .int .u8 ((x 2 : Nat) : Int), .int .u8 ((x 3 : Nat) : Int)]), (31, .int .i64 ((c : Nat) : Int)), (37, .int .i64 ((x c % 6 : Nat) : Int)), (38, .int .i64 (((i + 1) : Nat) : Int))] ⟨by rw [hE]; rfl, by rw [hw]; rfl, rfl, rfl, rfl, rfl, rfl, trivial⟩ ?_
        refine To.only [1] rfl ?_
        refine To.as [rows Ev.cells 37 9 A47 q47 (chL (xp x) c ++ seg c (i + 1))] (by rw [hE]) ?_
        refine To.again (x c % 6 - (i + 1)) (by omega) ⟨i + 1, A47, q47, rfl, rfl, rfl, (by omega)⟩
      ·
        refine To.exit ?_
        refine To.thenX ?_
        refine To.thenX ?_
        refine To.blockX ?_
        refine To.blockN ?_
        refine To.thenN ?_
        refine To.reg ?_
        refine To.rd rfl rfl rfl (Rd.inc rfl rfl rfl (by omega)) ?_
        refine To.rd rfl rfl rfl (Rd.move rfl rfl) ?_
        refine To.nil ?_
        refine To.thenN ?_
        obtain rfl : i = x c % 6 := by omega
        have hE : chL (xp x) (c + 1) = chL (xp x) c ++ seg c (x c % 6) := chL_succ _ _
        refine To.sub [(8, .slice A9 ((chL (xp x) (c + 1)).length) q9), (9, .int .u64 (((wst (xp x) (c + 1)).1 : Nat) : Int)), (30, .agg #[.int .u8 ((x 0 : Nat) : Int), .int .u8 ((x 1 : Nat) : Int), .int .u8 ((x 2 : Nat) : Int), .int .u8 ((x 3 : Nat) : Int)]), (31, .int .i64 (((c + 1) : Nat) : Int))] ⟨by rw [hE]; rfl, rfl, rfl, rfl, trivial⟩ ?_
        refine To.only [0] rfl ?_
        refine To.as [rows Ev.cells 37 9 A9 q9 (chL (xp x) (c + 1))] (by rw [hE]) ?_
        refine To.again (4 - (c + 1)) (by omega) ⟨c + 1, A9, q9, rfl, rfl, rfl, (by omega)⟩
    ·
      refine To.exit ?_
      refine To.thenX ?_
      refine To.thenX ?_
      refine To.blockX ?_
      refine To.thenN ?_
      refine To.seq ?_
      obtain rfl : c = 4 := by omega
      refine To.know (p := (chL (xp x) 4).length ≤ q8) (fun w hw => own_caps 0 rfl hw) (fun hqE => ?_)
      refine To.reg ?_
      refine To.rd rfl rfl rfl (Rd.move rfl rfl) ?_
      refine To.callV rfl rfl rfl (Ent.fn rfl rfl ca16) (count_no A8 q8 (chL (xp x) 4) (by rw [chL_len]; exact h16) (by rw [chL_len]; have := sum_lt x (c := 4) (by omega); omega) hqE) rfl (oks_cons (oks_row 0 rfl) (oks_nil _)) ?_
      refine To.rd rfl rfl rfl (Rd.move rfl rfl) ?_
      refine To.rd rfl rfl rfl (Rd.extract rfl rfl rfl) ?_
      refine To.rd rfl rfl rfl (Rd.extract rfl rfl rfl) ?_
      refine To.rd rfl rfl rfl (Rd.assign rfl rfl) ?_
      refine To.rd rfl rfl rfl (Rd.assign rfl rfl) ?_
      refine To.nil ?_
      refine To.thenN ?_
      refine To.seq ?_
      refine To.seq ?_
      refine To.reg ?_
      refine To.rd rfl rfl rfl (Rd.move rfl rfl) ?_
      refine To.rd rfl rfl rfl (Rd.len rfl rfl Try.underlying22) ?_
      refine To.rd rfl rfl rfl (Rd.gtr rfl rfl rfl) ?_
      refine To.nil ?_
      refine To.thenN ?_
      refine To.condP rfl (fun c66 => ?_) (fun c66 => ?_)
      ·
        refine To.seq ?_
        refine To.reg ?_
        refine To.rd rfl rfl rfl (Rd.move rfl rfl) ?_
        refine To.rd rfl rfl rfl (Rd.eql rfl rfl rfl) ?_
        refine To.rd rfl rfl rfl (Rd.move rfl rfl) ?_
        refine To.rd rfl rfl rfl (Rd.move rfl rfl) ?_
        refine To.rd rfl rfl rfl (Rd.not rfl rfl) ?_
        refine To.rd rfl rfl rfl (Rd.pickT rfl rfl rfl) ?_
        refine To.rd rfl rfl rfl (Rd.assign rfl rfl) ?_
        refine To.nil ?_
        refine To.sub [(8, .slice A8 ((chL (xp x) 4).length) q8), (9, .int .u64 (((wst (xp x) 4).1 : Nat) : Int)), (6, .int .u64 0), (7, .bool false), (66, .bool (decide (16 < (((chL (xp x) 4).length : Nat) : Int)))), (4, .bool true)] ⟨rfl, rfl, rfl, rfl, rfl, rfl, trivial⟩ ?_
        refine To.thenN ?_
        refine To.ret ?_
        refine To.thenR ?_
        refine To.end1 (.inl rfl) Try.results4 rfl ?_
        rfl
      ·
        rw [chL_len] at c66; omega
theorem counts_fn (Al : Option Addr) (cl : Nat) (l : List Ev) (hc : l.length ≤ cl) (hok : ∀ e ∈ l, e.ok) (x0 x1 x2 x3 : Nat) (h0 : x0 < 256) (h1 : x1 < 256) (h2 : x2 < 256) (h3 : x3 < 256) :
    Does Try.prog 4 [.slice Al l.length cl, .agg #[.int .u8 ((x0 : Nat) : Int), .int .u8 ((x1 : Nat) : Int), .int .u8 ((x2 : Nat) : Int), .int .u8 ((x3 : Nat) : Int)]] [ros Ev.cells Al l, argsS (l.map Ev.ar)] (fun v _ => v = .bool true) := by
  let x : Nat → Nat := fun c => if c = 0 then x0 else if c = 1 then x1 else if c = 2 then x2 else x3
  have hx : ∀ c, x c < 256 := fun c => by
    show (if c = 0 then x0 else if c = 1 then x1 else if c = 2 then x2 else x3) < 256
    split
    · exact h0
    · split
      · exact h1
      · split
        · exact h2
        · exact h3
  rcases Nat.lt_or_ge 16 (sumR (xp x) 4) with h | h
  · exact counts_fn1 Al cl l hc hok x hx h
  · exact counts_fn0 Al cl l hc hok x hx h
theorem four {zs : List Int} (h : zs.length = 4) : ∃ x0 x1 x2 x3, zs = [x0, x1, x2, x3] := by
  match zs, h with
  | [x0, x1, x2, x3], _ => exact ⟨x0, x1, x2, x3, rfl⟩
end Go.Proofs.Ytneimfacccgaeaa
