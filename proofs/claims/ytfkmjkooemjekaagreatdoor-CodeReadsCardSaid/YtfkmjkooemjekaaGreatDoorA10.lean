/- The interpreter of known runs: what is appended: that it is so. Own text. -/
import Derived.Test.YtfkmjkooemjekaaGreatDoorA9
set_option linter.unusedVariables false
set_option linter.unusedSimpArgs false
namespace Go.In
open Go.RowKit Go.Flow Go.Mem Go.Sep
section
variable {P : Program} {o : Oper} {ρ : ASlots} {M M' : List MC} {σ : Nat → Nat} {v : AV} {k : Nat} {r : Res}
theorem acEq_ok {a b : AC} (h : acEq a b = true) : a = b := by
  cases a <;> cases b <;> first | (cases h; done) | skip
  · simp only [acEq] at h; rw [Nat.eq_of_beq_eq_true h]
  · simp only [acEq, Bool.and_eq_true] at h; rw [Nat.eq_of_beq_eq_true h.1, Nat.eq_of_beq_eq_true h.2]
theorem src_gives {c : MC} {cs : List AV} (hc : cellsM c = some cs) {i j : Nat} (hf : find M i = some (j, c)) (q n : Nat) : ∀ w, oks (mem σ M) w → Src w (some ⟨bl σ i, q, none⟩) (vals σ (subA cs q n)) := fun w hw => by
  have h := ck_gives (σ := σ) hc q n w (hw _ (List.mem_of_getElem? (mem_at (σ := σ) hf)))
  rw [(find_get hf).2] at h
  exact .inr ⟨_, _, rfl, h⟩
theorem srcA_ok {size : Nat} {u : AV} {m : Nat} {us : List AV} (h : srcA M size u = some (m, us)) : ∃ A : (Nat → Nat) → Option Addr, ∃ c : (Nat → Nat) → Nat, ∀ σ, val σ u = .slice (A σ) m (c σ) ∧ ∀ w, oks (mem σ M) w → Src w (A σ) (vals σ us) := by
  unfold srcA at h
  split at h
  · cases h
    exact ⟨fun _ => none, fun _ => 0, fun σ => ⟨by simp only [val], fun w _ => .inl rfl⟩⟩
  · split at h
    · rename_i i q l c hs
      split at h
      · rename_i j b hf
        split at h
        · rename_i cs hc
          cases hb : Nat.ble (q + l * size) cs.length with
          | false => rw [hb] at h; cases h
          | true =>
            rw [hb] at h; cases h
            exact ⟨fun σ => some ⟨bl σ i, q, none⟩, fun σ => cp σ c, fun σ => ⟨slv_val hs, src_gives hc hf q _⟩⟩
        · cases h
      · cases h
    · cases h
theorem srcA_bel {size : Nat} {u : AV} {m : Nat} {us : List AV} (h : srcA M size u = some (m, us)) (hM : belM k M) : bels k us := by
  unfold srcA at h
  split at h
  · cases h; simp only [bels]
  · split at h
    · split at h
      · rename_i j b hf
        split at h
        · rename_i cs hc
          cases hb : Nat.ble _ cs.length with
          | false => rw [hb] at h; cases h
          | true => rw [hb] at h; cases h; exact bels_sub (cellsM_bel hc (hM b (find_mem hf)))
        · cases h
      · cases h
    · cases h
theorem ontoA_ok {e size j i n : Nat} {c : AC} {b : MC} (h : ontoA M v e size = some (j, i, n, c, b)) : find M i = some (j, b) ∧ b.kd = .row e size n c ∧ ∀ σ, val σ v = .slice (some ⟨bl σ i, 0, none⟩) n (cp σ c) := by
  unfold ontoA at h
  split at h
  · rename_i i' n' c' hs
    split at h
    · rename_i j' b' hf
      split at h
      · rename_i e2 size2 n2 c2 hk
        cases hq : (Nat.beq e2 e && Nat.beq size2 size && Nat.beq n2 n' && acEq c2 c') with
        | false => rw [hq] at h; cases h
        | true =>
          rw [hq] at h; cases h
          simp only [Bool.and_eq_true] at hq
          obtain ⟨⟨⟨h1, h2⟩, h3⟩, h4⟩ := hq
          rw [Nat.eq_of_beq_eq_true h1, Nat.eq_of_beq_eq_true h2, Nat.eq_of_beq_eq_true h3, acEq_ok h4] at hk
          exact ⟨hf, hk, fun σ => slv_val hs⟩
      · cases h
    · cases h
  · cases h
theorem fresh_ok (h : fresh v = true) : ∃ A : (Nat → Nat) → Option Addr, ∀ σ, val σ v = .slice (A σ) 0 0 := by
  unfold fresh at h
  split at h
  · exact ⟨fun _ => none, fun σ => by simp only [val]⟩
  · rename_i i q; exact ⟨fun σ => some ⟨bl σ i, q, none⟩, fun σ => by simp only [val]⟩
  · cases h
theorem strCs_val {s : List Nat} : Lib.strCells (bytesOf s) = vals σ (strCs s) := by
  unfold Lib.strCells bytesOf strCs
  rw [vals_map]
  simp [List.map_map, Function.comp_def, val]
theorem strCs_bel {s : List Nat} : bels k (strCs s) := by
  rw [bels_iff]
  intro z hz
  obtain ⟨b, _, rfl⟩ := List.mem_map.1 hz
  simp only [bel]
theorem bels_app {a b : List AV} (h1 : bels k a) (h2 : bels k b) : bels k (a ++ b) := by
  rw [bels_iff] at h1 h2 ⊢
  exact fun z hz => (List.mem_append.1 hz).elim (h1 z) (h2 z)
theorem outRow (hk : 4096 ≤ k) {e size n : Nat} {cs : List AV} (hcs : bels k cs) (hn : 0 < n) {u : Value} {N : List Chunk} {w : World} {xs : List Value} (hx : ∀ σ', Sup k σ σ' → vals σ' cs = xs) (h : ∃ A' cap', u = .slice A' n cap' ∧ N = [Sep.row e size A' n cap' xs]) (hs : sat N w) :
    Outs k σ (.slu k 0 n (k + 1) n) [⟨k, .row e size n (.un (k + 1) n), cs⟩] u N := by
  obtain ⟨A', cap', rfl, rfl⟩ := h
  have hrow : w.ownsRow 0 e size (.slice A' n cap') n xs := hs.each _ (List.mem_cons_self ..)
  have hA := own_some hrow hn
  obtain ⟨A2, cap2, h1, _, h2, _⟩ := own_form hrow
  cases h1
  refine ⟨upd (upd σ k (blk A')) (k + 1) (cap' - n), upd2_sup, ?_, ?_⟩
  · simp only [val, bl_upd2 hk, upd2_at]
    rw [show n + (cap' - n) = cap' by omega, ← hA]
  · simp only [mem, ck, cp, List.map_cons, List.map_nil, bl_upd2 hk, upd2_at]
    rw [show n + (cap' - n) = cap' by omega, ← hA, hx _ upd2_sup]
theorem bel_row {e size n : Nat} {cs : List AV} (hcs : bels k cs) : belMC (k + 2) ⟨k, .row e size n (.un (k + 1) n), cs⟩ := ⟨by show k < k + 2; omega, by show k + 1 < k + 2; omega, bels_up (by omega) _ hcs⟩
theorem outGrown (hk : 4096 ≤ k) {e size n j : Nat} {cs : List AV} (hM : belM k M) (hj : j < M.length) (hcs : bels k cs) (hn : 0 < n) {u : Value} {Γ : List Chunk} {w : World} (h : ∃ A' cap', u = .slice A' n cap' ∧ Γ = (mem σ M).set j (Sep.row e size A' n cap' (vals σ cs))) (hs : sat Γ w) :
    Outs k σ (.slu k 0 n (k + 1) n) (M.set j ⟨k, .row e size n (.un (k + 1) n), cs⟩) u Γ := by
  obtain ⟨A', cap', rfl, rfl⟩ := h
  have hmem : Sep.row e size A' n cap' (vals σ cs) ∈ (mem σ M).set j (Sep.row e size A' n cap' (vals σ cs)) := List.mem_iff_getElem?.2 ⟨j, by simp [mem, hj]⟩
  have hrow : w.ownsRow 0 e size (.slice A' n cap') n (vals σ cs) := hs.each _ hmem
  have hA := own_some hrow hn
  obtain ⟨A2, cap2, h1, _, h2, _⟩ := own_form hrow
  cases h1
  refine ⟨upd (upd σ k (blk A')) (k + 1) (cap' - n), upd2_sup, ?_, ?_⟩
  · simp only [val, bl_upd2 hk, upd2_at]
    rw [show n + (cap' - n) = cap' by omega, ← hA]
  · rw [mem_set, ← mem_ext (fun i hi => (upd2_sup (σ := σ) (b := blk A') (c := cap' - n)) i hi) hM]
    congr 1
    simp only [ck, cp, bl_upd2 hk, upd2_at]
    rw [show n + (cap' - n) = cap' by omega, ← hA, ← vals_ext (fun i hi => (upd2_sup (σ := σ) (b := blk A') (c := cap' - n)) i hi) _ hcs]
theorem find_lt {i j : Nat} {c : MC} (h : find M i = some (j, c)) : j < M.length := (List.getElem?_eq_some_iff.1 (find_get h).1).1
theorem all_oneV {us : List AV} (h : us.all one = true) : ∀ u ∈ vals σ us, u.oneCell' = true := List.all_eq_true.1 (all_one h)
theorem Mk.appendRaw {t e : TypeId} {size bytes m cb : Nat} {zs xs : List Value} {A B : Option Addr} {ρ : Slots} {Γ : List Chunk} {x y : Operand} (ho : o.op = .call { callee := .builtin .append, args := #[x, y], argTypes := #[t, t] }) (ht : SliceTy P t e size bytes zs)
    (hx : ev ρ x = some (.slice A 0 0)) (hy : ev ρ y = some (.slice B m cb)) (hs : ∀ w, oks Γ w → Src w B xs) (hl : xs.length = m * size) (h1 : ∀ u ∈ xs, u.oneCell' = true) (h0 : 0 < m) (h63 : m ≤ 16777216) (hby : m * bytes ≤ 16777216) :
    Mk P o ρ Γ (fun v N => ∃ A' cap', v = .slice A' m cap' ∧ N = [Sep.row e size A' m cap' xs]) := fun a w ha hG => by
  obtain ⟨it, zv, h2, h3, h4, h5, h6⟩ := ht.inf
  have hsrc := hs w hG
  have hnil : w.ownsRow 0 e size (.slice none 0 0) 0 [] := World.ownsRow_nil w 0 e size
  obtain ⟨v', w', hrun, h7, h8, h9⟩ := run_append_from (P := P) w 0 t o.type e it zv size bytes ht.und h2 h3 h4 h5 (by rw [h6]; simpa using ht.len) ht.pos _ 0 [] hnil B m cb xs hl hsrc h1 (by simp only [maxLen]; omega) (by rw [Nat.zero_add]; omega) (Nat.zero_le _)
  have hrun2 : (Builtin.append_ #[t, t] o.type #[.slice A 0 0, .slice B m cb]).run P w = .ok v' w' := by
    rw [← hrun]
    cases A with
    | none => rfl
    | some b =>
      rcases hsrc with h | ⟨g, off, rfl, hr⟩
      · have hp := ht.pos
        have : 0 < m * size := Nat.mul_pos h0 hp
        rw [h] at hl
        simp at hl; omega
      · exact append_empty_eq ht.und h2 h3 b ⟨g, off, none⟩ m cb xs (by rw [hl, h4]) (fun j v hv => by rw [Addr.add_mid]; exact hr j v hv) h0 (by omega) (by rw [h5]; omega)
  rw [Nat.zero_add, List.nil_append] at h7
  obtain ⟨A', cap', rfl, _⟩ := own_form h7
  have hnew : ∀ g, g ∈ blks A' → g = w.heap.size := fun g hg => by
    obtain ⟨ad, rfl, rfl⟩ := mem_blks.1 hg
    rcases h9 with h9 | h9
    · simp [Value.ownBlock] at h9
    · simp [Value.ownBlock] at h9; exact h9
  refine ⟨_, _, w', ?_, ⟨A', cap', rfl, rfl⟩, ⟨⟨fun c hc => by rw [List.mem_singleton.1 hc]; exact h7, by cases A' <;> simp [owns, row, blks], by simp [reads, row]⟩, h8.mono fun _ _ h => by simp [Value.ownBlock] at h, fun g hg hl => ?_, by simp [reads, row]⟩⟩
  · unfold execOp
    simp only [ho, resolve, invoke, builtin, Sem.run_bind, Sem.run_pure, Result.andThen_ok, List.map_toArray, List.map_cons, List.map_nil, ha.eval hx, ha.eval hy, hrun2]
  · have : g ∈ blks A' := by simpa [owns, row] using hg
    have := hnew g this; omega
theorem one2 {as : Array Operand} {x y : Operand} (h : as.toList = [x, y]) : as = #[x, y] := by rw [← Array.toList_inj]; exact h
theorem one2t {as : Array TypeId} {x y : TypeId} (h : as.toList = [x, y]) : as = #[x, y] := by rw [← Array.toList_inj]; exact h
theorem appA_ok (hk : 4096 ≤ k) (hb : belS k ρ) (hM : belM k M) (h : appA P k ρ M o.op = some r) : ResOk P o ρ M k r := by
  generalize ho : o.op = op at h
  unfold appA at h
  split at h
  · rename_i c
    obtain ⟨cl, as, ts⟩ := c
    simp only at h
    split at h
    · rename_i x y t t' h1 h2
      have e1 := one2 h1
      have e2 := one2t h2
      subst e1 e2
      split at h
      -- a word's letters
      · rename_i v s hx hy
        split at h
        · rename_i e hbs
          have hB := byteSl_ok hbs
          cases hq : (strTy P t' && Nat.ble s.length 16777216 && Nat.blt 0 s.length) with
          | false => rw [hq] at h; cases h
          | true =>
            rw [hq] at h; simp only [cond_true] at h
            simp only [Bool.and_eq_true] at hq
            obtain ⟨⟨q1, q2⟩, q3⟩ := hq
            have q2 := Nat.le_of_ble_eq_true q2
            have q3 := Nat.le_of_ble_eq_true q3
            split at h
            · cases h
              refine ⟨by omega, by simp only [bel]; omega, fun c hc => by rw [List.mem_singleton.1 hc]; exact bel_row strCs_bel, fun σ => ?_⟩
              have := Mk.appendStr (Γ := mem σ M) ho hB (strTy_ok q1) (evv (σ := σ) hx) (evv (σ := σ) hy) (by rw [bytes_size]; omega)
              rw [bytes_size] at this
              exact Mk.mono this fun u N w hR hs => outRow hk strCs_bel q3 (fun σ' _ => (strCs_val (σ := σ') (s := s)).symm) hR hs
            · split at h
              · rename_i j i n c b hon
                cases hn : Nat.ble n 16777216 with
                | false => rw [hn] at h; cases h
                | true =>
                  rw [hn] at h; cases h
                  have hn := Nat.le_of_ble_eq_true hn
                  obtain ⟨g1, g2, g3⟩ := ontoA_ok hon
                  have hbb := hM b (find_mem g1)
                  have hcs : bels k (b.cs ++ strCs s) := bels_app hbb.cs strCs_bel
                  refine ⟨by omega, by simp only [bel]; omega, belM_set (belM_up (by omega) hM) (bel_row hcs), fun σ => ?_⟩
                  have hat := mem_at (σ := σ) g1
                  have e3 : ck σ b = Sep.row e 1 (some ⟨bl σ i, 0, none⟩) n (cp σ c) (vals σ b.cs) := by unfold ck; rw [g2, (find_get g1).2]
                  rw [e3] at hat
                  have hx' : ev (inst σ ρ) x = some (.slice (some ⟨bl σ i, 0, none⟩) n (cp σ c)) := by rw [ev_inst (σ := σ) hx, g3]
                  have := Ge.appendStr (Γ := mem σ M) ho hB (strTy_ok q1) hx' (evv (σ := σ) hy) hat (by rw [bytes_size]; omega)
                  rw [bytes_size, strCs_val (σ := σ)] at this
                  refine Ge.mono this fun u N w hR hs => outGrown hk hM (find_lt g1) hcs (by omega) ?_ hs
                  obtain ⟨A', cap', r1, r2⟩ := hR
                  exact ⟨A', cap', r1, by rw [r2, vals_map, vals_map, vals_map, List.map_append]⟩
              · cases h
        · cases h
      -- elements of a slice
      · rename_i v u _ hx hy
        split at h
        · rename_i s hs
          split at h
          · rename_i m us hsrc
            cases hq : (Nat.beq t t' && us.all one && Nat.beq us.length (m * s.size) && Nat.ble (m * s.bytes) 16777216 && Nat.ble m 16777216) with
            | false => rw [hq] at h; cases h
            | true =>
              rw [hq] at h; simp only [cond_true] at h
              simp only [Bool.and_eq_true] at hq
              obtain ⟨⟨⟨⟨q1, q2⟩, q3⟩, q4⟩, q5⟩ := hq
              have q1 := Nat.eq_of_beq_eq_true q1
              have q3 := Nat.eq_of_beq_eq_true q3
              have q4 := Nat.le_of_ble_eq_true q4
              have q5 := Nat.le_of_ble_eq_true q5
              subst q1
              obtain ⟨Af, cf, hsf⟩ := srcA_ok hsrc
              have hbu := srcA_bel hsrc hM
              cases hm : Nat.beq m 0 with
              | true =>
                rw [hm] at h; simp only [cond_true] at h
                have hm0 := Nat.eq_of_beq_eq_true hm
                split at h
                · cases h
                  refine ⟨by simp only [bel], fun σ => ?_⟩
                  simp only [val]
                  exact Rd.append0 ho (sliceI_ok hs σ) (evv (σ := σ) hx) (by rw [ev_inst (σ := σ) hy, (hsf σ).1]) hm0 (Nat.le_refl _)
                · split at h
                  · rename_i l c hsv
                    cases hl : Nat.ble l (capLo c) with
                    | false => rw [hl] at h; cases h
                    | true =>
                      rw [hl] at h; cases h
                      have hl := Nat.le_of_ble_eq_true hl
                      refine ⟨bel_aev hk hb hx, fun σ => ?_⟩
                      have := capLo_le (σ := σ) (c := c)
                      rw [slv_val hsv]
                      exact Rd.append0 ho (sliceI_ok hs σ) (evsl hx hsv) (by rw [ev_inst (σ := σ) hy, (hsf σ).1]) hm0 (by omega)
                  · cases h
              | false =>
                rw [hm] at h; simp only [cond_false] at h
                have hm0 : 0 < m := by
                  rcases Nat.eq_zero_or_pos m with h | h
                  · rw [h] at hm; cases hm
                  · exact h
                cases hfr : fresh v with
                | true =>
                  rw [hfr] at h; cases h
                  obtain ⟨Bf, hBf⟩ := fresh_ok hfr
                  refine ⟨by omega, by simp only [bel]; omega, fun c hc => by rw [List.mem_singleton.1 hc]; exact bel_row hbu, fun σ => ?_⟩
                  have := Mk.appendRaw (Γ := mem σ M) ho (sliceI_ok hs σ) (by rw [ev_inst (σ := σ) hx, hBf]) (by rw [ev_inst (σ := σ) hy, (hsf σ).1]) (hsf σ).2 (by rw [vals_len]; exact q3) (all_oneV q2) hm0 q5 q4
                  exact Mk.mono this fun u N w hR hs => outRow hk hbu hm0 (fun σ' he => (vals_ext (fun i hi => he i hi) _ hbu).symm) hR hs
                | false =>
                  rw [hfr] at h; simp only [cond_false] at h
                  split at h
                  · rename_i j i n c b hon
                    cases hn : (Nat.ble ((n + m) * s.bytes) 16777216 && Nat.ble n 16777216) with
                    | false => rw [hn] at h; cases h
                    | true =>
                      rw [hn] at h; cases h
                      rw [Bool.and_eq_true] at hn
                      have n1 := Nat.le_of_ble_eq_true hn.1
                      have n2 := Nat.le_of_ble_eq_true hn.2
                      obtain ⟨g1, g2, g3⟩ := ontoA_ok hon
                      have hbb := hM b (find_mem g1)
                      have hcs : bels k (b.cs ++ us) := bels_app hbb.cs hbu
                      refine ⟨by omega, by simp only [bel]; omega, belM_set (belM_up (by omega) hM) (bel_row hcs), fun σ => ?_⟩
                      have hat := mem_at (σ := σ) g1
                      have e3 : ck σ b = Sep.row s.e s.size (some ⟨bl σ i, 0, none⟩) n (cp σ c) (vals σ b.cs) := by unfold ck; rw [g2, (find_get g1).2]
                      rw [e3] at hat
                      have hx' : ev (inst σ ρ) x = some (.slice (some ⟨bl σ i, 0, none⟩) n (cp σ c)) := by rw [ev_inst (σ := σ) hx, g3]
                      have := Ge.append (Γ := mem σ M) ho (sliceI_ok hs σ) hx' (by rw [ev_inst (σ := σ) hy, (hsf σ).1]) hat (fun w hw => (hsf σ).2 w hw.each) (by rw [vals_len]; exact q3) (all_oneV q2) (by simp only [maxLen]; omega) (by omega)
                      refine Ge.mono this fun u N w hR hs => outGrown hk hM (find_lt g1) hcs (by omega) ?_ hs
                      obtain ⟨A', cap', r1, r2⟩ := hR
                      exact ⟨A', cap', r1, by rw [r2, vals_map, vals_map, vals_map, List.map_append]⟩
                  · cases h
          · cases h
        · cases h
      · cases h
    · cases h
  · cases h
theorem letters_ok : ∀ {cs : List AV} {s : List Nat}, ustrA.lettersA cs = some s → vals σ cs = (s.map UInt8.ofNat).map fun z => Value.int .u8 z.toNat
  | [], s, h => by simp only [ustrA.lettersA, Option.some.injEq] at h; subst h; rfl
  | c :: r, s, h => by
    unfold ustrA.lettersA at h
    split at h
    · rename_i he; cases he
    · rename_i b r' he
      cases he
      split at h
      · rename_i l hl
        cases hb : Nat.blt b 256 with
        | false => rw [hb] at h; cases h
        | true =>
          rw [hb] at h; cases h
          have := Nat.le_of_ble_eq_true hb
          simp only [vals, val, letters_ok hl, List.map_cons]
          congr 2
          simp
          omega
      · cases h
    · cases h
theorem erase_map {j : Nat} : (mem σ M).eraseIdx j = mem σ (M.eraseIdx j) := by
  unfold mem
  induction M generalizing j with
  | nil => rfl
  | cons c M ih =>
    cases j with
    | zero => rfl
    | succ j => simp only [List.map_cons, List.eraseIdx_cons_succ, ih]
theorem ustrA_ok (hk : 4096 ≤ k) (hM : belM k M) (h : ustrA P k ρ M o.op = some r) : ResOk P o ρ M k r := by
  generalize ho : o.op = op at h
  unfold ustrA at h
  split at h
  · rename_i c
    obtain ⟨cl, as, ts⟩ := c
    simp only at h
    split at h
    · rename_i x y pt it h1 h2
      have e1 := one2 h1
      have e2 := one2t h2
      subst e1 e2
      split at h
      · rename_i i n e hx hy hu
        split at h
        · rename_i j b hf
          split at h
          · rename_i e' size n' c hkd
            cases hq : (Nat.beq e' e && Nat.beq size 1 && Nat.beq n' n && Nat.beq (P.cellsOf e) 1 && Nat.blt 0 n && Nat.ble n 16777216) with
            | false => rw [hq] at h; cases h
            | true =>
              rw [hq] at h; simp only [cond_true] at h
              simp only [Bool.and_eq_true] at hq
              obtain ⟨⟨⟨⟨⟨q1, q2⟩, q3⟩, q4⟩, q5⟩, q6⟩ := hq
              rw [Nat.eq_of_beq_eq_true q1, Nat.eq_of_beq_eq_true q2, Nat.eq_of_beq_eq_true q3] at hkd
              have q6 := Nat.le_of_ble_eq_true q6
              split at h
              · rename_i s hls
                cases h
                refine ⟨Nat.le_refl _, by simp only [bel], fun c hc => hM c (List.mem_of_mem_eraseIdx hc), fun σ => ?_⟩
                have hat := mem_at (σ := σ) hf
                have e3 : ck σ b = Sep.row e 1 (some ⟨bl σ i, 0, none⟩) n (cp σ c) ((s.map UInt8.ofNat).map fun z => Value.int .u8 z.toNat) := by unfold ck; rw [hkd, (find_get hf).2]; simp only [letters_ok (σ := σ) hls]
                rw [e3] at hat
                refine Ge.mono (Ge.unsafeStr ho hu (Nat.eq_of_beq_eq_true q4) (evv (σ := σ) hx) (evv (σ := σ) hy) hat (Nat.le_of_ble_eq_true q5) (by omega)) ?_
                rintro _ _ w ⟨rfl, rfl⟩ _
                refine ⟨σ, fun _ _ => rfl, by simp only [val, bytesOf], ?_⟩
                exact erase_map
              · cases h
          · cases h
        · cases h
      · cases h
    · cases h
  · cases h
end
end Go.In
