/- The interpreter of known runs: reads, stores, maps of words. Own text. -/
import Derived.Test.YtfkmjkooemjekaaGreatDoorA6
set_option linter.unusedVariables false
set_option linter.unusedSimpArgs false
namespace Go.In
open Go.RowKit Go.Flow Go.Mem Go.Sep
inductive Res where
  | val (v : AV)
  | up (M : List MC)
  | mk (v : AV) (N : List MC) (k : Nat)
  | ge (v : AV) (M : List MC) (k : Nat)
def Sup (k : Nat) (σ σ' : Nat → Nat) : Prop := ∀ i, i < k → σ i = σ' i
def Outs (k : Nat) (σ : Nat → Nat) (v : AV) (M : List MC) (u : Value) (Γ : List Chunk) : Prop := ∃ σ', Sup k σ σ' ∧ u = val σ' v ∧ Γ = mem σ' M
def ResOk (P : Program) (o : Oper) (ρ : ASlots) (M : List MC) (k : Nat) : Res → Prop
  | .val v => bel k v ∧ ∀ σ, Rd P o (inst σ ρ) (mem σ M) (val σ v)
  | .up M' => belM k M' ∧ ∀ σ, Up P o (inst σ ρ) (mem σ M) (mem σ M')
  | .mk v N k' => k ≤ k' ∧ bel k' v ∧ belM k' N ∧ ∀ σ, Mk P o (inst σ ρ) (mem σ M) (Outs k σ v N)
  | .ge v M' k' => k ≤ k' ∧ bel k' v ∧ belM k' M' ∧ ∀ σ, Ge P o (inst σ ρ) (mem σ M) (Outs k σ v M')
def readA (P : Program) (ρ : ASlots) (M : List MC) : Op → Option AV
  | .load ty x => match aev ρ x with
    | some (.ptr i o) => match find M i with
      | some (_, c) => match cellsM c with
        | some cs => match rowN P ty with
          | some n => bif Nat.ble (o + n) cs.length then some (.agg (subA cs o n)) else none
          | none => bif cellB P ty then cs[o]? else none
        | none => none
      | none => none
    | _ => none
  | .convert s d x => match aev ρ x with
    | some (.ptr i q) => match find M i with
      | some (_, c) => match c.kd with
        | .box e => match P.underlying s, P.underlying d with
          | some (.pointer t), some .unsafePointer => match P.info? t with
            | some j => bif !Nat.beq j.size 0 && Nat.blt q c.cs.length then some (.ptr i q) else none
            | none => none
          | some .unsafePointer, some (.pointer t) => bif (P.info? t).isSome && liesAt P P.depth e (c.cs.length / P.cellsOf e) q t 1 then some (.ptr i q) else none
          | _, _ => none
        | _ => none
      | none => none
    | _ => none
  | .call c => match c.callee, c.args.toList, c.argTypes.toList with
    | .builtin .len, [x], [t] => match aev ρ x with
      | some (.mp i) => match find M i, P.underlying t with
        | some (_, c), some (.map _ _) => match c.kd with
          | .maps m => some (.int .i64 (Int.ofNat m.length))
          | _ => none
        | _, _ => none
      | _ => none
    | _, _, _ => none
  | _ => none
def asetA : List (List Nat × AV) → List Nat → AV → List (List Nat × AV)
  | [], x, v => [(x, v)]
  | (y, u) :: r, x, v => bif eqStr x y then (x, v) :: r else (y, u) :: asetA r x v
def upA (P : Program) (ρ : ASlots) (M : List MC) : Op → Option (List MC)
  | .store ty x y => match aev ρ x, aev ρ y with
    | some (.ptr i o), some v => match find M i with
      | some (j, c) => match rowN P ty with
        | some n => match v with
          | .agg us => bif Nat.beq us.length n && us.all one then (match putM c o us with
            | some c' => some (M.set j c')
            | none => none) else none
          | _ => none
        | none => bif cellB P ty && one v then (match putM c o [v] with
            | some c' => some (M.set j c')
            | none => none) else none
      | none => none
    | _, _ => none
  | .mapUpdate t x y z => match aev ρ x, aev ρ y, aev ρ z with
    | some (.mp i), some (.str s), some v => match find M i, P.underlying t with
      | some (j, c), some (.map K _) => match c.kd with
        | .maps m => bif strTy P K then some (M.set j ⟨c.i, .maps (asetA m s v), c.cs⟩) else none
        | _ => none
      | _, _ => none
    | _, _, _ => none
  | _ => none
section
variable {P : Program} {o : Oper} {ρ : ASlots} {M M' : List MC} {σ : Nat → Nat} {v : AV} {k : Nat}
theorem cellsM_bel {c : MC} {cs : List AV} (h : cellsM c = some cs) (hc : belMC k c) : bels k cs := by
  obtain ⟨i, kd, cs'⟩ := c
  unfold cellsM at h
  cases kd <;> first | (cases h; done) | (cases h; exact hc.cs)
theorem sub1A {cs : List AV} {q : Nat} {u : AV} (h : cs[q]? = some u) : subA cs q 1 = [u] := by
  have hlt : q < cs.length := (List.getElem?_eq_some_iff.1 h).1
  unfold subA
  rw [List.drop_eq_getElem_cons hlt, (List.getElem?_eq_some_iff.1 h).2]; rfl
theorem readA_ok (hk : 4096 ≤ k) (hb : belS k ρ) (hM : belM k M) (h : readA P ρ M o.op = some v) : ResOk P o ρ M k (.val v) := by
  generalize ho : o.op = op at h
  unfold readA at h
  split at h
  · rename_i ty x
    split at h
    · rename_i i q hx
      split at h
      · rename_i j c hf
        split at h
        · rename_i cs hc
          have hbc := cellsM_bel hc (hM c (find_mem hf))
          have hi := (find_get hf).2
          split at h
          · rename_i n hr
            cases hq : Nat.ble (q + n) cs.length with
            | false => rw [hq] at h; cases h
            | true =>
              rw [hq] at h; cases h
              refine ⟨by simp only [bel]; exact bels_sub hbc, fun σ => ?_⟩
              have hx' := evv (σ := σ) hx
              rw [← hi] at hx'
              have := Rd.loadS ho hx' (rowN_ok hr) (mem_at (σ := σ) hf) (ck_gives hc q n) (by rw [vals_len, subA_len hq])
              simpa only [val] using this
          · cases hcl : cellB P ty with
            | false => rw [hcl] at h; cases h
            | true =>
              rw [hcl] at h; simp only [cond_true] at h
              refine ⟨bel_get hbc h, fun σ => ?_⟩
              have hx' := evv (σ := σ) hx
              rw [← hi] at hx'
              have hg := ck_gives (σ := σ) hc q 1
              rw [sub1A h] at hg
              exact Rd.load ho hx' (cellB_ok hcl) (mem_at (σ := σ) hf) hg
        · cases h
      · cases h
    · cases h
  · rename_i s d x
    split at h
    · rename_i i q hx
      have hbx := bel_aev hk hb hx
      split at h
      · rename_i j c hf
        have hi := (find_get hf).2
        split at h
        · rename_i e hc
          have hsh : ∀ σ w, oks (mem σ M) w → w.shape? (bl σ i) = some (e, c.cs.length) := fun σ w hw => by
            have h1 := hw _ (List.mem_of_getElem? (mem_at (σ := σ) hf))
            unfold ck at h1
            rw [hc] at h1
            have h2 : w.heap[bl σ c.i]? = some (.cells (vals σ c.cs).toArray e (0, 0)) := h1
            rw [hi] at h2
            simp [World.shape?, h2, vals_len]
          split at h
          · rename_i t hs hd
            split at h
            · rename_i jt hj
              cases hq : (!Nat.beq jt.size 0 && Nat.blt q c.cs.length) with
              | false => rw [hq] at h; cases h
              | true =>
                rw [hq] at h; cases h
                rw [Bool.and_eq_true] at hq
                refine ⟨hbx, fun σ => fun a w ha hw => ?_⟩
                have hx' := evv (σ := σ) hx
                have h0 : jt.size ≠ 0 := fun e => by rw [e] at hq; simp at hq
                unfold execOp
                simp only [ho, ha.eval hx', Sem.run_bind, Lib.run_to_unsafe w ⟨bl σ i, q, none⟩ hs hd hj h0 (hsh σ w hw) (Nat.le_of_ble_eq_true hq.2), Result.andThen_ok, Sem.run_pure, val]
            · cases h
          · rename_i t hs hd
            cases hq : ((P.info? t).isSome && liesAt P P.depth e (c.cs.length / P.cellsOf e) q t 1) with
            | false => rw [hq] at h; cases h
            | true =>
              rw [hq] at h; cases h
              rw [Bool.and_eq_true] at hq
              obtain ⟨jt, hj⟩ := Option.isSome_iff_exists.1 hq.1
              refine ⟨hbx, fun σ => fun a w ha hw => ?_⟩
              have hx' := evv (σ := σ) hx
              unfold execOp
              simp only [ho, ha.eval hx', Sem.run_bind, Lib.run_from_unsafe w ⟨bl σ i, q, none⟩ hs hd hj (hsh σ w hw) hq.2, Result.andThen_ok, Sem.run_pure, val]
          · cases h
        · cases h
      · cases h
    · cases h
  · rename_i c
    obtain ⟨cl, as, ts⟩ := c
    simp only at h
    split at h
    · rename_i x t h1 h2
      have e1 : as = #[x] := by rw [← Array.toList_inj]; exact h1
      have e2 : ts = #[t] := by rw [← Array.toList_inj]; exact h2
      subst e1 e2
      split at h
      · rename_i i hx
        split at h
        · rename_i j c K E hf hu
          have hi := (find_get hf).2
          split at h
          · rename_i m hc
            cases h
            refine ⟨by simp only [bel], fun σ => fun a w ha hw => ?_⟩
            have hx' := evv (σ := σ) hx
            have h1 := hw _ (List.mem_of_getElem? (mem_at (σ := σ) hf))
            unfold ck at h1
            rw [hc] at h1
            obtain ⟨es, clock, h3, h4⟩ := h1
            rw [hi] at h3
            have h5 : es.size = m.length := by
              have := congrArg List.length h4
              simpa [entries, pairs, prs] using this
            unfold execOp
            simp [ho, resolve, invoke, builtin, ha.eval hx', Builtin.len_, run_underlying hu, getObj, Sem.run, h3, goInt, h5, val]
          · cases h
        · cases h
      · cases h
    · cases h
  · cases h
theorem bytes_beq (a b : ByteArray) : (a == b) = decide (a = b) := by
  obtain ⟨x⟩ := a
  obtain ⟨y⟩ := b
  show (x == y) = _
  rw [Bool.eq_iff_iff, beq_iff_eq, decide_eq_true_eq]
  constructor
  · intro h; rw [h]
  · intro h; exact congrArg ByteArray.data h
theorem KeyTy.str {K : TypeId} (h : P.underlying K = some .string) : KeyTy P K (fun b : ByteArray => .string b) where
  same a b w := by
    show (Op.equalIn (9999 + 1) K (.string a) (.string b)).run P w = _
    rw [run_equalIn_string (w := w) 9999 K a b h]
    congr 1
    rw [ByteArray.toList_eq, ByteArray.toList_eq, Bool.eq_iff_iff, beq_iff_eq, decide_eq_true_eq]
    constructor
    · intro h; exact ByteArray.ext (Array.toList_inj.1 h)
    · intro h; rw [h]
  now d hd := by
    rw [h] at hd
    obtain rfl := Option.some.inj hd
    refine .inr fun a b => ?_
    simp only [Instr.sameNow]
    congr 1
    rw [bytes_beq]
  und := ⟨_, h⟩
  check e a w := by
    show (Instr.checkKey e (9999 + 1) K (.string a)).run P w = _
    unfold Instr.checkKey
    simp [run_underlying h]
  bits a := by show Instr.sameBits 10000 (.string a) (.string a) = true; simp [Instr.sameBits, bytes_beq]
theorem bytesOf_inj {a b : List Nat} : bytesOf a = bytesOf b ↔ eqStr a b = true := by
  rw [← eqStr_ok, beq_iff_eq, ← bytes_toList, ← bytes_toList]
  constructor
  · intro h; rw [h]
  · intro h
    rw [ByteArray.toList_eq, ByteArray.toList_eq] at h
    exact ByteArray.ext (Array.toList_inj.1 h)
theorem asetA_prs {m : List (List Nat × AV)} {x : List Nat} : prs σ (asetA m x v) = aset (prs σ m) (bytesOf x) (val σ v) := by
  induction m with
  | nil => rfl
  | cons p r ih =>
    obtain ⟨y, u⟩ := p
    unfold asetA
    show _ = aset ((bytesOf y, val σ u) :: prs σ r) (bytesOf x) (val σ v)
    cases he : eqStr x y with
    | true =>
      have := bytesOf_inj.2 he
      simp [prs, aset, this]
    | false =>
      have : bytesOf x ≠ bytesOf y := fun e => by rw [bytesOf_inj.1 e] at he; cases he
      simp only [cond_false, aset, if_neg this, ← ih]
      rfl
theorem asetA_bel {m : List (List Nat × AV)} {x : List Nat} (h : ∀ p ∈ m, bel k p.2) (hv : bel k v) : ∀ p ∈ asetA m x v, bel k p.2 := by
  induction m with
  | nil => intro p hp; rw [List.mem_singleton.1 hp]; exact hv
  | cons q r ih =>
    obtain ⟨y, u⟩ := q
    intro p hp
    unfold asetA at hp
    cases he : eqStr x y with
    | true =>
      rw [he] at hp
      rcases List.mem_cons.1 hp with rfl | hp
      · exact hv
      · exact h p (List.mem_cons_of_mem _ hp)
    | false =>
      rw [he] at hp
      rcases List.mem_cons.1 hp with rfl | hp
      · exact h _ (List.mem_cons_self ..)
      · exact ih (fun p hp => h p (List.mem_cons_of_mem _ hp)) p hp
theorem all_one {us : List AV} (h : us.all one = true) : (vals σ us).all (·.oneCell') = true := by
  rw [vals_map, List.all_map, List.all_eq_true]
  intro z hz
  exact one_val σ (List.all_eq_true.1 h z hz)
theorem upA_ok (hk : 4096 ≤ k) (hb : belS k ρ) (hM : belM k M) (h : upA P ρ M o.op = some M') : ResOk P o ρ M k (.up M') := by
  generalize ho : o.op = op at h
  unfold upA at h
  split at h
  · rename_i ty x y
    split at h
    · rename_i i q v hx hy
      have hv := bel_aev hk hb hy
      split at h
      · rename_i j c hf
        have hi := (find_get hf).2
        have hc := hM c (find_mem hf)
        split at h
        · rename_i n hr
          split at h
          · rename_i us
            cases hq : (Nat.beq us.length n && us.all one) with
            | false => rw [hq] at h; cases h
            | true =>
              rw [hq] at h; simp only [cond_true] at h
              rw [Bool.and_eq_true] at hq
              split at h
              · rename_i c' hp
                cases h
                simp only [bel] at hv
                obtain ⟨g1, g2⟩ := putM_bel hp hc hv
                refine ⟨belM_set hM g1, fun σ => ?_⟩
                have hx' := evv (σ := σ) hx
                have hy' := evv (σ := σ) hy
                rw [← hi] at hx'
                rw [mem_set]
                exact Up.storeS ho hx' hy' (rowN_ok hr) (by rw [vals_len]; exact Nat.eq_of_beq_eq_true hq.1) (all_one hq.2) (mem_at hf) (putM_ok hp)
              · cases h
          · cases h
        · cases hq : (cellB P ty && one v) with
          | false => rw [hq] at h; cases h
          | true =>
            rw [hq] at h; simp only [cond_true] at h
            rw [Bool.and_eq_true] at hq
            split at h
            · rename_i c' hp
              cases h
              obtain ⟨g1, g2⟩ := putM_bel hp hc (by simp only [bels]; exact ⟨hv, trivial⟩)
              refine ⟨belM_set hM g1, fun σ => ?_⟩
              have hx' := evv (σ := σ) hx
              have hy' := ev_inst (σ := σ) hy
              rw [← hi] at hx'
              rw [mem_set]
              exact Up.store ho hx' hy' (cellB_ok hq.1) (one_val σ hq.2) (mem_at hf) (putM_ok hp)
            · cases h
      · cases h
    · cases h
  · rename_i t x y z
    split at h
    · rename_i i s v hx hy hz
      have hv := bel_aev hk hb hz
      split at h
      · rename_i j c K E hf hu
        have hi := (find_get hf).2
        have hc := hM c (find_mem hf)
        split at h
        · rename_i m hkd
          cases hq : strTy P K with
          | false => rw [hq] at h; cases h
          | true =>
            rw [hq] at h; cases h
            have hm := hc.kd
            rw [hkd] at hm
            refine ⟨belM_set hM ⟨hc.pl, asetA_bel hm hv, hc.cs⟩, fun σ => ?_⟩
            have hx' := evv (σ := σ) hx
            have hy' := evv (σ := σ) hy
            have hz' := ev_inst (σ := σ) hz
            rw [← hi] at hx'
            have hg := mem_at (σ := σ) hf
            have e1 : ck σ c = mapc (fun b : ByteArray => .string b) (fun v : Value => v) (bl σ c.i) (prs σ m) := by unfold ck; rw [hkd]
            have e2 : ck σ ⟨c.i, .maps (asetA m s v), c.cs⟩ = mapc (fun b : ByteArray => .string b) (fun v : Value => v) (bl σ c.i) (aset (prs σ m) (bytesOf s) (val σ v)) := by unfold ck; simp only [asetA_prs]
            rw [e1] at hg
            rw [mem_set, e2]
            exact Up.mapUpdate (KeyTy.str (strTy_ok hq)) ho hu hx' hy' hz' hg
        · cases h
      · cases h
    · cases h
  · cases h
end
end Go.In
