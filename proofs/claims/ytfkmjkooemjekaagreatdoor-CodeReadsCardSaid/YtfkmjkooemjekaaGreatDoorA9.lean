/- The interpreter of known runs: new blocks, what is appended. Own text. -/
import Derived.Test.YtfkmjkooemjekaaGreatDoorA8
import Derived.Test.YtfkmjkooemjekaaGreatDoorL3
set_option linter.unusedVariables false
set_option linter.unusedSimpArgs false
namespace Go.In
open Go.RowKit Go.Flow Go.Mem Go.Sep
def isRange : Nat → Nat → List Nat → Bool
  | _, 0, [] => true
  | i, n + 1, j :: r => bif Nat.beq i j then isRange (i + 1) n r else false
  | _, _, _ => false
def flatC : List AV → List AV
  | [] => []
  | v :: r => cellsA v ++ flatC r
def replA (zs : List AV) : Nat → List AV
  | 0 => []
  | n + 1 => zs ++ replA zs n
def mkA (P : Program) (k : Nat) (ρ : ASlots) : Op → Option Res
  | .alloc ty => match zerosA P ty with
    | some zs => some (.mk (.ptr k 0) [⟨k, .box ty, zs⟩] (k + 1))
    | none => none
  | .box ty x => match aev ρ x with
    | some v => some (.mk (.ptr k 0) [⟨k, .box ty, cellsA v⟩] (k + 1))
    | none => none
  | .buildSlice t len parts => match sliceI P t, partsA ρ parts.toList with
    | some s, some l => bif Nat.beq len 0 then (bif parts.toList.isEmpty then some (.mk (.sl k 0 0 0) [⟨k, .row s.e s.size 0 (.kn 0), []⟩] (k + 1)) else none) else bif isRange 0 len (l.map (·.1)) && Nat.blt 0 len && Nat.ble (len * s.size) 16777216 && (l.map (·.2)).all (fun v => Nat.beq (cellsA v).length s.size) then
        some (.mk (.sl k 0 len len) [⟨k, .row s.e s.size len (.kn len), flatC (l.map (·.2))⟩] (k + 1)) else none
    | _, _ => none
  | .makeSlice t x y => match sliceI P t, natA ρ x, natA ρ y with
    | some s, some n, some c => bif Nat.beq n c then (bif Nat.ble (s.bytes * n) 16777216 && Nat.ble n 16777216 then
        some (.mk (.sl k 0 n n) [⟨k, .row s.e s.size n (.kn n), replA s.zs n⟩] (k + 1)) else none)
      else bif Nat.beq n 0 && Nat.ble (s.bytes * c) 16777216 && Nat.ble c 16777216 then some (.mk (.sl k 0 0 c) [⟨k, .row s.e s.size 0 (.kn c), []⟩] (k + 1)) else none
    | _, _, _ => none
  | .makeMap _ none => some (.mk (.mp k) [⟨k, .maps [], []⟩] (k + 1))
  | _ => none
def acEq : AC → AC → Bool
  | .kn a, .kn b => Nat.beq a b
  | .un a b, .un c d => Nat.beq a c && Nat.beq b d
  | _, _ => false
def srcA (M : List MC) (size : Nat) (v : AV) : Option (Nat × List AV) :=
  match v with
  | .nils => some (0, [])
  | v => match slv v with
    | some (i, q, l, _) => match find M i with
      | some (_, c) => match cellsM c with
        | some cs => bif Nat.ble (q + l * size) cs.length then some (l, subA cs q (l * size)) else none
        | none => none
      | none => none
    | none => none
def fresh : AV → Bool
  | .nils => true
  | .sl _ _ 0 0 => true
  | _ => false
def strCs (s : List Nat) : List AV := s.map fun b => .int .u8 (Int.ofNat (b % 256))
def ontoA (M : List MC) (v : AV) (e size : Nat) : Option (Nat × Nat × Nat × AC × MC) :=
  match slv v with
  | some (i, 0, n, c) => match find M i with
    | some (j, b) => match b.kd with
      | .row e' size' n' c' => bif Nat.beq e' e && Nat.beq size' size && Nat.beq n' n && acEq c' c then some (j, i, n, c, b) else none
      | _ => none
    | none => none
  | _ => none
def appA (P : Program) (k : Nat) (ρ : ASlots) (M : List MC) : Op → Option Res
  | .call c => match c.callee, c.args.toList, c.argTypes.toList with
    | .builtin .append, [x, y], [t, t'] => match aev ρ x, aev ρ y with
      | some v, some (.str s) => match byteSl P t with
        | some e => bif strTy P t' && Nat.ble s.length 16777216 && Nat.blt 0 s.length then (match v with
          | .nils => some (.mk (.slu k 0 s.length (k + 1) s.length) [⟨k, .row e 1 s.length (.un (k + 1) s.length), strCs s⟩] (k + 2))
          | v => match ontoA M v e 1 with
            | some (j, _, n, _, b) => bif Nat.ble n 16777216 then some (.ge (.slu k 0 (n + s.length) (k + 1) (n + s.length)) (M.set j ⟨k, .row e 1 (n + s.length) (.un (k + 1) (n + s.length)), b.cs ++ strCs s⟩) (k + 2)) else none
            | none => none) else none
        | none => none
      | some v, some u => match sliceI P t with
        | some s => match srcA M s.size u with
          | some (m, us) => bif Nat.beq t t' && us.all one && Nat.beq us.length (m * s.size) && Nat.ble (m * s.bytes) 16777216 && Nat.ble m 16777216 then
              bif Nat.beq m 0 then (match v with
                | .nils => some (.val .nils)
                | v => match slv v with
                  | some (_, _, l, c) => bif Nat.ble l (capLo c) then some (.val v) else none
                  | none => none)
              else bif fresh v then some (.mk (.slu k 0 m (k + 1) m) [⟨k, .row s.e s.size m (.un (k + 1) m), us⟩] (k + 2))
              else (match ontoA M v s.e s.size with
                | some (j, _, n, _, b) => bif Nat.ble ((n + m) * s.bytes) 16777216 && Nat.ble n 16777216 then some (.ge (.slu k 0 (n + m) (k + 1) (n + m)) (M.set j ⟨k, .row s.e s.size (n + m) (.un (k + 1) (n + m)), b.cs ++ us⟩) (k + 2)) else none
                | none => none)
            else none
          | none => none
        | none => none
      | _, _ => none
    | _, _, _ => none
  | _ => none
def ustrA (P : Program) (k : Nat) (ρ : ASlots) (M : List MC) : Op → Option Res
  | .call c => match c.callee, c.args.toList, c.argTypes.toList with
    | .builtin .unsafeString, [x, y], [pt, _] => match aev ρ x, aev ρ y, P.underlying pt with
      | some (.ptr i 0), some (.int .i64 (.ofNat n)), some (.pointer e) => match find M i with
        | some (j, b) => match b.kd with
          | .row e' size n' _ => bif Nat.beq e' e && Nat.beq size 1 && Nat.beq n' n && Nat.beq (P.cellsOf e) 1 && Nat.blt 0 n && Nat.ble n 16777216 then (match lettersA b.cs with
            | some s => some (.ge (.str s) (M.eraseIdx j) k)
            | none => none) else none
          | _ => none
        | none => none
      | _, _, _ => none
    | _, _, _ => none
  | _ => none
where
  lettersA : List AV → Option (List Nat)
    | [] => some []
    | .int .u8 (.ofNat b) :: r => match lettersA r with
      | some l => bif Nat.blt b 256 then some (b :: l) else none
      | none => none
    | _ => none
section
variable {P : Program} {o : Oper} {ρ : ASlots} {M M' : List MC} {σ : Nat → Nat} {v : AV} {k : Nat} {r : Res}
def upd (σ : Nat → Nat) (k b : Nat) : Nat → Nat := fun i => if i = k then b else σ i
theorem upd_sup {b : Nat} : Sup k σ (upd σ k b) := fun i hi => by unfold upd; rw [if_neg (by omega)]
theorem upd_at {b : Nat} : upd σ k b k = b := by unfold upd; rw [if_pos rfl]
theorem bl_upd {b : Nat} (hk : 4096 ≤ k) : bl (upd σ k b) k = b := by
  unfold bl
  have : Nat.blt k 4096 = false := by
    cases h : Nat.blt k 4096 with
    | false => rfl
    | true => have := Nat.le_of_ble_eq_true h; omega
  rw [this]; exact upd_at
theorem Sup.trans {k' : Nat} {σ σ' σ'' : Nat → Nat} (hk : k ≤ k') (h : Sup k σ σ') (h' : Sup k' σ' σ'') : Sup k σ σ'' := fun i hi => (h i hi).trans (h' i (Nat.lt_of_lt_of_le hi hk))
theorem upd2_sup {b c : Nat} : Sup k σ (upd (upd σ k b) (k + 1) c) := fun i hi => by unfold upd; rw [if_neg (by omega), if_neg (by omega)]
theorem bl_upd2 {b c : Nat} (hk : 4096 ≤ k) : bl (upd (upd σ k b) (k + 1) c) k = b := by
  rw [← bl_ext (k := k + 1) (fun i hi => (upd_sup (σ := upd σ k b) (k := k + 1) (b := c)) i hi) (Nat.lt_succ_self k)]
  exact bl_upd hk
theorem upd2_at {b c : Nat} : upd (upd σ k b) (k + 1) c (k + 1) = c := upd_at
theorem isRange_ok : ∀ {n i : Nat} {l : List Nat}, isRange i n l = true → l = List.range' i n
  | 0, _, [], _ => rfl
  | 0, _, _ :: _, h => by cases h
  | _ + 1, _, [], h => by cases h
  | n + 1, i, j :: r, h => by
    unfold isRange at h
    cases hb : Nat.beq i j with
    | false => rw [hb] at h; cases h
    | true =>
      rw [hb] at h
      rw [List.range'_succ, ← Nat.eq_of_beq_eq_true hb, ← isRange_ok h]
theorem flatC_val : ∀ l : List AV, vals σ (flatC l) = (vals σ l).flatMap fun v => v.cells.toList
  | [] => rfl
  | v :: r => by
    show vals σ (cellsA v ++ flatC r) = ((val σ v) :: vals σ r).flatMap _
    rw [List.flatMap_cons, ← flatC_val r, cellsA_val, vals_map, List.map_append, ← vals_map, ← vals_map]
theorem flatC_bel : ∀ {l : List AV}, (∀ v ∈ l, bel k v) → bels k (flatC l)
  | [], _ => by simp only [flatC, bels]
  | v :: r, h => by
    rw [bels_iff]
    intro z hz
    rcases List.mem_append.1 (show z ∈ cellsA v ++ flatC r from hz) with hz | hz
    · exact bels_iff.1 (cellsA_bel (h v (List.mem_cons_self ..))) z hz
    · exact bels_iff.1 (flatC_bel fun v hv => h v (List.mem_cons_of_mem _ hv)) z hz
theorem replA_val {zs : List AV} : ∀ n, vals σ (replA zs n) = (List.replicate n (vals σ zs)).flatten
  | 0 => rfl
  | n + 1 => by
    show vals σ (zs ++ replA zs n) = _
    rw [List.replicate_succ, List.flatten_cons, ← replA_val n, vals_map, List.map_append, ← vals_map, ← vals_map]
theorem replA_bel {zs : List AV} (h : bels k zs) : ∀ n, bels k (replA zs n)
  | 0 => by simp only [replA, bels]
  | n + 1 => by
    rw [bels_iff]
    intro z hz
    rcases List.mem_append.1 (show z ∈ zs ++ replA zs n from hz) with hz | hz
    · exact bels_iff.1 h z hz
    · exact bels_iff.1 (replA_bel h n) z hz
theorem Mk.mono {R R' : Value → List Chunk → Prop} {ρ : Slots} {Γ : List Chunk} (h : Mk P o ρ Γ R) (hr : ∀ v N w, R v N → sat N w → R' v N) : Mk P o ρ Γ R' := fun a w ha hs => by
  obtain ⟨v, N, w', h1, h2, h3⟩ := h a w ha hs
  exact ⟨v, N, w', h1, hr v N w' h2 h3.sat, h3⟩
theorem Ge.mono {R R' : Value → List Chunk → Prop} {ρ : Slots} {Γ : List Chunk} (h : Ge P o ρ Γ R) (hr : ∀ v N w, R v N → sat N w → R' v N) : Ge P o ρ Γ R' := fun a w ha hs => by
  obtain ⟨v, N, w', h1, h2, h3⟩ := h a w ha hs
  exact ⟨v, N, w', h1, hr v N w' h2 h3.sat, h3⟩
theorem Mk.lit0 {t e : TypeId} {size bytes : Nat} {zs : List Value} {ρ : Slots} {Γ : List Chunk} (ho : o.op = .buildSlice t 0 #[]) (ht : SliceTy P t e size bytes zs) : Mk P o ρ Γ (fun v N => ∃ b, v = .slice (some ⟨b, 0, none⟩) 0 0 ∧ N = [row e size (some ⟨b, 0, none⟩) 0 0 []]) := fun a w _ _ => by
  refine ⟨_, _, w.alloc (.cells #[] e), ?_, ⟨w.heap.size, rfl, rfl⟩, Post.new (row_new (us := []) (by simp) (by simp [maxLen])) rfl rfl⟩
  obtain ⟨i, z, h1, h2, h3, _⟩ := ht.inf
  unfold execOp
  simp [ho, Instr.buildSlice, run_underlying ht.und, sizeOf, typeInfo, h1, Instr.fill, newRow]
  rw [show Array.map (fun (_ : Nat) => (default : Value)) (Array.range 0) = #[] from Array.eq_empty_of_size_eq_zero (by simp)]
theorem mkA_ok (hk : 4096 ≤ k) (hb : belS k ρ) (h : mkA P k ρ o.op = some r) : ResOk P o ρ M k r := by
  generalize ho : o.op = op at h
  have hup : ∀ {cs : List AV}, bels k cs → ∀ σ b, vals (upd σ k b) cs = vals σ cs := fun hc σ b => (vals_ext (fun i hi => (upd_sup (σ := σ) (b := b)) i hi) _ hc).symm
  unfold mkA at h
  split at h
  · rename_i ty
    split at h
    · rename_i zs hz
      cases h
      have hbz := bels_zerosA (k := k) hz
      refine ⟨Nat.le_succ _, by simp only [bel]; omega, fun c hc => ?_, fun σ => Mk.mono (Mk.alloc ho (zerosA_ok hz σ)) ?_⟩
      · rw [List.mem_singleton.1 hc]; exact ⟨Nat.lt_succ_self _, trivial, bels_up (Nat.le_succ _) _ hbz⟩
      · rintro _ _ w ⟨b, rfl, rfl⟩ _
        refine ⟨upd σ k b, upd_sup, by simp only [val, bl_upd hk], ?_⟩
        simp only [mem, ck, List.map_cons, List.map_nil, bl_upd hk, hup hbz]
    · cases h
  · rename_i ty x
    split at h
    · rename_i u hx
      cases h
      have hbz := cellsA_bel (bel_aev hk hb hx)
      refine ⟨Nat.le_succ _, by simp only [bel]; omega, fun c hc => ?_, fun σ => Mk.mono (Mk.box ho (ev_inst hx) cellsA_val) ?_⟩
      · rw [List.mem_singleton.1 hc]; exact ⟨Nat.lt_succ_self _, trivial, bels_up (Nat.le_succ _) _ hbz⟩
      · rintro _ _ w ⟨b, rfl, rfl⟩ _
        refine ⟨upd σ k b, upd_sup, by simp only [val, bl_upd hk], ?_⟩
        simp only [mem, ck, List.map_cons, List.map_nil, bl_upd hk, hup hbz]
    · cases h
  · rename_i t len parts
    split at h
    · rename_i s l hs hl
      cases h00 : Nat.beq len 0 with
      | true =>
        rw [h00] at h; simp only [cond_true] at h
        have e00 := Nat.eq_of_beq_eq_true h00
        subst e00
        cases hpe : parts.toList.isEmpty with
        | false => rw [hpe] at h; cases h
        | true =>
          rw [hpe] at h; cases h
          have ep : parts = #[] := by rw [← Array.toList_inj]; exact List.isEmpty_iff.1 hpe
          subst ep
          refine ⟨Nat.le_succ _, by simp only [bel]; omega, fun c hc => ?_, fun σ => Mk.mono (Mk.lit0 ho (sliceI_ok hs σ)) ?_⟩
          · rw [List.mem_singleton.1 hc]; exact ⟨Nat.lt_succ_self _, trivial, by simp only [bels]⟩
          · rintro _ _ w ⟨b, rfl, rfl⟩ _
            refine ⟨upd σ k b, upd_sup, by simp only [val, bl_upd hk], ?_⟩
            simp only [mem, ck, cp, List.map_cons, List.map_nil, bl_upd hk, vals]
      | false =>
      rw [h00] at h; simp only [cond_false] at h
      cases hq : (isRange 0 len (l.map (·.1)) && Nat.blt 0 len && Nat.ble (len * s.size) 16777216 && (l.map (·.2)).all (fun v => Nat.beq (cellsA v).length s.size)) with
      | false => rw [hq] at h; cases h
      | true =>
        rw [hq] at h; cases h
        simp only [Bool.and_eq_true] at hq
        obtain ⟨⟨⟨h1, h2⟩, h3⟩, h4⟩ := hq
        have hbl := partsA_bel hk hb hl
        have hbz : bels k (flatC (l.map (·.2))) := flatC_bel fun v hv => by
          obtain ⟨p, hp, rfl⟩ := List.mem_map.1 hv
          exact hbl p hp
        refine ⟨Nat.le_succ _, by simp only [bel]; omega, fun c hc => ?_, fun σ => ?_⟩
        · rw [List.mem_singleton.1 hc]; exact ⟨Nat.lt_succ_self _, trivial, bels_up (Nat.le_succ _) _ hbz⟩
        · obtain ⟨g1, g2⟩ := partsA_ok (σ := σ) hl
          have e1 : (l.map fun p => (p.1, val σ p.2)).map (·.2) = vals σ (l.map (·.2)) := by rw [vals_map, List.map_map, List.map_map]; rfl
          have e2 : (l.map fun p => (p.1, val σ p.2)).map (·.1) = l.map (·.1) := by rw [List.map_map]; rfl
          rw [e1] at g1
          rw [e2] at g2
          refine Mk.mono (Mk.sliceN (parts := parts.toList) (us := vals σ (flatC (l.map (·.2)))) (by rw [ho]) (sliceI_ok hs σ) g1 (by rw [g2, isRange_ok h1]) h2 h3 ?_ (flatC_val _).symm) ?_
          · rw [vals_map, List.all_map, List.all_eq_true]
            intro v hv
            have := List.all_eq_true.1 h4 v hv
            show Nat.beq (val σ v).cells.size s.size = true
            rw [cellsA_val]; simpa [vals_len] using this
          · rintro _ _ w ⟨b, rfl, rfl⟩ _
            refine ⟨upd σ k b, upd_sup, by simp only [val, bl_upd hk], ?_⟩
            simp only [mem, ck, cp, List.map_cons, List.map_nil, bl_upd hk, hup hbz]
    · cases h
  · rename_i t x y
    split at h
    · rename_i s n c hs hx hy
      have hbz := bels_sliceI (k := k) hs
      cases hq : Nat.beq n c with
      | true =>
        rw [hq] at h; simp only [cond_true] at h
        have e := Nat.eq_of_beq_eq_true hq
        subst e
        cases hq2 : (Nat.ble (s.bytes * n) 16777216 && Nat.ble n 16777216) with
        | false => rw [hq2] at h; cases h
        | true =>
          rw [hq2] at h; cases h
          rw [Bool.and_eq_true] at hq2
          have g1 := Nat.le_of_ble_eq_true hq2.1
          have g2 := Nat.le_of_ble_eq_true hq2.2
          have hbr := replA_bel hbz n
          refine ⟨Nat.le_succ _, by simp only [bel]; omega, fun c hc => ?_, fun σ => ?_⟩
          · rw [List.mem_singleton.1 hc]; exact ⟨Nat.lt_succ_self _, trivial, bels_up (Nat.le_succ _) _ hbr⟩
          · obtain ⟨kl, hx'⟩ := natA_ev (σ := σ) hx
            obtain ⟨kc, hy'⟩ := natA_ev (σ := σ) hy
            have ht := sliceI_ok hs σ
            refine Mk.mono (Mk.makeN ho ht hx' hy' (by omega) (by simp only [maxLen]; omega)) ?_
            rintro _ _ w ⟨b, rfl, rfl⟩ _
            refine ⟨upd σ k b, upd_sup, by simp only [val, bl_upd hk], ?_⟩
            simp only [mem, ck, cp, List.map_cons, List.map_nil, bl_upd hk, hup hbr]
            rw [madeCells_listN _ _ _ ht.len ht.pos, replA_val]
      | false =>
        rw [hq] at h; simp only [cond_false] at h
        cases hq2 : (Nat.beq n 0 && Nat.ble (s.bytes * c) 16777216 && Nat.ble c 16777216) with
        | false => rw [hq2] at h; cases h
        | true =>
          rw [hq2] at h; cases h
          simp only [Bool.and_eq_true] at hq2
          obtain ⟨⟨g0, g1⟩, g2⟩ := hq2
          have g1 := Nat.le_of_ble_eq_true g1
          have g2 := Nat.le_of_ble_eq_true g2
          have e := Nat.eq_of_beq_eq_true g0
          subst e
          refine ⟨Nat.le_succ _, by simp only [bel]; omega, fun c hc => ?_, fun σ => ?_⟩
          · rw [List.mem_singleton.1 hc]; exact ⟨Nat.lt_succ_self _, trivial, by simp only [bels]⟩
          · obtain ⟨kl, hx'⟩ := natA_ev (σ := σ) hx
            obtain ⟨kc, hy'⟩ := natA_ev (σ := σ) hy
            refine Mk.mono (Mk.make0 ho (sliceI_ok hs σ) hx' hy' (by omega) (by simp only [maxLen]; omega)) ?_
            rintro _ _ w ⟨b, rfl, rfl⟩ _
            refine ⟨upd σ k b, upd_sup, by simp only [val, bl_upd hk], ?_⟩
            simp only [mem, ck, cp, List.map_cons, List.map_nil, bl_upd hk, vals]
    · cases h
  · cases h
    refine ⟨Nat.le_succ _, by simp only [bel]; omega, fun c hc => ?_, fun σ => Mk.mono (Mk.makeMapOwn (fun b : ByteArray => .string b) (fun v : Value => v) ho) ?_⟩
    · rw [List.mem_singleton.1 hc]; exact ⟨Nat.lt_succ_self _, (fun p hp => by cases hp), by simp only [bels]⟩
    · rintro _ _ w ⟨b, rfl, rfl⟩ _
      refine ⟨upd σ k b, upd_sup, by simp only [val, bl_upd hk], ?_⟩
      simp only [mem, ck, List.map_cons, List.map_nil, bl_upd hk, prs]
  · cases h
end
end Go.In
