/- The interpreter of known runs: slices, parts, what is built: that they are so. Own text. -/
import Derived.Test.YtfkmjkooemjekaaGreatDoorA5
set_option linter.unusedVariables false
set_option linter.unusedSimpArgs false
namespace Go.In
open Go.RowKit Go.Flow Go.Mem Go.Sep
section
variable {P : Program} {o : Oper} {ρ : ASlots} {Γ : List Chunk} {σ : Nat → Nat} {v : AV} {k : Nat} {x y z : Operand} {ρs : Slots} {t : TypeId}
theorem Rd.arrAt {n e size b off j : Nat} {k : IntKind} (ho : o.op = .indexAddr t x y) (ht : arrA P t = some (n, e, size)) (hx : ev ρs x = some (.pointer (some ⟨b, off, none⟩))) (hy : ev ρs y = some (.int k (j : Int))) (hj : j < n) : Rd P o ρs Γ (.pointer (some ⟨b, off + j * size, none⟩)) :=
  Rd.indexArr ho (ArrTy.of (arrA_ok ht).1 (arrA_ok ht).2) hx hy hj
theorem Rd.slAt {i q l j : Nat} {c : AC} {s : SI} {k : IntKind} (ho : o.op = .indexAddr t x y) (ht : sliceI P t = some s) (hx : ev ρs x = some (.slice (some ⟨bl σ i, q, none⟩) l (cp σ c))) (hy : ev ρs y = some (.int k (j : Int))) (hj : j < l) : Rd P o ρs Γ (.pointer (some ⟨bl σ i, q + j * s.size, none⟩)) := by
  have := Rd.indexS (P := P) (Γ := Γ) (A := some ⟨bl σ i, q, none⟩) rfl ho hx hy (sliceI_ok ht σ) hj
  simpa only [blk, ofs, Option.getD_some] using this
theorem Rd.byteAt {s : List Nat} {j b : Nat} {k : IntKind} (ho : o.op = .index t x y) (ht : P.underlying t = some .string) (hx : ev ρs x = some (.string (bytesOf s))) (hy : ev ρs y = some (.int k (j : Int))) (hj : s[j]? = some b) : Rd P o ρs Γ (.int .u8 (Int.ofNat (b % 256))) := by
  have hlt : j < s.length := (List.getElem?_eq_some_iff.1 hj).1
  have h := Rd.indexStr (P := P) (Γ := Γ) ho ht hx hy (by rw [bytes_size]; exact hlt)
  have e : ((bytesOf s).data[j]'(by show j < (bytesOf s).size; rw [bytes_size]; exact hlt)).toNat = b % 256 := by
    unfold bytesOf
    have := (List.getElem?_eq_some_iff.1 hj).2
    simp [this]
  rw [e] at h
  exact h
theorem Rd.part {n e size j : Nat} {k : IntKind} {cs : List AV} (ho : o.op = .index t x y) (ht : arrA P t = some (n, e, size)) (hx : ev ρs x = some (.agg (vals σ cs).toArray)) (hy : ev ρs y = some (.int k (j : Int))) (hj : j < n) (h : partA P e cs (j * size) = some v) : Rd P o ρs Γ (val σ v) := fun a w ha _ => by
  obtain ⟨h1, h2⟩ := arrA_ok ht
  obtain ⟨i, hi, hs⟩ := Option.map_eq_some_iff.1 h2
  have hz : (sizeOf e).run P w = .ok size w := by simp [sizeOf, typeInfo, hi, hs]
  unfold execOp
  have : ((j : Int) < (n : Int)) := by omega
  simp [ho, ha.eval hx, ha.eval hy, Instr.index, asIntOf, run_underlying h1, this, hz, partA_run h w]
  intro h9; omega
theorem Rd.fieldOf {off e f : Nat} {cs : List AV} (ho : o.op = .field t x f) (ht : fieldV P t f = some (off, e)) (hx : ev ρs x = some (.agg (vals σ cs).toArray)) (h : partA P e cs off = some v) : Rd P o ρs Γ (val σ v) := fun a w ha _ => by
  unfold fieldV at ht
  split at ht
  · rename_i fs hs
    split at ht
    · rename_i fd hf
      cases ht
      unfold execOp
      simp [ho, ha.eval hx, Instr.field, run_underlying hs, hf, asAgg, partA_run h w]
    · cases ht
  · cases ht
theorem Rd.strSl {s : List Nat} {lo hi : Option Operand} {a b : Nat} (ho : o.op = .slice t x lo hi none) (ht : P.underlying t = some .string) (hx : ev ρs x = some (.string (bytesOf s)))
    (h1 : match lo with | none => a = 0 | some y => ∃ k, ev ρs y = some (.int k (a : Int))) (h2 : match hi with | none => b = s.length | some y => ∃ k, ev ρs y = some (.int k (b : Int))) (h3 : a ≤ b) (h4 : b ≤ s.length) : Rd P o ρs Γ (.string (bytesOf ((s.drop a).take (b - a)))) := fun ac w ha _ => by
  unfold execOp
  rw [← bytes_extract]
  cases lo with
  | none =>
    simp only at h1; subst h1
    cases hi with
    | none => simp only at h2; subst h2; simp [ho, ha.eval hx, Instr.sliceAt, run_underlying ht, Instr.slice, Instr.sliceBounds, bytes_size]; rw [bytes_extract]; simp
    | some y =>
      obtain ⟨k, hy⟩ := h2
      simp [ho, ha.eval hx, ha.eval hy, Instr.sliceAt, run_underlying ht, Instr.slice, Instr.sliceBounds, Instr.sliceBound, asIntOf, bytes_size, h4]
  | some z =>
    obtain ⟨k', hz⟩ := h1
    cases hi with
    | none => simp only at h2; subst h2; simp [ho, ha.eval hx, ha.eval hz, Instr.sliceAt, run_underlying ht, Instr.slice, Instr.sliceBounds, Instr.sliceBound, asIntOf, bytes_size, h3]
    | some y =>
      obtain ⟨k, hy⟩ := h2
      simp [ho, ha.eval hx, ha.eval hy, ha.eval hz, Instr.sliceAt, run_underlying ht, Instr.slice, Instr.sliceBounds, Instr.sliceBound, asIntOf, bytes_size, h4, h3]
theorem Rd.slice3 {e bytes size n cap b m : Nat} {zs : List Value} {A : Option Addr} {k k' : IntKind} (ho : o.op = .slice t x none (some y) (some z)) (ht : SliceTy P t e size bytes zs) (hx : ev ρs x = some (.slice A n cap)) (hy : ev ρs y = some (.int k (b : Int))) (hz : ev ρs z = some (.int k' (m : Int))) (h1 : b ≤ m) (h2 : m ≤ cap) : Rd P o ρs Γ (.slice A b m) := fun a w ha _ => by
  obtain ⟨i, zz, g1, g2, g3, _⟩ := ht.inf
  unfold execOp
  simp [ho, ha.eval hx, ha.eval hy, ha.eval hz, Instr.sliceAt, run_underlying ht.und, Instr.slice, Instr.sliceBounds, Instr.sliceBound, asIntOf, h1, h2, sizeOf, typeInfo, g1]
  intro _
  cases A <;> simp [Addr.add]
theorem sliceA_rd {s : SI} {i q l lo hi : Nat} {c : AC} (ht : sliceI P t = some s) (h : sliceA s.size i q l c lo hi = some v) (R : Value → Prop) (hr : lo ≤ hi → hi ≤ cp σ c → R (.slice (Sep.slAt (some ⟨bl σ i, q, none⟩) (cp σ c) lo s.size) (hi - lo) (cp σ c - lo))) : R (val σ v) := by
  unfold sliceA at h
  cases hb : (Nat.ble lo hi && Nat.ble hi (capLo c)) with
  | false => rw [hb] at h; cases h
  | true =>
    rw [hb] at h; simp only [cond_true] at h
    rw [Bool.and_eq_true] at hb
    have h1 := Nat.le_of_ble_eq_true hb.1
    have h2 := Nat.le_of_ble_eq_true hb.2
    have h3 := capLo_le (σ := σ) (c := c)
    split at h
    · rename_i q' hq
      cases h
      have := hr h1 (by omega)
      rw [offA_ok hq] at this
      rw [mkSl_val, acSub_cp (by omega)]
      exact this
    · cases h
theorem sliceA_bel {s i q l lo hi : Nat} {c : AC} (h : sliceA s i q l c lo hi = some v) (h1 : i < k) (h2 : belC k c) : bel k v := by
  unfold sliceA at h
  cases hb : (Nat.ble lo hi && Nat.ble hi (capLo c)) with
  | false => rw [hb] at h; cases h
  | true =>
    rw [hb] at h; simp only [cond_true] at h
    split at h
    · cases h; exact mkSl_bel h1 (acSub_bel h2)
    · cases h
theorem run_sliceData {ts : Array TypeId} {ty : TypeId} {a : Addr} {l c : Nat} (h : c ≠ 0) {w : World} : (Builtin.unsafeSliceData_ ts ty #[.slice (some a) l c]).run P w = .ok (.pointer (some a)) w := by
  have e : Builtin.unsafeSliceData_ ts ty #[.slice (some a) l c] = (if c ≠ 0 then pure (.pointer (some a)) else (do if (← viewAt a.block).isSome then pure (.pointer (some a)) else pure (.pointer (some ⟨← newObj (.view a (← elemOf ty)), 0, none⟩)))) := rfl
  rw [e, if_pos h]; rfl
theorem evsl {i q l : Nat} {c : AC} {u : AV} (hx : aev ρ x = some u) (h : slv u = some (i, q, l, c)) : ev (inst σ ρ) x = some (.slice (some ⟨bl σ i, q, none⟩) l (cp σ c)) := by rw [ev_inst (σ := σ) hx, slv_val h]
theorem valA_rd (h : valA P ρ o.op = some v) : Rd P o (inst σ ρ) Γ (val σ v) := by
  generalize ho : o.op = op at h
  unfold valA at h
  split at h
  -- fieldAddr
  · split at h
    · rename_i i q hx
      split at h
      · rename_i k hf; cases h; simp only [val]; exact Rd.field ho (evv hx) (fieldA_ok hf)
      · cases h
    · cases h
  -- indexAddr
  · split at h
    · rename_i i q j hx hy
      obtain ⟨k, hy⟩ := natA_ev (σ := σ) hy
      split at h
      · rename_i n e size ha
        cases hb : Nat.blt j n with
        | false => rw [hb] at h; cases h
        | true => rw [hb] at h; cases h; simp only [val]; exact Rd.arrAt ho ha (evv hx) hy (Nat.le_of_ble_eq_true hb)
      · cases h
    · rename_i u j _ hx hy
      obtain ⟨k, hy⟩ := natA_ev (σ := σ) hy
      split at h
      · rename_i i q l c s hs ht
        cases hb : Nat.blt j l with
        | false => rw [hb] at h; cases h
        | true => rw [hb] at h; cases h; simp only [val]; exact Rd.slAt ho ht (evsl hx hs) hy (Nat.le_of_ble_eq_true hb)
      · cases h
    · cases h
  -- index
  · split at h
    · rename_i s j hx hy
      obtain ⟨k, hy⟩ := natA_ev (σ := σ) hy
      cases hb : strTy P _ with
      | false => rw [hb] at h; cases h
      | true =>
        rw [hb] at h; simp only [cond_true] at h
        split at h
        · rename_i b hj; cases h; simp only [val]; exact Rd.byteAt ho (strTy_ok hb) (evv hx) hy hj
        · cases h
    · rename_i cs j hx hy
      obtain ⟨k, hy⟩ := natA_ev (σ := σ) hy
      split at h
      · rename_i n e size ha
        cases hb : Nat.blt j n with
        | false => rw [hb] at h; cases h
        | true => rw [hb] at h; exact Rd.part ho ha (evv hx) hy (Nat.le_of_ble_eq_true hb) h
      · cases h
    · cases h
  -- field
  · split at h
    · rename_i cs off e hx hf; exact Rd.fieldOf ho hf (evv hx) h
    · cases h
  -- build
  · split at h
    · rename_i l hl
      obtain ⟨cs, hb, rfl⟩ := Option.map_eq_some_iff.1 h
      obtain ⟨h1, h2⟩ := partsA_ok (σ := σ) hl
      simp only [val]
      exact Rd.build (by rw [ho]) h1 h2 (builtA_ok hb)
    · cases h
  -- makeFunc
  · split at h
    · rename_i us vs hx hy
      cases h
      simp only [val]
      exact Rd.makeFunc (by rw [ho]) (evs_inst hx) (evs_inst hy)
    · cases h
  -- slice
  · split at h
    · split at h
      · rename_i s hx
        cases hb : strTy P _ with
        | false => rw [hb] at h; cases h
        | true =>
          rw [hb] at h; simp only [cond_true] at h
          split at h
          · rename_i a b ha hbb
            cases hq : (Nat.ble a b && Nat.ble b s.length) with
            | false => rw [hq] at h; cases h
            | true =>
              rw [hq] at h; cases h
              rw [Bool.and_eq_true] at hq
              simp only [val]
              refine Rd.strSl ho (strTy_ok hb) (evv hx) ?_ ?_ (Nat.le_of_ble_eq_true hq.1) (Nat.le_of_ble_eq_true hq.2)
              · split at ha
                · cases ha; rfl
                · exact natA_ev ha
              · split at hbb
                · cases hbb; rfl
                · exact natA_ev hbb
          · cases h
      · rename_i u _ hx
        split at h
        · rename_i i q l c s hs ht
          have hxv := evsl (σ := σ) hx hs
          have hti := sliceI_ok ht σ
          split at h
          · cases h
            rw [slv_val hs]
            exact Rd.sliceAll ho hti hxv
          · split at h
            · rename_i b hn
              obtain ⟨k, hy⟩ := natA_ev (σ := σ) hn
              cases hb : Nat.ble b (capLo c) with
              | false => rw [hb] at h; cases h
              | true =>
                rw [hb] at h; cases h
                have := Nat.le_of_ble_eq_true hb
                have h3 := capLo_le (σ := σ) (c := c)
                rw [mkSl_val]
                exact Rd.sliceHi ho hti hxv hy (by omega)
            · cases h
          · split at h
            · rename_i a hn
              obtain ⟨k, hy⟩ := natA_ev (σ := σ) hn
              cases hb : Nat.ble l (capLo c) with
              | false => rw [hb] at h; cases h
              | true =>
                rw [hb] at h; simp only [cond_true] at h
                exact sliceA_rd ht h (fun r => Rd P o (inst σ ρ) Γ r) fun h1 _ => Rd.sliceLo ho hti hxv hy h1
            · cases h
          · split at h
            · rename_i a b hn hm
              obtain ⟨k, hy⟩ := natA_ev (σ := σ) hn
              obtain ⟨k', hz⟩ := natA_ev (σ := σ) hm
              exact sliceA_rd ht h (fun r => Rd P o (inst σ ρ) Γ r) fun h1 h2 => Rd.sliceLH ho hti hxv hy hz h1 h2
            · cases h
        · cases h
      · cases h
    · split at h
      · split at h
        · rename_i hx hy hz
          obtain ⟨k, hy⟩ := natA_ev (σ := σ) hy
          obtain ⟨k', hz⟩ := natA_ev (σ := σ) hz
          cases hb : (sliceI P _).isSome with
          | false => rw [hb] at h; cases h
          | true =>
            rw [hb] at h; cases h
            obtain ⟨s, hs⟩ := Option.isSome_iff_exists.1 hb
            simp only [val]
            exact Rd.slice3 ho (sliceI_ok hs σ) (evv hx) hy hz (Nat.le_refl _) (Nat.le_refl _)
        · rename_i u b m _ hx hy hz
          obtain ⟨k, hy⟩ := natA_ev (σ := σ) hy
          obtain ⟨k', hz⟩ := natA_ev (σ := σ) hz
          split at h
          · rename_i i q l c s hs ht
            cases hb : (Nat.ble b m && Nat.ble m (capLo c)) with
            | false => rw [hb] at h; cases h
            | true =>
              rw [hb] at h; cases h
              rw [Bool.and_eq_true] at hb
              have h3 := capLo_le (σ := σ) (c := c)
              have h4 := Nat.le_of_ble_eq_true hb.2
              simp only [val]
              exact Rd.slice3 ho (sliceI_ok ht σ) (evsl hx hs) hy hz (Nat.le_of_ble_eq_true hb.1) (by omega)
          · cases h
        · cases h
      · cases h
  -- call
  · rename_i c
    obtain ⟨cl, as, ts⟩ := c
    simp only at h
    split at h
    · rename_i x t h1 h2
      have e1 : as = #[x] := by rw [← Array.toList_inj]; exact h1
      have e2 : ts = #[t] := by rw [← Array.toList_inj]; exact h2
      subst e1 e2
      split at h
      · rename_i u hx
        split at h
        · rename_i i q l c hs
          cases hb : slTy P _ with
          | false => rw [hb] at h; cases h
          | true =>
            rw [hb] at h; cases h
            obtain ⟨e, he⟩ := slTy_ok hb
            simp only [val]
            exact Rd.len ho (evsl hx hs) he
        · split at h
          · rename_i s _
            cases hb : strTy P _ with
            | false => rw [hb] at h; cases h
            | true =>
              rw [hb] at h; cases h
              simp only [val]
              have hx' := evv (σ := σ) (u := .string (bytesOf s)) hx
              exact fun a w ha _ => by unfold execOp; simp [ho, resolve, invoke, builtin, ha.eval hx', Builtin.len_, run_underlying (strTy_ok hb), goInt, bytes_size]
          · cases h
      · cases h
    · rename_i x t h1 h2
      have e1 : as = #[x] := by rw [← Array.toList_inj]; exact h1
      subst e1
      split at h
      · rename_i u hx
        split at h
        · rename_i i q l c hs
          cases hb : Nat.blt 0 (capLo c) with
          | false => rw [hb] at h; cases h
          | true =>
            rw [hb] at h; cases h
            have h3 := capLo_le (σ := σ) (c := c)
            have h4 : cp σ c ≠ 0 := by have := Nat.le_of_ble_eq_true hb; omega
            have hx' := evsl (σ := σ) hx hs
            simp only [val]
            exact fun a w ha _ => by unfold execOp; simp [ho, resolve, invoke, builtin, ha.eval hx', run_sliceData h4]
        · cases h
      · cases h
    · cases h
  · cases h
theorem bel_valA {op : Op} (hk : 4096 ≤ k) (hb : belS k ρ) (h : valA P ρ op = some v) : bel k v := by
  unfold valA at h
  split at h
  · split at h
    · rename_i i q hx
      have h2 := bel_aev hk hb hx
      split at h
      · cases h; simp only [bel] at h2 ⊢; exact h2
      · cases h
    · cases h
  · split at h
    · rename_i i q j hx hy
      have h2 := bel_aev hk hb hx
      split at h
      · exact bel_bif h (by simp only [bel] at h2 ⊢; exact h2)
      · cases h
    · rename_i u j _ hx hy
      have h2 := bel_aev hk hb hx
      split at h
      · rename_i hs _
        exact bel_bif h (by simp only [bel]; exact (slv_bel hs h2).1)
      · cases h
    · cases h
  · split at h
    · cases hb : strTy P _ with
      | false => rw [hb] at h; cases h
      | true =>
        rw [hb] at h; simp only [cond_true] at h
        split at h
        · cases h; simp [bel]
        · cases h
    · rename_i cs j hx hy
      have h2 := bel_aev hk hb hx
      simp only [bel] at h2
      split at h
      · rename_i n e size ha
        cases hb : Nat.blt j n with
        | false => rw [hb] at h; cases h
        | true => rw [hb] at h; exact partA_bel h h2
      · cases h
    · cases h
  · split at h
    · rename_i cs off e hx hf
      have h2 := bel_aev hk hb hx
      simp only [bel] at h2
      exact partA_bel h h2
    · cases h
  · split at h
    · rename_i l hl
      obtain ⟨cs, hc, rfl⟩ := Option.map_eq_some_iff.1 h
      simp only [bel]
      exact builtA_bel hc (partsA_bel hk hb hl)
    · cases h
  · split at h
    · rename_i us vs hx hy
      cases h
      simp only [bel]
      exact ⟨bel_aevs hk hb hx, bel_aevs hk hb hy⟩
    · cases h
  · split at h
    · split at h
      · cases hb : strTy P _ with
        | false => rw [hb] at h; cases h
        | true =>
          rw [hb] at h; simp only [cond_true] at h
          split at h
          · exact bel_bif h (by simp only [bel])
          · cases h
      · rename_i u _ hx
        have h2 := bel_aev hk hb hx
        split at h
        · rename_i i q l c s hs ht
          have h3 := slv_bel hs h2
          split at h
          · cases h; exact h2
          · split at h
            · exact bel_bif h (mkSl_bel h3.1 h3.2)
            · cases h
          · split at h
            · rename_i a hn
              cases hb : Nat.ble l (capLo c) with
              | false => rw [hb] at h; cases h
              | true => rw [hb] at h; exact sliceA_bel (l := l) h h3.1 h3.2
            · cases h
          · split at h
            · exact sliceA_bel (l := l) h h3.1 h3.2
            · cases h
        · cases h
      · cases h
    · split at h
      · split at h
        · exact bel_bif h (by simp only [bel])
        · rename_i u b m _ hx hy hz
          have h2 := bel_aev hk hb hx
          split at h
          · rename_i i q l c s hs ht
            exact bel_bif h (by simp only [bel]; exact (slv_bel hs h2).1)
          · cases h
        · cases h
      · cases h
  · split at h
    · split at h
      · split at h
        · exact bel_bif h (by simp only [bel])
        · split at h
          · exact bel_bif h (by simp only [bel])
          · cases h
      · cases h
    · split at h
      · rename_i u hx
        have h2 := bel_aev hk hb hx
        split at h
        · rename_i i q l c hs
          exact bel_bif h (by simp only [bel]; exact (slv_bel hs h2).1)
        · cases h
      · cases h
    · cases h
  · cases h
end
end Go.In
