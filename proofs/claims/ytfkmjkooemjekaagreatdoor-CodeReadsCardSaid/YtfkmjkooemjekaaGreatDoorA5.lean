/- The interpreter of known runs: slices, parts, what is built. Own text. -/
import Derived.Test.YtfkmjkooemjekaaGreatDoorA4
import Derived.Test.YtfkmjkooemjekaaGreatDoorL2
set_option linter.unusedVariables false
set_option linter.unusedSimpArgs false
namespace Go.In
open Go.RowKit Go.Flow Go.Mem Go.Sep
def slv : AV → Option (Nat × Nat × Nat × AC)
  | .sl i q l c => some (i, q, l, .kn c)
  | .slu i q l c d => some (i, q, l, .un c d)
  | _ => none
def mkSl (i q l : Nat) : AC → AV
  | .kn c => .sl i q l c
  | .un c d => .slu i q l c d
def capLo : AC → Nat
  | .kn c => c
  | .un _ d => d
def acSub (a : AC) (n : Nat) : AC :=
  match a with
  | .kn c => .kn (c - n)
  | .un c d => .un c (d - n)
def offA (a : AC) (q lo size : Nat) : Option Nat :=
  match a with
  | .kn c => bif Nat.beq c lo then some q else some (q + lo * size)
  | .un _ d => bif Nat.blt lo d then some (q + lo * size) else bif Nat.beq lo 0 then some q else none
def natA (ρ : ASlots) (x : Operand) : Option Nat :=
  match aev ρ x with
  | some (.int _ (.ofNat n)) => some n
  | _ => none
def partA (P : Program) (e : TypeId) (cs : List AV) (off : Nat) : Option AV :=
  match rowN P e with
  | some n => bif Nat.ble (off + n) cs.length then some (.agg (subA cs off n)) else none
  | none => bif cellB P e then cs[off]? else none
def fieldV (P : Program) (t : TypeId) (f : Nat) : Option (Nat × Nat) :=
  match P.underlying t with
  | some (.struct fs) => match fs[f]? with
    | some fd => some (fd.offset, fd.type)
    | none => none
  | _ => none
def cellsA : AV → List AV
  | .agg l => l
  | v => [v]
def fillA (place : Nat → Option (Nat × Nat)) (cs : List AV) : List (Nat × AV) → Option (List AV)
  | [] => some cs
  | (i, v) :: r => match place i with
    | some (off, size) => bif Nat.beq (cellsA v).length size && Nat.ble (off + (cellsA v).length) cs.length then fillA place (overA cs off (cellsA v)) r else none
    | none => none
def placesA (P : Program) : List Field → Option (List (Nat × Nat))
  | [] => some []
  | f :: r => match P.info? f.type, placesA P r with
    | some i, some l => some ((f.offset, i.size) :: l)
    | _, _ => none
def builtA (P : Program) (t : TypeId) (parts : List (Nat × AV)) : Option (List AV) :=
  match zerosA P t, P.underlying t with
  | some zs, some (.struct fs) => match placesA P fs.toList with
    | some pl => fillA (fun i => pl[i]?) zs parts
    | none => none
  | some zs, some (.array _ e) => match P.info? e with
    | some ie => fillA (fun i => some (i * ie.size, ie.size)) zs parts
    | none => none
  | _, _ => none
def partsA (ρ : ASlots) : List (Nat × Operand) → Option (List (Nat × AV))
  | [] => some []
  | (i, x) :: r => match aev ρ x, partsA ρ r with
    | some v, some l => some ((i, v) :: l)
    | _, _ => none
def sliceA (size : Nat) (i q l : Nat) (a : AC) (lo hi : Nat) : Option AV :=
  bif Nat.ble lo hi && Nat.ble hi (capLo a) then (match offA a q lo size with
    | some q' => some (mkSl i q' (hi - lo) (acSub a lo))
    | none => none) else none
def valA (P : Program) (ρ : ASlots) : Op → Option AV
  | .fieldAddr s x f => match aev ρ x with
    | some (.ptr i o) => match fieldA P s f with
      | some k => some (.ptr i (o + k))
      | none => none
    | _ => none
  | .indexAddr t x y => match aev ρ x, natA ρ y with
    | some (.ptr i q), some j => match arrA P t with
      | some (n, _, size) => bif Nat.blt j n then some (.ptr i (q + j * size)) else none
      | none => none
    | some v, some j => match slv v, sliceI P t with
      | some (i, q, l, _), some s => bif Nat.blt j l then some (.ptr i (q + j * s.size)) else none
      | _, _ => none
    | _, _ => none
  | .index t x y => match aev ρ x, natA ρ y with
    | some (.str s), some j => bif strTy P t then (match s[j]? with
      | some b => some (.int .u8 (Int.ofNat (b % 256)))
      | none => none) else none
    | some (.agg cs), some j => match arrA P t with
      | some (n, e, size) => bif Nat.blt j n then partA P e cs (j * size) else none
      | none => none
    | _, _ => none
  | .field t x f => match aev ρ x, fieldV P t f with
    | some (.agg cs), some (off, e) => partA P e cs off
    | _, _ => none
  | .build t parts => match partsA ρ parts.toList with
    | some l => (builtA P t l).map .agg
    | none => none
  | .makeFunc (.func f) xs ys => match aevs ρ xs.toList, aevs ρ ys.toList with
    | some us, some vs => some (.fn f us vs)
    | _, _ => none
  | .slice t x lo hi mx => match mx with
    | none => match aev ρ x with
      | some (.str s) => bif strTy P t then (match (match lo with | none => some 0 | some y => natA ρ y), (match hi with | none => some s.length | some y => natA ρ y) with
        | some a, some b => bif Nat.ble a b && Nat.ble b s.length then some (.str ((s.drop a).take (b - a))) else none
        | _, _ => none) else none
      | some v => match slv v, sliceI P t with
        | some (i, q, l, c), some s => match lo, hi with
          | none, none => some v
          | none, some y => match natA ρ y with
            | some b => bif Nat.ble b (capLo c) then some (mkSl i q b c) else none
            | none => none
          | some x, none => match natA ρ x with
            | some a => bif Nat.ble l (capLo c) then sliceA s.size i q l c a l else none
            | none => none
          | some x, some y => match natA ρ x, natA ρ y with
            | some a, some b => sliceA s.size i q l c a b
            | _, _ => none
        | _, _ => none
      | none => none
    | some z => match lo, hi with
      | none, some y => match aev ρ x, natA ρ y, natA ρ z with
        | some .nils, some 0, some 0 => bif (sliceI P t).isSome then some .nils else none
        | some v, some b, some m => match slv v, sliceI P t with
          | some (i, q, _, c), some _ => bif Nat.ble b m && Nat.ble m (capLo c) then some (.sl i q b m) else none
          | _, _ => none
        | _, _, _ => none
      | _, _ => none
  | .call c => match c.callee, c.args.toList, c.argTypes.toList with
    | .builtin .len, [x], [t] => match aev ρ x with
      | some v => match slv v with
        | some (_, _, l, _) => bif slTy P t then some (.int .i64 (Int.ofNat l)) else none
        | none => match v with
          | .str s => bif strTy P t then some (.int .i64 (Int.ofNat s.length)) else none
          | _ => none
      | none => none
    | .builtin .unsafeSliceData, [x], [_] => match aev ρ x with
      | some v => match slv v with
        | some (i, q, _, c) => bif Nat.blt 0 (capLo c) then some (.ptr i q) else none
        | none => none
      | none => none
    | _, _, _ => none
  | _ => none
section
variable {P : Program} {o : Oper} {ρ : ASlots} {Γ : List Chunk} {σ : Nat → Nat} {v : AV} {k : Nat}
theorem slv_val {i q l : Nat} {c : AC} (h : slv v = some (i, q, l, c)) : val σ v = .slice (some ⟨bl σ i, q, none⟩) l (cp σ c) := by
  cases v <;> first | (cases h; done) | (simp only [slv, Option.some.injEq, Prod.mk.injEq] at h; obtain ⟨rfl, rfl, rfl, rfl⟩ := h; simp only [val, cp])
theorem mkSl_val {i q l : Nat} {c : AC} : val σ (mkSl i q l c) = .slice (some ⟨bl σ i, q, none⟩) l (cp σ c) := by
  cases c <;> simp only [mkSl, val, cp]
theorem slv_bel {i q l : Nat} {c : AC} (h : slv v = some (i, q, l, c)) (hb : bel k v) : i < k ∧ belC k c := by
  cases v <;> first | (cases h; done) | (simp only [slv, Option.some.injEq, Prod.mk.injEq] at h; obtain ⟨rfl, rfl, rfl, rfl⟩ := h; simp only [bel] at hb; first | exact ⟨hb, trivial⟩ | exact hb)
theorem mkSl_bel {i q l : Nat} {c : AC} (h : i < k) (hc : belC k c) : bel k (mkSl i q l c) := by
  cases c <;> simp only [mkSl, bel] <;> first | exact h | exact ⟨h, hc⟩
theorem capLo_le {c : AC} : capLo c ≤ cp σ c := by cases c <;> simp only [capLo, cp] <;> omega
theorem acSub_cp {c : AC} {n : Nat} (h : n ≤ capLo c) : cp σ (acSub c n) = cp σ c - n := by
  cases c with
  | kn c => simp only [acSub, cp]
  | un c d => simp only [capLo] at h; simp only [acSub, cp]; omega
theorem acSub_bel {c : AC} {n : Nat} (h : belC k c) : belC k (acSub c n) := by cases c <;> exact h
theorem slAt_same {A : Option Addr} {cap lo size : Nat} (h : cap = lo) : slAt A cap lo size = A := by unfold slAt; rw [if_pos h]
theorem slAt_add {b q cap lo size : Nat} (h : cap ≠ lo) : slAt (some ⟨b, q, none⟩) cap lo size = some ⟨b, q + lo * size, none⟩ := by unfold slAt; rw [if_neg h]; simp [Addr.add]
theorem slAt_zero {b q cap size : Nat} : slAt (some ⟨b, q, none⟩) cap 0 size = some ⟨b, q, none⟩ := by unfold slAt; split <;> simp [Addr.add]
theorem offA_ok {c : AC} {q lo size q' b : Nat} (h : offA c q lo size = some q') : slAt (some ⟨b, q, none⟩) (cp σ c) lo size = some ⟨b, q', none⟩ := by
  cases c with
  | kn c =>
    simp only [offA] at h
    cases hb : Nat.beq c lo with
    | true => rw [hb] at h; cases h; exact slAt_same (Nat.eq_of_beq_eq_true hb)
    | false =>
      rw [hb] at h; cases h
      exact slAt_add (fun e => by rw [show c = lo from e, Nat.beq_refl] at hb; cases hb)
  | un c d =>
    simp only [offA] at h
    cases hb : Nat.blt lo d with
    | true =>
      rw [hb] at h; cases h
      have := Nat.le_of_ble_eq_true hb
      exact slAt_add (by show d + σ c ≠ lo; omega)
    | false =>
      rw [hb] at h; simp only [cond_false] at h
      cases hz : Nat.beq lo 0 with
      | false => rw [hz] at h; cases h
      | true =>
        rw [hz] at h; cases h
        have := Nat.eq_of_beq_eq_true hz
        subst this
        exact slAt_zero
theorem natA_ev {x : Operand} {n : Nat} (h : natA ρ x = some n) : ∃ k, ev (inst σ ρ) x = some (.int k (n : Int)) := by
  unfold natA at h
  split at h
  · rename_i k m hx; cases h; exact ⟨k, evv hx⟩
  · cases h
theorem partA_run {e : TypeId} {cs : List AV} {off : Nat} (h : partA P e cs off = some v) (w : World) : (part e (vals σ cs).toArray off).run P w = .ok (val σ v) w := by
  unfold partA at h
  split at h
  · rename_i n hn
    cases hb : Nat.ble (off + n) cs.length with
    | false => rw [hb] at h; cases h
    | true =>
      rw [hb] at h; cases h
      obtain ⟨d, h1, h2, h3⟩ := rowN_ok hn
      have hagg : (isAgg e).run P w = .ok true w := by
        unfold isAgg
        rw [Sem.run_bind, run_underlying h1 w]
        cases d <;> simp_all [TypeDesc.isRow]
      obtain ⟨i, hi, hs⟩ := Option.map_eq_some_iff.1 h3
      have hz : (sizeOf e).run P w = .ok n w := by simp [sizeOf, typeInfo, hi, hs]
      unfold part
      simp only [Sem.run_bind, hagg, Result.andThen_ok, if_true, hz, Sem.run_pure, val, vals_sub, sub]
      congr 1
      simp [List.extract_eq_take_drop]
  · cases hb : cellB P e with
    | false => rw [hb] at h; cases h
    | true =>
      rw [hb] at h; simp only [cond_true] at h
      obtain ⟨d, h1, h2, h3⟩ := cellB_ok hb
      have hagg : (isAgg e).run P w = .ok false w := by
        unfold isAgg
        rw [Sem.run_bind, run_underlying h1 w]
        cases d <;> simp_all [TypeDesc.isRow]
      have hx : (vals σ cs)[off]? = some (val σ v) := by rw [vals_map, List.getElem?_map, h]; rfl
      unfold part
      simp [hagg, hx]
theorem partA_bel {e : TypeId} {cs : List AV} {off : Nat} (h : partA P e cs off = some v) (hb : bels k cs) : bel k v := by
  unfold partA at h
  split at h
  · rename_i n hn
    cases hq : Nat.ble (off + n) cs.length with
    | false => rw [hq] at h; cases h
    | true => rw [hq] at h; cases h; simp only [bel]; exact bels_sub hb
  · cases hq : cellB P e with
    | false => rw [hq] at h; cases h
    | true => rw [hq] at h; exact bel_get hb h
theorem cellsA_val {v : AV} : (val σ v).cells = (vals σ (cellsA v)).toArray := by
  cases v <;> first | (simp only [cellsA, val, vals, Value.cells]; done) | rfl | (simp only [cellsA, val, vals]; rfl)
theorem cellsA_bel {v : AV} (h : bel k v) : bels k (cellsA v) := by
  cases v <;> simp only [cellsA, bels, bel, and_true] at h ⊢ <;> exact h
theorem fold_over : ∀ (us : List Value) (cs : List Value) (off : Nat) (j : Nat), off + j + us.length ≤ cs.length →
    (us.zipIdx j).foldl (fun (a : Array Value) (p : Value × Nat) => a.setIfInBounds (off + p.2) p.1) cs.toArray = (over cs (off + j) us).toArray
  | [], cs, off, j, _ => by simp [over]
  | u :: us, cs, off, j, h => by
    simp only [List.length_cons] at h
    simp only [List.zipIdx_cons, List.foldl_cons]
    rw [List.setIfInBounds_toArray, fold_over us (cs.set (off + j) u) off (j + 1) (by rw [List.length_set]; omega)]
    show (over (cs.set (off + j) u) (off + j + 1) us).toArray = _
    rw [over_cons cs (off + j) u us (by omega)]
theorem fillA_ok {place : Nat → Option (Nat × Nat)} : ∀ {parts : List (Nat × AV)} {cs ds : List AV}, fillA place cs parts = some ds → Instr.fill place (vals σ cs).toArray (parts.map fun p => (p.1, val σ p.2)) = some (vals σ ds).toArray
  | [], cs, ds, h => by simp only [fillA, Option.some.injEq] at h; subst h; rfl
  | (i, v) :: r, cs, ds, h => by
    unfold fillA at h
    split at h
    · rename_i off size hp
      cases hb : (Nat.beq (cellsA v).length size && Nat.ble (off + (cellsA v).length) cs.length) with
      | false => rw [hb] at h; cases h
      | true =>
        rw [hb] at h; simp only [cond_true] at h
        rw [Bool.and_eq_true] at hb
        have h1 := Nat.eq_of_beq_eq_true hb.1
        have h2 := Nat.le_of_ble_eq_true hb.2
        have ih := fillA_ok (place := place) h
        simp only [List.map_cons]
        unfold Instr.fill
        simp only [hp]
        have e1 : (val σ v).cells.size = size := by rw [cellsA_val]; simp [vals_len, h1]
        have e2 : ¬ (off + (val σ v).cells.size > (vals σ cs).toArray.size) := by rw [e1]; simp [vals_len]; omega
        rw [if_neg (by rw [e1]; simp [vals_len]; omega)]
        have e3 : ((val σ v).cells.zipIdx.foldl (fun cs (x : Value × Nat) => cs.setIfInBounds (off + x.2) x.1) (vals σ cs).toArray) = (vals σ (overA cs off (cellsA v))).toArray := by
          rw [vals_over, cellsA_val]
          have := fold_over (vals σ (cellsA v)) (vals σ cs) off 0 (by rw [vals_len, vals_len]; omega)
          rw [Nat.add_zero] at this
          rw [← this]
          simp [← Array.foldl_toList]
        rw [← ih, ← e3]
    · cases h
theorem fillA_bel {place : Nat → Option (Nat × Nat)} : ∀ {parts : List (Nat × AV)} {cs ds : List AV}, fillA place cs parts = some ds → bels k cs → (∀ p ∈ parts, bel k p.2) → bels k ds
  | [], cs, ds, h, hc, _ => by simp only [fillA, Option.some.injEq] at h; subst h; exact hc
  | (i, v) :: r, cs, ds, h, hc, hp => by
    unfold fillA at h
    split at h
    · rename_i off size _
      cases hb : (Nat.beq (cellsA v).length size && Nat.ble (off + (cellsA v).length) cs.length) with
      | false => rw [hb] at h; cases h
      | true =>
        rw [hb] at h; simp only [cond_true] at h
        exact fillA_bel h (bels_over hc (cellsA_bel (hp _ (List.mem_cons_self ..)))) fun p hq => hp p (List.mem_cons_of_mem _ hq)
    · cases h
theorem placesA_ok : ∀ {fs : List Field} {l : List (Nat × Nat)}, placesA P fs = some l → fs.mapM (fun f => (P.info? f.type).map fun i => (f.offset, i.size)) = some l
  | [], l, h => by simp only [placesA, Option.some.injEq] at h; subst h; rfl
  | f :: r, l, h => by
    unfold placesA at h
    split at h
    · rename_i i l' h1 h2
      simp only [Option.some.injEq] at h; subst h
      simp [List.mapM_cons, h1, placesA_ok h2]
    · cases h
theorem builtA_ok {t : TypeId} {parts : List (Nat × AV)} {cs : List AV} (h : builtA P t parts = some cs) : P.built t (parts.map fun p => (p.1, val σ p.2)) = some (vals σ cs).toArray := by
  unfold builtA at h
  unfold Program.built
  split at h
  · rename_i zs fs hz hu
    have hz' := zerosA_ok hz σ
    unfold ZeroTy at hz'
    obtain ⟨it, h1, h2⟩ := Option.bind_eq_some_iff.1 hz'
    obtain ⟨z, h3, h4⟩ := Option.map_eq_some_iff.1 h2
    split at h
    · rename_i pl hp
      simp only [h1, hu, h3, placesA_ok hp]
      have := fillA_ok (σ := σ) h
      rw [← h4] at this
      simpa using this
    · cases h
  · rename_i zs n e hz hu
    have hz' := zerosA_ok hz σ
    unfold ZeroTy at hz'
    obtain ⟨it, h1, h2⟩ := Option.bind_eq_some_iff.1 hz'
    obtain ⟨z, h3, h4⟩ := Option.map_eq_some_iff.1 h2
    split at h
    · rename_i ie hi
      simp only [h1, hu, h3, hi]
      have := fillA_ok (σ := σ) h
      rw [← h4] at this
      simpa using this
    · cases h
  · cases h
theorem builtA_bel {t : TypeId} {parts : List (Nat × AV)} {cs : List AV} (h : builtA P t parts = some cs) (hp : ∀ p ∈ parts, bel k p.2) : bels k cs := by
  unfold builtA at h
  split at h
  · rename_i hz _
    split at h
    · exact fillA_bel h (bels_zerosA hz) hp
    · cases h
  · rename_i hz _
    split at h
    · exact fillA_bel h (bels_zerosA hz) hp
    · cases h
  · cases h
theorem partsA_ok : ∀ {ps : List (Nat × Operand)} {l : List (Nat × AV)}, partsA ρ ps = some l → evs (inst σ ρ) (ps.map (·.2)) = some ((l.map fun p => (p.1, val σ p.2)).map (·.2)) ∧ ps.map (·.1) = (l.map fun p => (p.1, val σ p.2)).map (·.1)
  | [], l, h => by simp only [partsA, Option.some.injEq] at h; subst h; exact ⟨rfl, rfl⟩
  | (i, x) :: r, l, h => by
    unfold partsA at h
    split at h
    · rename_i v l' h1 h2
      simp only [Option.some.injEq] at h; subst h
      obtain ⟨a, b⟩ := partsA_ok h2
      simp only [List.map_cons, evs, ev_inst (σ := σ) h1, a, b, and_self]
    · cases h
theorem partsA_bel (hk : 4096 ≤ k) (hb : belS k ρ) : ∀ {ps : List (Nat × Operand)} {l : List (Nat × AV)}, partsA ρ ps = some l → ∀ p ∈ l, bel k p.2
  | [], l, h => by simp only [partsA, Option.some.injEq] at h; subst h; simp
  | (i, x) :: r, l, h => by
    unfold partsA at h
    split at h
    · rename_i v l' h1 h2
      simp only [Option.some.injEq] at h; subst h
      intro p hp
      rcases List.mem_cons.1 hp with rfl | hp
      · exact bel_aev hk hb h1
      · exact partsA_bel hk hb h2 p hp
    · cases h
end
end Go.In
