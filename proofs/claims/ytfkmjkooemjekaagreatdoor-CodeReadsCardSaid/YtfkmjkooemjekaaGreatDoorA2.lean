/- The interpreter of known runs: the table of types, and memory. Own text. -/
import Derived.Test.YtfkmjkooemjekaaGreatDoorA1
set_option linter.unusedVariables false
set_option linter.unusedSimpArgs false
namespace Go.In
open Go.RowKit Go.Flow Go.Mem Go.Sep
def one : AV → Bool
  | .agg _ => false
  | .tup _ => false
  | .und => false
  | _ => true
theorem one_val (σ : Nat → Nat) {v : AV} (h : one v = true) : (val σ v).oneCell' = true := by
  cases v <;> first | (simp only [val]; rfl) | (exact Bool.noConfusion h)
def rowN (P : Program) (ty : TypeId) : Option Nat :=
  match P.underlying ty with
  | some d => bif d.isRow then (P.info? ty).map (·.size) else none
  | none => none
def cellB (P : Program) (ty : TypeId) : Bool :=
  match P.underlying ty with
  | some d => bif d.isRow then false else match P.info? ty with
    | some i => Nat.beq i.size 1
    | none => false
  | none => false
def zerosA (P : Program) (ty : TypeId) : Option (List AV) :=
  match P.info? ty with
  | some i => match i.zero with
    | some z => ofcs z.cells.toList
    | none => none
  | none => none
def fieldA (P : Program) (s : TypeId) (f : Nat) : Option Nat :=
  match P.underlying s with
  | some (.struct fs) => match fs[f]? with
    | some fd => match P.info? fd.type with
      | some i => bif Nat.blt 0 i.size then some fd.offset else none
      | none => none
    | none => none
  | _ => none
structure SI where
  e : Nat
  size : Nat
  bytes : Nat
  zs : List AV
def sliceI (P : Program) (t : TypeId) : Option SI :=
  match P.underlying t with
  | some (.slice e) => match P.info? e with
    | some i => match i.zero with
      | some z => match ofcs z.cells.toList with
        | some zs => bif Nat.beq zs.length i.size && Nat.blt 0 i.size && zs.all one then some ⟨e, i.size, i.bytes, zs⟩ else none
        | none => none
      | none => none
    | none => none
  | _ => none
def arrA (P : Program) (t : TypeId) : Option (Nat × Nat × Nat) :=
  match P.underlying t with
  | some (.array n e) => (P.info? e).map fun i => (n, e, i.size)
  | _ => none
section
variable {P : Program} {σ : Nat → Nat}
theorem rowN_ok {ty : TypeId} {n : Nat} (h : rowN P ty = some n) : RowTy P ty n := by
  unfold rowN at h
  split at h
  · rename_i d hd
    cases hr : d.isRow with
    | true => rw [hr] at h; exact RowTy.of hd hr h
    | false => rw [hr] at h; cases h
  · cases h
theorem cellB_ok {ty : TypeId} (h : cellB P ty = true) : CellTy P ty := by
  unfold cellB at h
  split at h
  · rename_i d hd
    cases hr : d.isRow with
    | true => rw [hr] at h; cases h
    | false =>
      rw [hr] at h; simp only [cond_false] at h
      split at h
      · rename_i i hi; exact CellTy.of hd hr (by rw [hi]; exact congrArg some (Nat.eq_of_beq_eq_true h))
      · cases h
  · cases h
theorem zerosA_ok {ty : TypeId} {zs : List AV} (h : zerosA P ty = some zs) (σ : Nat → Nat) : ZeroTy P ty (vals σ zs) := by
  unfold zerosA at h
  split at h
  · rename_i i hi
    split at h
    · rename_i z hz
      unfold ZeroTy
      rw [hi, ← ofcs_val (σ := σ) h]
      simp [hz]
    · cases h
  · cases h
theorem bels_zerosA {ty : TypeId} {zs : List AV} {k : Nat} (h : zerosA P ty = some zs) : bels k zs := by
  unfold zerosA at h
  split at h
  · split at h
    · exact bels_ofcs h
    · cases h
  · cases h
theorem fieldA_ok {s : TypeId} {f k : Nat} (h : fieldA P s f = some k) : FieldTy P s f k := by
  unfold fieldA at h
  split at h
  · rename_i fs hs
    split at h
    · rename_i fd hf
      split at h
      · rename_i i hi
        cases hb : Nat.blt 0 i.size with
        | false => rw [hb] at h; cases h
        | true => rw [hb] at h; cases h; exact ⟨fs, fd, i, hs, hf, rfl, hi, Nat.le_of_ble_eq_true hb⟩
      · cases h
    · cases h
  · cases h
theorem sliceI_ok {t : TypeId} {s : SI} (h : sliceI P t = some s) (σ : Nat → Nat) : SliceTy P t s.e s.size s.bytes (vals σ s.zs) := by
  unfold sliceI at h
  split at h
  · rename_i e ht
    split at h
    · rename_i i hi
      split at h
      · rename_i z hz
        split at h
        · rename_i zs hzs
          cases hb : (Nat.beq zs.length i.size && Nat.blt 0 i.size && zs.all one) with
          | false => rw [hb] at h; cases h
          | true =>
            rw [hb] at h; cases h
            simp only [Bool.and_eq_true] at hb
            obtain ⟨⟨h1, h2⟩, h3⟩ := hb
            refine ⟨ht, ⟨i, z, hi, hz, rfl, rfl, ?_⟩, ?_, Nat.le_of_ble_eq_true h2, ?_⟩
            · rw [← ofcs_val (σ := σ) hzs]
            · rw [vals_map, List.length_map]; exact Nat.eq_of_beq_eq_true h1
            · intro u hu
              rw [vals_map] at hu
              obtain ⟨v, hv, rfl⟩ := List.mem_map.1 hu
              exact one_val σ (List.all_eq_true.1 h3 v hv)
        · cases h
      · cases h
    · cases h
  · cases h
theorem bels_sliceI {t : TypeId} {s : SI} {k : Nat} (h : sliceI P t = some s) : bels k s.zs := by
  unfold sliceI at h
  split at h
  · split at h
    · split at h
      · split at h
        · rename_i zs hzs
          cases hb : (Nat.beq zs.length _ && Nat.blt 0 _ && zs.all one) with
          | false => rw [hb] at h; cases h
          | true => rw [hb] at h; cases h; exact bels_ofcs hzs
        · cases h
      · cases h
    · cases h
  · cases h
theorem arrA_ok {t : TypeId} {n e size : Nat} (h : arrA P t = some (n, e, size)) : P.underlying t = some (.array n e) ∧ (P.info? e).map (·.size) = some size := by
  unfold arrA at h
  split at h
  · rename_i n' e' ht
    cases hi : P.info? e' with
    | none => rw [hi] at h; cases h
    | some i => rw [hi] at h; cases h; exact ⟨ht, by rw [hi]; rfl⟩
  · cases h
end
inductive AC where
  | kn (c : Nat)
  | un (c d : Nat)
def cp (σ : Nat → Nat) : AC → Nat
  | .kn c => c
  | .un c d => d + σ c
inductive MK where
  | box (t : Nat)
  | row (e size n : Nat) (c : AC)
  | ro
  | maps (m : List (List Nat × AV))
structure MC where
  i : Nat
  kd : MK
  cs : List AV
def prs (σ : Nat → Nat) (m : List (List Nat × AV)) : List (ByteArray × Value) := m.map fun p => (bytesOf p.1, val σ p.2)
def ck (σ : Nat → Nat) (c : MC) : Chunk :=
  match c.kd with
  | .box t => Sep.box (bl σ c.i) (vals σ c.cs) t
  | .row e size n cap => Sep.row e size (some ⟨bl σ c.i, 0, none⟩) n (cp σ cap) (vals σ c.cs)
  | .ro => Sep.ro (some ⟨bl σ c.i, 0, none⟩) (vals σ c.cs)
  | .maps m => mapc (fun b : ByteArray => .string b) (fun v : Value => v) (bl σ c.i) (prs σ m)
def mem (σ : Nat → Nat) (M : List MC) : List Chunk := M.map (ck σ)
def find : List MC → Nat → Option (Nat × MC)
  | [], _ => none
  | c :: r, i => bif Nat.beq c.i i then some (0, c) else match find r i with
    | some p => some (p.1 + 1, p.2)
    | none => none
theorem find_get {i : Nat} : ∀ {M : List MC} {j : Nat} {c : MC}, find M i = some (j, c) → M[j]? = some c ∧ c.i = i
  | [], _, _, h => by cases h
  | c :: r, j, d, h => by
    unfold find at h
    cases hb : Nat.beq c.i i with
    | true =>
      rw [hb] at h; simp only [cond_true, Option.some.injEq, Prod.mk.injEq] at h
      obtain ⟨rfl, rfl⟩ := h
      exact ⟨rfl, Nat.eq_of_beq_eq_true hb⟩
    | false =>
      rw [hb] at h; simp only [cond_false] at h
      split at h
      · rename_i p hf
        simp only [Option.some.injEq, Prod.mk.injEq] at h
        obtain ⟨rfl, rfl⟩ := h
        exact find_get (M := r) hf
      · cases h
theorem find_mem {M : List MC} {i j : Nat} {c : MC} (h : find M i = some (j, c)) : c ∈ M := List.mem_of_getElem? (find_get h).1
theorem mem_at {σ : Nat → Nat} {M : List MC} {i j : Nat} {c : MC} (h : find M i = some (j, c)) : (mem σ M)[j]? = some (ck σ c) := by
  unfold mem; rw [List.getElem?_map, (find_get h).1]; rfl
theorem mem_set {σ : Nat → Nat} {M : List MC} {j : Nat} {c : MC} : mem σ (M.set j c) = (mem σ M).set j (ck σ c) := by unfold mem; rw [List.map_set]
def belC (k : Nat) : AC → Prop
  | .kn _ => True
  | .un c _ => c < k
def belK (k : Nat) : MK → Prop
  | .row _ _ _ c => belC k c
  | .maps m => ∀ p ∈ m, bel k p.2
  | _ => True
structure belMC (k : Nat) (c : MC) : Prop where
  pl : c.i < k
  kd : belK k c.kd
  cs : bels k c.cs
def belM (k : Nat) (M : List MC) : Prop := ∀ c ∈ M, belMC k c
theorem ck_ext {k : Nat} {σ σ' : Nat → Nat} (he : ∀ i, i < k → σ i = σ' i) {c : MC} (h : belMC k c) : ck σ c = ck σ' c := by
  obtain ⟨i, kd, cs⟩ := c
  obtain ⟨h1, h2, h3⟩ := h
  simp only at h1 h2 h3
  unfold ck
  cases kd with
  | box t => simp only [bl_ext he h1, vals_ext he cs h3]
  | row e size n c =>
    have : cp σ c = cp σ' c := by
      cases c with
      | kn c => rfl
      | un c d => simp only [belK, belC] at h2; simp only [cp, he c h2]
    simp only [bl_ext he h1, vals_ext he cs h3, this]
  | ro => simp only [bl_ext he h1, vals_ext he cs h3]
  | maps m =>
    have : prs σ m = prs σ' m := by
      unfold prs
      exact List.map_congr_left fun p hp => by rw [val_ext he p.2 (h2 p hp)]
    simp only [bl_ext he h1, this]
theorem mem_ext {k : Nat} {σ σ' : Nat → Nat} (he : ∀ i, i < k → σ i = σ' i) {M : List MC} (h : belM k M) : mem σ M = mem σ' M := by
  unfold mem
  exact List.map_congr_left fun c hc => ck_ext he (h c hc)
theorem belMC_up {k k' : Nat} (hk : k ≤ k') {c : MC} (h : belMC k c) : belMC k' c := by
  obtain ⟨i, kd, cs⟩ := c
  obtain ⟨h1, h2, h3⟩ := h
  refine ⟨Nat.lt_of_lt_of_le h1 hk, ?_, bels_up hk _ h3⟩
  cases kd with
  | box t => trivial
  | ro => trivial
  | row e size n c =>
    cases c with
    | kn c => trivial
    | un c d => exact Nat.lt_of_lt_of_le h2 hk
  | maps m => exact fun p hp => bel_up hk _ (h2 p hp)
theorem belM_up {k k' : Nat} (hk : k ≤ k') {M : List MC} (h : belM k M) : belM k' M := fun c hc => belMC_up hk (h c hc)
theorem belM_set {k : Nat} {M : List MC} {j : Nat} {c : MC} (hM : belM k M) (hc : belMC k c) : belM k (M.set j c) := by
  intro d hd
  rcases List.mem_or_eq_of_mem_set hd with h | h
  · exact hM d h
  · rw [h]; exact hc
theorem belM_append {k : Nat} {M N : List MC} (h1 : belM k M) (h2 : belM k N) : belM k (M ++ N) := fun c hc => (List.mem_append.1 hc).elim (h1 c) (h2 c)
theorem belM_cons {k : Nat} {c : MC} {M : List MC} (h1 : belMC k c) (h2 : belM k M) : belM k (c :: M) := fun d hd => by
  rcases List.mem_cons.1 hd with rfl | hd
  · exact h1
  · exact h2 d hd
def cellsM (c : MC) : Option (List AV) :=
  match c.kd with
  | .maps _ => none
  | _ => some c.cs
def subA (xs : List AV) (o n : Nat) : List AV := (xs.drop o).take n
theorem vals_sub {σ : Nat → Nat} {xs : List AV} {o n : Nat} : vals σ (subA xs o n) = sub (vals σ xs) o n := by
  unfold subA sub; rw [vals_map, vals_map, List.map_take, List.map_drop]
theorem vals_len {σ : Nat → Nat} {xs : List AV} : (vals σ xs).length = xs.length := by rw [vals_map, List.length_map]
theorem ck_gives {σ : Nat → Nat} {c : MC} {cs : List AV} (h : cellsM c = some cs) (o n : Nat) : (ck σ c).gives (bl σ c.i) o (vals σ (subA cs o n)) := by
  obtain ⟨i, kd, cs'⟩ := c
  rw [vals_sub]
  unfold cellsM at h
  unfold ck
  cases kd with
  | box t => cases h; exact box_gives (n := n) rfl
  | row e size m c =>
    cases h
    have := row_gives (e := e) (size := size) (A := some ⟨bl σ i, 0, none⟩) (n := m) (cap := cp σ c) (o := o) (k := n) (xs := vals σ cs') rfl
    simpa only [blk, ofs, Option.getD_some, Nat.zero_add] using this
  | ro =>
    cases h
    have := ro_gives (A := some ⟨bl σ i, 0, none⟩) (o := o) (k := n) (xs := vals σ cs') rfl
    simpa only [blk, ofs, Option.getD_some, Nat.zero_add] using this
  | maps m => cases h
theorem subA_len {xs : List AV} {o n : Nat} (h : Nat.ble (o + n) xs.length = true) : (subA xs o n).length = n := by
  have := Nat.le_of_ble_eq_true h
  unfold subA; rw [List.length_take, List.length_drop]; omega
theorem bels_sub {k : Nat} {xs : List AV} {o n : Nat} (h : bels k xs) : bels k (subA xs o n) := by
  rw [bels_iff] at h ⊢
  exact fun z hz => h z (List.mem_of_mem_drop (List.mem_of_mem_take hz))
def overA (cs : List AV) (o : Nat) (us : List AV) : List AV := cs.take o ++ us ++ cs.drop (o + us.length)
theorem vals_over {σ : Nat → Nat} {cs us : List AV} {q : Nat} : vals σ (overA cs q us) = over (vals σ cs) q (vals σ us) := by
  unfold overA over; simp only [vals_map, List.map_append, List.map_take, List.map_drop, List.length_map]
theorem bels_over {k : Nat} {cs us : List AV} {q : Nat} (h : bels k cs) (h' : bels k us) : bels k (overA cs q us) := by
  rw [bels_iff] at h h' ⊢
  intro z hz
  unfold overA at hz
  rcases List.mem_append.1 hz with hz | hz
  · rcases List.mem_append.1 hz with hz | hz
    · exact h z (List.mem_of_mem_take hz)
    · exact h' z hz
  · exact h z (List.mem_of_mem_drop hz)
def putM (c : MC) (o : Nat) (us : List AV) : Option MC :=
  match c.kd with
  | .box _ => bif Nat.ble (o + us.length) c.cs.length then some ⟨c.i, c.kd, overA c.cs o us⟩ else none
  | .row _ size n _ => bif Nat.ble (o + us.length) (n * size) && !us.isEmpty then some ⟨c.i, c.kd, overA c.cs o us⟩ else none
  | _ => none
theorem putM_ok {σ : Nat → Nat} {c c' : MC} {o : Nat} {us : List AV} (h : putM c o us = some c') : (ck σ c).takes (bl σ c.i) o (vals σ us) (ck σ c') := by
  obtain ⟨i, kd, cs⟩ := c
  unfold putM at h
  cases kd with
  | box t =>
    simp only at h
    cases hb : Nat.ble (o + us.length) cs.length with
    | false => rw [hb] at h; cases h
    | true =>
      rw [hb] at h; cases h
      unfold ck
      simp only [vals_over]
      exact box_takes (by rw [vals_len, vals_len]; exact hb) rfl
  | row e size n cap =>
    simp only at h
    cases hb : (Nat.ble (o + us.length) (n * size) && !us.isEmpty) with
    | false => rw [hb] at h; cases h
    | true =>
      rw [hb] at h; cases h
      rw [Bool.and_eq_true] at hb
      unfold ck
      simp only [vals_over]
      have := row_takes (e := e) (size := size) (A := some ⟨bl σ i, 0, none⟩) (n := n) (cap := cp σ cap) (off := o) (xs := vals σ cs) (us := vals σ us) (by rw [vals_len]; exact Nat.le_of_ble_eq_true hb.1) (by
        intro h0
        have := congrArg List.length h0
        rw [vals_len] at this
        have h1 := hb.2
        cases us with
        | nil => cases h1
        | cons u us => cases this) rfl
      simpa only [blk, ofs, Option.getD_some, Nat.zero_add] using this
  | ro => cases h
  | maps m => cases h
theorem putM_bel {k : Nat} {c c' : MC} {o : Nat} {us : List AV} (h : putM c o us = some c') (hc : belMC k c) (hu : bels k us) : belMC k c' ∧ c'.i = c.i := by
  obtain ⟨i, kd, cs⟩ := c
  unfold putM at h
  cases kd with
  | box t =>
    simp only at h
    cases hb : Nat.ble (o + us.length) cs.length with
    | false => rw [hb] at h; cases h
    | true => rw [hb] at h; cases h; exact ⟨⟨hc.pl, hc.kd, bels_over hc.cs hu⟩, rfl⟩
  | row e size n cap =>
    simp only at h
    cases hb : (Nat.ble (o + us.length) (n * size) && !us.isEmpty) with
    | false => rw [hb] at h; cases h
    | true => rw [hb] at h; cases h; exact ⟨⟨hc.pl, hc.kd, bels_over hc.cs hu⟩, rfl⟩
  | ro => cases h
  | maps m => cases h
end Go.In
