/- The walks of the agenda's Next and Len. Own text (walks printed by sx.py). -/
import Derived.Test.YtnamppkicefbjaaC2
import Derived.Test.YtnamppkicefbjaaCc1
namespace Go.Proofs.Ytnamppkicefbjaa
open Go.RowKit Go.Flow Go.Mem Go.Sep
def anext (L : List En) : Int × Bool := match L with
  | [] => (0, false)
  | e :: L => ((e :: L).foldl (fun m x => min m x.t) e.t, true)
theorem fold_step {L : List En} {k : Nat} {y : En} {m m0 : Int} (hy : L[k]? = some y) (h : m = (L.take k).foldl (fun m x => min m x.t) m0) : min m y.t = (L.take (k + 1)).foldl (fun m x => min m x.t) m0 := by
  rw [take_of_get hy, List.foldl_append, ← h]; rfl
theorem fold_le : ∀ (L : List En) (m : Int), (L.foldl (fun m x => min m x.t) m ≤ m) ∧ ∀ e ∈ L, L.foldl (fun m x => min m x.t) m ≤ e.t
  | [], m => ⟨Int.le_refl _, by simp⟩
  | x :: L, m => by
    obtain ⟨h1, h2⟩ := fold_le L (min m x.t)
    rw [List.foldl_cons]
    refine ⟨by omega, fun e he => ?_⟩
    rcases List.mem_cons.1 he with rfl | h
    · omega
    · exact h2 e h
theorem fold_mem : ∀ (L : List En) (m : Int), L.foldl (fun m x => min m x.t) m = m ∨ ∃ e ∈ L, e.t = L.foldl (fun m x => min m x.t) m
  | [], m => .inl rfl
  | x :: L, m => by
    rw [List.foldl_cons]
    rcases fold_mem L (min m x.t) with h | ⟨e, he, h⟩
    · rcases Int.le_total m x.t with h1 | h1
      · left; rw [h]; omega
      · right; exact ⟨x, by simp, by rw [h]; omega⟩
    · exact .inr ⟨e, by simp [he], h⟩
theorem next_same {L l : List En} (h : Same L l) : anext L = rnext l := by
  cases L with
  | nil =>
    have := h.len
    cases l with
    | nil => rfl
    | cons e l => simp at this
  | cons e L =>
    cases l with
    | nil => have := h.len; simp at this
    | cons z l =>
      have hz : ∀ x ∈ z :: l, z.t ≤ x.t := fun x hx => by
        rcases List.mem_cons.1 hx with rfl | h1
        · exact Int.le_refl _
        · have := (List.pairwise_cons.1 h.sl).1 x h1
          unfold En.rle En.rkey lexLe at this
          simp at this
          omega
      have hmem : ∀ x ∈ e :: L, ∃ y ∈ z :: l, y.t = x.t := fun x hx => by
        have : x.bare ∈ (z :: l).map En.bare := h.perm.mem_iff.1 (List.mem_map.2 ⟨x, hx, rfl⟩)
        obtain ⟨y, hy, hb⟩ := List.mem_map.1 this
        exact ⟨y, hy, (bare_fields hb).1⟩
      have hmem2 : ∃ x ∈ e :: L, x.t = z.t := by
        have : z.bare ∈ (e :: L).map En.bare := h.perm.mem_iff.2 (List.mem_map.2 ⟨z, by simp, rfl⟩)
        obtain ⟨y, hy, hb⟩ := List.mem_map.1 this
        exact ⟨y, hy, (bare_fields hb).1⟩
      obtain ⟨f1, f2⟩ := fold_le (e :: L) e.t
      have hle : z.t ≤ (e :: L).foldl (fun m x => min m x.t) e.t := by
        rcases fold_mem (e :: L) e.t with h1 | ⟨x, hx, h1⟩
        · rw [h1]; obtain ⟨y, hy, h2⟩ := hmem e (by simp); rw [← h2]; exact hz y hy
        · rw [← h1]; obtain ⟨y, hy, h2⟩ := hmem x hx; rw [← h2]; exact hz y hy
      obtain ⟨x, hx, h3⟩ := hmem2
      have := f2 x hx
      show ((e :: L).foldl (fun m x => min m x.t) e.t, true) = (z.t, true)
      rw [show (e :: L).foldl (fun m x => min m x.t) e.t = z.t by omega]
theorem oks_agl {Γ : List Chunk} {a : Nat} {v : Value} {L : List En} (i : Nat) (h : Γ[i]? = some (agc a v L)) : ∀ w, oks Γ w → (ro (some ⟨a, 0, none⟩) [v]).holds w := fun w hw => by
  have hA : Ag w 0 a v L := hw _ (List.mem_of_getElem? h)
  have hb : w.heap[a]? = some (.cells [v].toArray 85 (0, 0)) := hA.blk
  exact .inr ⟨a, 0, rfl, range_of_whole hb⟩
set_option maxHeartbeats 2000000 in
set_option maxRecDepth 100000 in
theorem lenR_fn (a : Nat) (A : Option Addr) (n cap : Nat) :
    Does Try.prog 16 [.pointer (some ⟨a, 0, none⟩)] [ro (some ⟨a, 0, none⟩) [.slice A n cap]] (fun v _ => v = .int .i64 ((n : Nat) : Int)) := by
  refine Does.enter Try.func16 rfl Try.ntmps16 rfl (fun w0 => ?_)
  refine To.seq ?_
  refine To.reg ?_
  refine To.rd rfl rfl rfl (Rd.assign rfl rfl) ?_
  refine To.nil ?_
  refine To.thenN ?_
  refine To.seq ?_
  refine To.seq ?_
  refine To.reg ?_
  refine To.rd rfl rfl rfl (Rd.move rfl rfl) ?_
  refine To.rd rfl rfl rfl (Rd.eqlNil rfl Try.underlying24 rfl rfl) ?_
  refine To.nil ?_
  refine To.thenN ?_
  refine To.condF rfl ?_
  refine To.skip ?_
  refine To.thenN ?_
  refine To.seq ?_
  refine To.reg ?_
  refine To.rd rfl rfl rfl (Rd.move rfl rfl) ?_
  refine To.rd rfl rfl rfl (Rd.nilCheck rfl rfl) ?_
  refine To.rd rfl rfl rfl (Rd.field rfl rfl fl85_0) ?_
  refine To.rd rfl rfl rfl (Rd.load (i := 0) rfl rfl c83 rfl (ro_gives (A := some ⟨a, 0, none⟩) (o := 0) (k := 1) rfl)) ?_
  refine To.rd rfl rfl rfl (Rd.len rfl rfl Try.underlying83) ?_
  refine To.rd rfl rfl rfl (Rd.assign rfl rfl) ?_
  refine To.nil ?_
  refine To.thenN ?_
  refine To.ret ?_
  refine To.end1 (.inl rfl) Try.results16 rfl ?_
  rfl
set_option maxHeartbeats 2000000 in
set_option maxRecDepth 100000 in
theorem next_fn (a : Nat) (v : Value) (L : List En) (hl : L.length ≤ 1000000) :
    Does Try.prog 27 [.pointer (some ⟨a, 0, none⟩)] [agc a v L] (fun u Γ' => u = .tuple #[.int .i64 (anext L).1, .bool (anext L).2] ∧ Γ' = [agc a v L]) := by
  refine Does.enter Try.func27 rfl Try.ntmps27 rfl (fun w0 => ?_)
  refine To.seq ?_
  refine agc_open (fun A cap hv hcs => ?_)
  have hl2 := hl
  refine To.reg ?_
  refine To.rd rfl rfl rfl (Rd.assign rfl rfl) ?_
  refine To.rd rfl rfl rfl (Rd.assign rfl rfl) ?_
  refine To.nil ?_
  refine To.thenN ?_
  refine To.seq ?_
  refine To.seq ?_
  refine To.reg ?_
  refine To.rd rfl rfl rfl (Rd.move rfl rfl) ?_
  refine To.rd rfl rfl rfl (Rd.eqlNil rfl Try.underlying24 rfl rfl) ?_
  refine To.rd rfl rfl rfl (Rd.move rfl rfl) ?_
  refine To.rd rfl rfl rfl (Rd.move rfl rfl) ?_
  refine To.rd rfl rfl rfl (Rd.nilCheck rfl rfl) ?_
  refine To.rd rfl rfl rfl (Rd.field rfl rfl fl85_0) ?_
  refine To.rd rfl rfl rfl (Rd.load (i := 0) rfl rfl c83 rfl (box_gives1 rfl)) ?_
  refine To.rd rfl rfl rfl (Rd.len rfl rfl Try.underlying83) ?_
  refine To.rd rfl rfl rfl (Rd.eql rfl rfl rfl) ?_
  refine To.rd rfl rfl rfl (Rd.pickF rfl rfl rfl) ?_
  refine To.nil ?_
  refine To.thenN ?_
  refine To.condP rfl (fun c16 => ?_) (fun c16 => ?_)
  ·
    refine To.seq ?_
    refine To.reg ?_
    refine To.rd rfl rfl rfl (Rd.assign rfl rfl) ?_
    refine To.rd rfl rfl rfl (Rd.assign rfl rfl) ?_
    refine To.nil ?_
    refine To.thenN ?_
    refine To.ret ?_
    refine To.thenR ?_
    subst hv
    refine To.only [0, 0, 0] rfl ?_
    refine agc_close hcs.2 ?_
    refine To.end2 (.inl rfl) Try.results27 rfl rfl ?_
    obtain rfl : L = [] := List.length_eq_zero_iff.1 (by omega)
    exact ⟨rfl, rfl⟩
  ·
    obtain ⟨y0, hy0⟩ : ∃ y, L[0]? = some y := ⟨L[0]'(by omega), List.getElem?_eq_getElem _⟩
    refine To.skip ?_
    refine To.thenN ?_
    refine To.seq ?_
    refine To.reg ?_
    refine To.rd rfl rfl rfl (Rd.move rfl rfl) ?_
    refine To.rd rfl rfl rfl (Rd.nilCheck rfl rfl) ?_
    refine To.rd rfl rfl rfl (Rd.field rfl rfl fl85_0) ?_
    refine To.rd rfl rfl rfl (Rd.load (i := 0) rfl rfl c83 rfl (box_gives1 rfl)) ?_
    refine To.rd rfl rfl rfl (Rd.indexRows (i := 1) (j := 0) rfl rfl rfl s83 rfl hy0) ?_
    refine To.rd rfl rfl rfl (Rd.field rfl rfl fl82_0) ?_
    refine To.rd rfl rfl rfl (Rd.load (i := 1) rfl rfl c3 rfl (gives_at (f := 0) (rows_gives encC hy0) rfl)) ?_
    refine To.rd rfl rfl rfl (Rd.assign rfl rfl) ?_
    refine To.nil ?_
    refine To.thenN ?_
    refine To.seq ?_
    refine To.seq ?_
    refine To.reg ?_
    refine To.rd rfl rfl rfl (Rd.move rfl rfl) ?_
    refine To.rd rfl rfl rfl (Rd.nilCheck rfl rfl) ?_
    refine To.rd rfl rfl rfl (Rd.field rfl rfl fl85_0) ?_
    refine To.rd rfl rfl rfl (Rd.load (i := 0) rfl rfl c83 rfl (box_gives1 rfl)) ?_
    refine To.rd rfl rfl rfl (Rd.len rfl rfl Try.underlying83) ?_
    refine To.rd rfl rfl rfl (Rd.move rfl rfl) ?_
    refine To.nil ?_
    refine To.thenN ?_
    refine To.block ?_
    refine To.sub [(4, .int .i64 y0.t), (27, .slice A L.length cap), (28, .int .i64 ((L.length : Nat) : Int)), (29, .int .i64 ((0 : Nat) : Int))] ⟨rfl, rfl, rfl, rfl, trivial⟩ ?_
    refine To.only [0, 0, 0] rfl ?_
    refine To.loop (fun mz ρ Γ => ∃ (kk : Nat) (m : Int), ρ = [(4, .int .i64 m), (27, .slice A L.length cap), (28, .int .i64 ((L.length : Nat) : Int)), (29, .int .i64 ((kk : Nat) : Int))] ∧ Γ = [box a [.slice A L.length cap] 85, rows En.cells 82 8 A cap L, argsO L] ∧ mz = L.length - kk ∧ (kk ≤ L.length) ∧ (m = (L.take kk).foldl (fun m x => min m x.t) y0.t)) (L.length - 0) ⟨0, y0.t, rfl, rfl, rfl, (Nat.zero_le _), rfl⟩ ?_
    rintro mz _ _ ⟨kk, m, rfl, rfl, rfl, hkk, hm⟩
    refine To.seq ?_
    refine To.reg ?_
    refine To.rd rfl rfl rfl (Rd.lss rfl rfl rfl) ?_
    refine To.nil ?_
    refine To.thenN ?_
    refine To.seq ?_
    refine To.condP rfl (fun c30 => ?_) (fun c30 => ?_)
    ·
      obtain ⟨y, hy⟩ : ∃ y, L[kk]? = some y := ⟨L[kk]'(by omega), List.getElem?_eq_getElem _⟩
      refine To.skip ?_
      refine To.thenN ?_
      refine To.seq ?_
      refine To.block ?_
      refine To.seq ?_
      refine To.reg ?_
      refine To.rd rfl rfl rfl (Rd.indexRows (i := 1) (j := kk) rfl rfl rfl s83 rfl hy) ?_
      refine To.rd rfl rfl rfl (Rd.loadS (i := 1) rfl rfl r82 rfl (rows_gives encC hy) (encC.len _)) ?_
      refine To.alloc rfl rfl rfl rfl z82 (fun b6 => ?_)
      refine To.up rfl rfl (Up.storeS (i := 0) rfl rfl rfl r82 rfl rfl rfl (box_takesAll rfl)) ?_
      refine To.nil ?_
      refine To.thenN ?_
      refine To.reg ?_
      refine To.rd rfl rfl rfl (Rd.move rfl rfl) ?_
      refine To.rd rfl rfl rfl (Rd.field rfl rfl fl82_0) ?_
      refine To.rd rfl rfl rfl (Rd.load (i := 0) rfl rfl c3 rfl (box_gives1 rfl)) ?_
      refine To.rd rfl rfl rfl (Rd.min rfl rfl rfl) ?_
      refine To.rd rfl rfl rfl (Rd.assign rfl rfl) ?_
      refine To.nil ?_
      refine To.blockN ?_
      refine To.thenN ?_
      refine To.reg ?_
      refine To.rd rfl rfl rfl (Rd.inc rfl rfl rfl (by omega)) ?_
      refine To.rd rfl rfl rfl (Rd.move rfl rfl) ?_
      refine To.nil ?_
      refine To.thenN ?_
      refine To.sub [(4, .int .i64 (min m y.t)), (27, .slice A L.length cap), (28, .int .i64 ((L.length : Nat) : Int)), (29, .int .i64 (((kk + 1) : Nat) : Int))] ⟨rfl, rfl, rfl, rfl, trivial⟩ ?_
      refine To.only [1, 1, 1] rfl ?_
      refine To.again (L.length - (kk + 1)) (by omega) ⟨kk + 1, (min m y.t), rfl, rfl, rfl, (by omega), (fold_step hy hm)⟩
    ·
      refine To.exit ?_
      refine To.thenX ?_
      refine To.thenX ?_
      refine To.blockX ?_
      refine To.thenN ?_
      refine To.seq ?_
      refine To.reg ?_
      refine To.rd rfl rfl rfl (Rd.move rfl rfl) ?_
      refine To.rd rfl rfl rfl (Rd.assign rfl rfl) ?_
      refine To.rd rfl rfl rfl (Rd.assign rfl rfl) ?_
      refine To.nil ?_
      refine To.thenN ?_
      refine To.ret ?_
      subst hv
      refine To.only [0, 0, 0] rfl ?_
      refine agc_close hcs.2 ?_
      refine To.end2 (.inl rfl) Try.results27 rfl rfl ?_
      obtain rfl : kk = L.length := by omega
      rw [List.take_length] at hm
      refine ⟨?_, rfl⟩
      cases L with
      | nil => simp at hy0
      | cons e L => simp only [List.getElem?_cons_zero, Option.some.injEq] at hy0; subst hy0; rw [hm]; rfl
end Go.Proofs.Ytnamppkicefbjaa
