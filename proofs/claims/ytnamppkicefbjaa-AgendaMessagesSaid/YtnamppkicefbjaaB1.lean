/- The agenda's contracts in the logic of slots and chunks. Own text. -/
import Derived.Test.YtnamppkicefbjaaA1
import Derived.Test.YtnamppkicefbjaaW11
namespace Go.Proofs.Ytnamppkicefbjaa
open Go.RowKit Go.Flow Go.Mem Go.Sep

def encI (n : Int) : List Value := [.int .i64 n]
theorem encI_ok : Enc encI 1 := ⟨fun _ => rfl, fun x u hu => by simp [encI] at hu; subst hu; rfl⟩
theorem ints_flat (xs : List Int) : xs.flatMap encI = ints xs := by
  induction xs with
  | nil => rfl
  | cons x xs ih => rw [List.flatMap_cons, ih]; rfl
theorem encC : Enc En.cells 8 := ⟨fun _ => rfl, fun e u hu => flat_one [e] u (by simpa [flat] using hu)⟩
theorem encIt : Enc En.icells 7 := ⟨fun _ => rfl, fun e => icells_one e⟩

theorem ownBlock_blks {A : Option Addr} {n c g : Nat} : (Value.slice A n c).ownBlock = some g ↔ g ∈ blks A := by
  cases A <;> simp [Value.ownBlock, blks, eq_comm]
/-- Arguments that are only read. -/
def argsO (L : List En) : Chunk where
  owns := []
  reads := L.flatMap fun e => blks e.A
  holds w := ∀ e ∈ L, ArgsOk w 0 e
  loc w w' h hw e he := own_keeps' (hw e he) fun g hg => h g (.inr (List.mem_flatMap.2 ⟨e, he, ownBlock_blks.1 hg⟩))
  lt w hw g hg := by
    simp only [List.not_mem_nil, false_or] at hg
    obtain ⟨e, he, hg⟩ := List.mem_flatMap.1 hg
    exact ((hw e he).lt g (ownBlock_blks.2 hg)).2
/-- An agenda. -/
def agc (a : Nat) (v : Value) (L : List En) : Chunk where
  owns := a :: v.ownBlock.toList
  reads := L.flatMap fun e => blks e.A
  holds w := Ag w 0 a v L
  loc w w' h hw := ⟨(h a (.inl (by simp))).trans hw.blk, Nat.zero_le _, own_keeps' hw.row fun g hg => h g (.inl (by simp [hg])),
    fun e he => own_keeps' (hw.args e he) fun g hg => h g (.inr (List.mem_flatMap.2 ⟨e, he, ownBlock_blks.1 hg⟩)), hw.sorted⟩
  lt w hw g hg := by
    rcases hg with hg | hg
    · rcases List.mem_cons.1 hg with rfl | h
      · exact lt_of_block hw.blk
      · exact (hw.row.lt g (by simpa using h)).2
    · obtain ⟨e, he, hg⟩ := List.mem_flatMap.1 hg
      exact ((hw.args e he).lt g (ownBlock_blks.2 hg)).2
theorem Ag.up {w : World} {B a : Nat} {v : Value} {L : List En} (h : Ag w B a v L) : Ag w 0 a v L := ⟨h.blk, Nat.zero_le _, h.row.mono (Nat.zero_le _), fun e he => World.ownsRow.mono (h.args e he) (Nat.zero_le _), h.sorted⟩
theorem agc_nodup {w : World} {a : Nat} {v : Value} {L : List En} (h : Ag w 0 a v L) : (agc a v L).owns.Nodup ∧ ∀ g ∈ (agc a v L).reads, g ∉ (agc a v L).owns := by
  have hne : v.ownBlock ≠ some a := own_blk_ne h.row h.blk (by decide)
  constructor
  · cases hv : v.ownBlock with
    | none => simp [agc, hv]
    | some g => simp [agc, hv]; intro e; rw [hv, e] at hne; exact hne rfl
  · intro g hg hg'
    obtain ⟨e, he, hg⟩ := List.mem_flatMap.1 hg
    have hb := ownBlock_blks (n := e.args.length) (c := e.cap) |>.2 hg
    rcases List.mem_cons.1 hg' with rfl | h1
    · exact own_blk_ne (h.args e he) h.blk (by decide) hb
    · exact own_type_ne (h.args e he) h.row (by decide) g hb (by simpa using h1)
theorem own_owns {a : Nat} {v : Value} {L : List En} {g : Nat} : own a v g ↔ g ∈ (agc a v L).owns := by
  simp [own, agc]
theorem post_one {Γ : List Chunk} {c : Chunk} {w w' : World} (h1 : c.holds w') (h2 : c.owns.Nodup) (h3 : ∀ g ∈ c.reads, g ∉ c.owns) (hk : Keeps (fun g => g ∈ owns Γ) w w') (ho : ∀ g ∈ c.owns, g < w.heap.size → g ∈ owns Γ) (hr : ∀ g ∈ c.reads, g < w.heap.size → g ∈ owns Γ ∨ g ∈ reads Γ) : Post Γ [c] w w' :=
  ⟨⟨fun d hd => by rw [List.mem_singleton.1 hd]; exact h1, by simpa [owns] using h2, by simpa [owns, reads] using h3⟩, hk, by simpa [owns] using ho, by simpa [reads] using hr⟩
theorem new_fn : Does Try.prog 17 [] [] (fun v Γ' => ∃ a, v = .pointer (some ⟨a, 0, none⟩) ∧ Γ' = [agc a (.slice none 0 0) []]) := fun w _ => (new_any w).mono fun e w' ⟨h1, h2, h3, _⟩ =>
  ⟨_, _, h1, ⟨w.heap.size, rfl, rfl⟩, post_one h2.up (agc_nodup h2.up).1 (agc_nodup h2.up).2 (Keeps.of_ext h3) (fun g hg hl => by simp [agc, Value.ownBlock] at hg; omega) (fun g hg => by simp [agc] at hg)⟩
theorem len_fn (a : Nat) (v : Value) (L : List En) : Does Try.prog 16 [.pointer (some ⟨a, 0, none⟩)] [agc a v L] (fun u Γ' => u = .int .i64 (L.length : Nat) ∧ Γ' = [agc a v L]) := fun w hs => by
  have hA : Ag w 0 a v L := hs.each (agc a v L) (by simp)
  refine (len_any 0 a v L w hA).mono fun e w' ⟨h1, h2⟩ => ⟨_, _, h1, ⟨rfl, rfl⟩, (Post.refl hs).ext h2⟩
theorem args_fn (A1 A2 : Option Addr) (p1 p2 : Nat) (xs ys : List Int) (hl : xs.length ≤ 1000000000000) : Does Try.prog 20 [.slice A1 xs.length p1, .slice A2 ys.length p2] [ro A1 (ints xs), ro A2 (ints ys)] (fun v' _ => v' = .bool (decide (xs = ys))) := fun w hs =>
  (args_any A1 A2 p1 p2 xs ys w (hs.each (ro A1 (ints xs)) (by simp)) (hs.each (ro A2 (ints ys)) (by simp)) hl).mono fun _ _ ⟨h1, h2⟩ => ⟨_, _, h1, rfl, (Post.refl hs).ext h2⟩
theorem awake_fn : Does Try.prog 11 [] [] (fun v' _ => v' = .bool true) := Does.pure awake_any
theorem item_fn (x : En) (hs : 0 ≤ x.s ∧ x.s < 256) : Does Try.prog 24 [.agg x.rcells.toArray] [] (fun v' _ => v' = .agg x.icells.toArray) := Does.pure fun w => item_any _ _ _ _ _ _ _ _ _ _ w hs
theorem add_fn (a : Nat) (v : Value) (L : List En) (x : En) (hlen : L.length ≤ 100000000) (hal : x.args.length ≤ 1000000000000) (hv : validE x.t x.s x.c x.p x.n x.k x.h = true) :
    Does Try.prog 18 [.pointer (some ⟨a, 0, none⟩), .int .i64 x.t, .agg x.icells.toArray] [agc a v L, ro x.A (ints x.args)] (fun u Γ' => ∃ A cap v', u = .int .i64 0 ∧ Γ' = [agc a v' (insE { x with A := A, cap := cap } L)]) := fun w hs => by
  have hA : Ag w 0 a v L := hs.each (agc a v L) (by simp)
  refine (add_yes 0 a v L x w hA (Nat.zero_le _) hlen (hs.each (ro x.A (ints x.args)) (by simp)) hal hv).mono ?_
  rintro e w' ⟨rfl, A, cap, v', h2, h3, h4, h5⟩
  have hn := agc_nodup h2
  refine ⟨_, _, rfl, ⟨A, cap, v', rfl, rfl⟩, post_one h2 hn.1 hn.2 (h3.mono fun g _ hg => mem_owns.2 ⟨_, by simp, own_owns (L := L) |>.1 hg⟩) ?_ ?_⟩
  · intro g hg hl
    refine mem_owns.2 ⟨agc a v L, by simp, ?_⟩
    rcases List.mem_cons.1 hg with rfl | h
    · simp [agc]
    · have hg2 : v'.ownBlock = some g := by simpa using h
      rcases h4 with h4 | ⟨g', h4, h6⟩
      · rw [h4] at hg2; simp [agc, hg2]
      · rw [h4] at hg2; simp at hg2; omega
  · intro g hg hl
    refine .inr (mem_reads.2 ⟨agc a v L, by simp, ?_⟩)
    obtain ⟨e, he, hg⟩ := List.mem_flatMap.1 hg
    rcases List.mem_cons.1 ((insE_perm _ L).mem_iff.1 he) with rfl | h
    · have := h5 g (ownBlock_blks.2 hg); omega
    · exact List.mem_flatMap.2 ⟨e, h, hg⟩
theorem take_fn (a : Nat) (v : Value) (L : List En) (tick comp : Int) (hlen : L.length ≤ 100000000) (hal : ∀ e ∈ L, e.args.length ≤ 1000000000000) :
    Does Try.prog 13 [.pointer (some ⟨a, 0, none⟩), .int .i64 tick, .int .i64 comp] [agc a v L] (fun u Γ' => ∃ A cap M v', u = .slice A M.length cap ∧ Γ' = [agc a v' (L.filter fun x => !inTake comp tick x), rows En.icells 35 7 A cap M, argsO M] ∧ M.map En.bare = (L.filter (inTake comp tick)).map En.bare) := fun w hs => by
  have hA : Ag w 0 a v L := hs.each (agc a v L) (by simp)
  refine (take_any 0 a v L tick comp w hA (Nat.zero_le _) hlen hal).mono ?_
  rintro e w' ⟨u, M, v', rfl, hI, hM, h2, h3, h4⟩
  obtain ⟨A, cap, rfl, _⟩ := own_form hI.row
  have hn := agc_nodup h2
  have e1 : (rows En.icells 35 7 A cap M).holds w' := hI.row.mono (Nat.zero_le _)
  have e2 : (argsO M).holds w' := fun e he => World.ownsRow.mono (hI.args e he) (Nat.zero_le _)
  have f1 : ∀ g ∈ blks A, w.heap.size ≤ g := fun g hg => (hI.row.lt g (ownBlock_blks.2 hg)).1
  have f2 : ∀ g ∈ (argsO M).reads, w.heap.size ≤ g := fun g hg => by
    obtain ⟨e, he, hg⟩ := List.mem_flatMap.1 hg
    exact ((hI.args e he).lt g (ownBlock_blks.2 hg)).1
  have f3 : ∀ g ∈ (argsO M).reads, g ∉ blks A := fun g hg h => by
    obtain ⟨e, he, hg⟩ := List.mem_flatMap.1 hg
    exact own_type_ne (hI.args e he) hI.row (by decide) g (ownBlock_blks.2 hg) (ownBlock_blks.2 h)
  have o1 : ∀ g ∈ (agc a v' (L.filter fun x => !inTake comp tick x)).owns, g ∈ (agc a v L).owns := fun g hg => by
    rcases List.mem_cons.1 hg with rfl | h
    · simp [agc]
    · rw [h4] at h; simp [agc]; simp at h; exact .inr h
  have r1 : ∀ g ∈ (agc a v' (L.filter fun x => !inTake comp tick x)).reads, g ∈ (agc a v L).reads := fun g hg => by
    obtain ⟨e, he, hg⟩ := List.mem_flatMap.1 hg
    exact List.mem_flatMap.2 ⟨e, (List.mem_filter.1 he).1, hg⟩
  have lt1 : ∀ g ∈ (agc a v L).owns, g < w.heap.size := fun g hg => (agc a v L).lt w hA g (.inl hg)
  have lt2 : ∀ g ∈ (agc a v L).reads, g < w.heap.size := fun g hg => (agc a v L).lt w hA g (.inr hg)
  refine ⟨_, _, rfl, ⟨A, cap, M, v', rfl, rfl, hM⟩, ⟨⟨?_, ?_, ?_⟩, ?_, ?_, ?_⟩⟩
  · intro c hc
    simp only [List.mem_cons, List.not_mem_nil, or_false] at hc
    rcases hc with rfl | rfl | rfl
    · exact h2
    · exact e1
    · exact e2
  · have : owns [agc a v' (L.filter fun x => !inTake comp tick x), rows En.icells 35 7 A cap M, argsO M] = (agc a v' (L.filter fun x => !inTake comp tick x)).owns ++ blks A := by simp [owns, rows, row, argsO]
    rw [this]
    refine List.nodup_append.2 ⟨hn.1, by cases A <;> simp [blks], fun g hg g' hg' e => ?_⟩
    have := lt1 g (o1 g hg); have := f1 g' hg'; omega
  · intro g hg hg'
    obtain ⟨c, hc, hgc⟩ := mem_reads.1 hg
    obtain ⟨d, hd, hgd⟩ := mem_owns.1 hg'
    simp only [List.mem_cons, List.not_mem_nil, or_false] at hc hd
    rcases hc with rfl | rfl | rfl
    · rcases hd with rfl | rfl | rfl
      · exact hn.2 g hgc hgd
      · have := lt2 g (r1 g hgc); have := f1 g hgd; omega
      · simp [argsO] at hgd
    · simp [rows, row] at hgc
    · rcases hd with rfl | rfl | rfl
      · have := lt1 g (o1 g hgd); have := f2 g hgc; omega
      · exact f3 g hgc hgd
      · simp [argsO] at hgd
  · exact h3.mono fun g _ hg => mem_owns.2 ⟨_, by simp, own_owns (L := L) |>.1 hg⟩
  · intro g hg hl
    obtain ⟨d, hd, hgd⟩ := mem_owns.1 hg
    simp only [List.mem_cons, List.not_mem_nil, or_false] at hd
    rcases hd with rfl | rfl | rfl
    · exact mem_owns.2 ⟨_, by simp, o1 g hgd⟩
    · have := f1 g hgd; omega
    · simp [argsO] at hgd
  · intro g hg hl
    obtain ⟨c, hc, hgc⟩ := mem_reads.1 hg
    simp only [List.mem_cons, List.not_mem_nil, or_false] at hc
    rcases hc with rfl | rfl | rfl
    · exact .inr (mem_reads.2 ⟨_, by simp, r1 g hgc⟩)
    · simp [rows, row] at hgc
    · have := f2 g hgc; omega
theorem oks_args {Γ : List Chunk} {M : List En} {e : En} (i : Nat) (h : Γ[i]? = some (argsO M)) (he : e ∈ M) : ∀ w, oks Γ w → (ro e.A (ints e.args)).holds w := fun w hw => by
  obtain ⟨A', cap', h1, h2, _⟩ := own_form (show ArgsOk w 0 e from hw _ (List.mem_of_getElem? h) e he)
  simp only [Value.slice.injEq] at h1
  show Src w e.A (ints e.args)
  rw [h1.1]; exact h2
end Go.Proofs.Ytnamppkicefbjaa
