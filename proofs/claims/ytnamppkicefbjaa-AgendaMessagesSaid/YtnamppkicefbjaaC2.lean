/- The walks of the agenda's Cancel and of AgendaCancels. Own text (walks printed by sx.py). -/
import Derived.Test.YtnamppkicefbjaaC1
import Derived.Test.YtnamppkicefbjaaO1
namespace Go.Proofs.Ytnamppkicefbjaa
open Go.RowKit Go.Flow Go.Mem Go.Sep
theorem agc_open {C : Cx} {ρ : Slots} {K : Act → World → Prop} {Δ : List Chunk} {a : Nat} {v : Value} {L : List En} (k : ∀ A cap, v = .slice A L.length cap → L.length ≤ cap ∧ SortedE L → To C ρ (box a [.slice A L.length cap] 85 :: rows En.cells 82 8 A cap L :: argsO L :: Δ) K) : To C ρ (agc a v L :: Δ) K := by
  refine To.openF (T := Option Addr × Nat) (Γ1 := [agc a v L]) (p := fun t => v = .slice t.1 L.length t.2 ∧ L.length ≤ t.2 ∧ SortedE L) (fun t => [box a [.slice t.1 L.length t.2] 85, rows En.cells 82 8 t.1 t.2 L, argsO L]) (fun w hs => ?_) (fun t ht => k t.1 t.2 ht.1 ht.2)
  have hA : Ag w 0 a v L := hs.each (agc a v L) (by simp)
  obtain ⟨A, cap, rfl, _, hnc, _⟩ := own_form hA.row
  refine ⟨(A, cap), ⟨rfl, hnc, hA.sorted⟩, Post.same hs ?_ ?_ ?_⟩
  · exact fun c hc => by
      simp only [List.mem_cons, List.not_mem_nil, or_false] at hc
      rcases hc with rfl | rfl | rfl
      · exact hA.blk
      · exact hA.row
      · exact hA.args
  · simp [owns, box, rows, row, argsO, agc]
    cases A <;> simp [blks, Value.ownBlock]
  · intro g hg; simpa [reads, box, rows, row, argsO, agc] using hg
theorem agc_close {C : Cx} {ρ : Slots} {K : Act → World → Prop} {Δ : List Chunk} {a : Nat} {A : Option Addr} {cap : Nat} {L : List En} (hs : SortedE L) (k : To C ρ (agc a (.slice A L.length cap) L :: Δ) K) : To C ρ (box a [.slice A L.length cap] 85 :: rows En.cells 82 8 A cap L :: argsO L :: Δ) K := by
  refine To.turnF (Γ1 := [box a [.slice A L.length cap] 85, rows En.cells 82 8 A cap L, argsO L]) [agc a (.slice A L.length cap) L] (fun w hq => Post.same hq ?_ ?_ ?_) k
  · intro c hc
    rw [List.mem_singleton.1 hc]
    exact ⟨hq.each (box a [.slice A L.length cap] 85) (by simp), Nat.zero_le _, hq.each (rows En.cells 82 8 A cap L) (by simp), hq.each (argsO L) (by simp), hs⟩
  · simp [owns, box, rows, row, argsO, agc]
    cases A <;> simp [blks, Value.ownBlock]
  · intro g hg; simpa [reads, box, rows, row, argsO, agc] using hg
theorem argsO_sub {Γ : List Chunk} {M N : List En} (i : Nat) (hi : Γ[i]? = some (argsO M)) (h : ∀ e ∈ N, e ∈ M) : (∀ w, oks Γ w → (argsO N).holds w) ∧ ∀ g ∈ (argsO N).reads, g ∈ reads Γ :=
  ⟨fun w hw e he => hw _ (List.mem_of_getElem? hi) e (h e he), fun g hg => by
    obtain ⟨e, he, hg2⟩ := List.mem_flatMap.1 hg
    exact reads_at i hi (List.mem_flatMap.2 ⟨e, h e he, hg2⟩)⟩
theorem oks_OS {Γ : List Chunk} {M : List En} (i : Nat) (hi : Γ[i]? = some (argsO M)) : ∀ w, oks Γ w → (argsS (M.map En.ar)).holds w := fun w hw p hp => by
  obtain ⟨e, he, rfl⟩ := List.mem_map.1 hp
  exact oks_args i hi he w hw
theorem oks_SS {Γ : List Chunk} {l N : List En} (i : Nat) (hi : Γ[i]? = some (argsS (l.map En.ar))) (h : ∀ e ∈ N, e ∈ l) : ∀ w, oks Γ w → (argsS (N.map En.ar)).holds w := fun w hw p hp => by
  obtain ⟨e, he, rfl⟩ := List.mem_map.1 hp
  exact hw _ (List.mem_of_getElem? hi) _ (List.mem_map.2 ⟨e, h e he, rfl⟩)
theorem cancel_num {L : List En} {comp : Int} : ((L.length : Nat) : Int) - ((L.filter fun x => !isTimer comp x).length : Nat) = ((L.filter (isTimer comp)).length : Nat) := by have := filter_len (isTimer comp) L; omega
set_option maxHeartbeats 2000000 in
set_option maxRecDepth 100000 in
theorem cancel_fn (a : Nat) (v : Value) (L : List En) (comp : Int) (hl : L.length ≤ 1000000) :
    Does Try.prog 22 [.pointer (some ⟨a, 0, none⟩), .int .i64 comp] [agc a v L] (fun u Γ' => ∃ v', u = .int .i64 ((L.filter (isTimer comp)).length : Nat) ∧ Γ' = [agc a v' (L.filter fun x => !isTimer comp x)]) := by
  have hfl := List.length_filter_le (fun x => !isTimer comp x) L
  refine Does.enter Try.func22 rfl Try.ntmps22 rfl (fun w0 => ?_)
  refine To.seq ?_
  refine To.reg ?_
  refine To.boxed rfl rfl rfl rfl rfl rfl (fun b3 => ?_)
  refine To.rd rfl rfl rfl (Rd.assign rfl rfl) ?_
  refine To.nil ?_
  refine To.thenN ?_
  refine To.seq ?_
  refine To.seq ?_
  refine To.reg ?_
  refine To.rd rfl rfl rfl (Rd.move rfl rfl) ?_
  refine To.rd rfl rfl rfl (Rd.eqlNil rfl Try.underlying24 rfl rfl) ?_
  refine To.nil ?_
  refine To.thenN ?_
  refine To.condF rfl ?_
  refine To.skip ?_
  refine To.thenN ?_
  refine To.seq ?_
  refine To.front 1 rfl ?_
  refine agc_open (fun A cap hv hcs => ?_)
  refine To.reg ?_
  refine To.rd rfl rfl rfl (Rd.move rfl rfl) ?_
  refine To.rd rfl rfl rfl (Rd.nilCheck rfl rfl) ?_
  refine To.rd rfl rfl rfl (Rd.field rfl rfl fl85_0) ?_
  refine To.rd rfl rfl rfl (Rd.load (i := 0) rfl rfl c83 rfl (box_gives1 rfl)) ?_
  refine To.rd rfl rfl rfl (Rd.len rfl rfl Try.underlying83) ?_
  refine To.rd rfl rfl rfl (Rd.assign rfl rfl) ?_
  refine To.nil ?_
  refine To.thenN ?_
  refine To.seq ?_
  refine To.front 3 rfl ?_
  refine To.layBox ?_
  refine To.reg ?_
  refine To.rd rfl rfl rfl (Rd.move rfl rfl) ?_
  refine To.rd rfl rfl rfl (Rd.move rfl rfl) ?_
  refine To.rd rfl rfl rfl (Rd.nilCheck rfl rfl) ?_
  refine To.rd rfl rfl rfl (Rd.field rfl rfl fl85_0) ?_
  refine To.rd rfl rfl rfl (Rd.load (i := 1) rfl rfl c83 rfl (box_gives1 rfl)) ?_
  refine To.rd rfl rfl rfl (Rd.makeFunc rfl rfl rfl) ?_
  refine To.call [2, 0] rfl rfl rfl (Ent.fn rfl rfl ca43) rfl (delete_fn A cap L b3 comp (by omega) hcs.1) ?_
  rintro _ _ ⟨rfl, rfl⟩
  refine To.as [rows En.cells 82 8 A cap (L.filter fun x => !isTimer comp x), box a [.slice A L.length cap] 85, argsO L] rfl ?_
  refine To.rd rfl rfl rfl (Rd.nilCheck rfl rfl) ?_
  refine To.rd rfl rfl rfl (Rd.field rfl rfl fl85_0) ?_
  refine To.up rfl rfl (Up.store (i := 1) rfl rfl rfl c83 rfl rfl (box_takesAll rfl)) ?_
  refine To.nil ?_
  refine To.thenN ?_
  refine To.seq ?_
  refine To.reg ?_
  refine To.rd rfl rfl rfl (Rd.move rfl rfl) ?_
  refine To.rd rfl rfl rfl (Rd.move rfl rfl) ?_
  refine To.rd rfl rfl rfl (Rd.nilCheck rfl rfl) ?_
  refine To.rd rfl rfl rfl (Rd.field rfl rfl fl85_0) ?_
  refine To.rd rfl rfl rfl (Rd.load (i := 1) rfl rfl c83 rfl (box_gives1 rfl)) ?_
  refine To.rd rfl rfl rfl (Rd.len rfl rfl Try.underlying83) ?_
  refine To.rd rfl rfl rfl (Rd.sub64 rfl rfl rfl (by omega)) ?_
  refine To.rd rfl rfl rfl (Rd.assign rfl rfl) ?_
  refine To.nil ?_
  refine To.thenN ?_
  refine To.ret ?_
  refine To.derive (argsO (L.filter fun x => !isTimer comp x)) rfl (argsO_sub 2 rfl (fun e he => (List.mem_filter.1 he).1)).2 (argsO_sub 2 rfl (fun e he => (List.mem_filter.1 he).1)).1 ?_
  refine To.only [2, 1, 0] rfl ?_
  refine agc_close (hcs.2.filter _) ?_
  refine To.end1 (.inl rfl) Try.results22 rfl ?_
  rw [cancel_num]
  exact ⟨_, rfl, rfl⟩
end Go.Proofs.Ytnamppkicefbjaa
