/- The search: what is ready, the least, push, pop. Own text (walks printed by sx.py). -/
import Derived.Test.YtneimfacccgaeaaV32
import Derived.Test.YtneimfacccgaeaaL5
namespace Go.Proofs.Ytneimfacccgaeaa
open Go.RowKit Go.Flow Go.Mem Go.Sep
structure Sn where
  A : Option Addr
  cap : Nat
  l : List Nat
def Sn.cells (s : Sn) : List Value := [.slice s.A s.l.length s.cap]
theorem encSn : Enc Sn.cells 1 := ⟨fun _ => rfl, fun s u hu => by simp [Sn.cells] at hu; subst hu; rfl⟩
def Sn.ar (s : Sn) : Option Addr × List Nat := (s.A, s.l)
def encT (b : Bool) : List Value := [.bool b]
theorem encT_ok : Enc encT 1 := ⟨fun _ => rfl, fun x u hu => by simp [encT] at hu; subst hu; rfl⟩
/-- Lists of numbers that only are read. -/
def natsS (l : List (Option Addr × List Nat)) : Chunk where
  owns := []
  reads := l.flatMap fun p => (ros encM p.1 p.2).reads
  holds w := ∀ p ∈ l, (ros encM p.1 p.2).holds w
  loc w w' h hw p hp := (ros encM p.1 p.2).loc w w' (fun g hg => h g (.inr (List.mem_flatMap.2 ⟨p, hp, by simpa [ros, ro] using hg⟩))) (hw p hp)
  lt w hw g hg := by
    simp only [List.not_mem_nil, false_or] at hg
    obtain ⟨p, hp, hg⟩ := List.mem_flatMap.1 hg
    exact (ros encM p.1 p.2).lt w (hw p hp) g (.inr hg)
theorem natsS_at {Γ : List Chunk} {l : List (Option Addr × List Nat)} (j : Nat) (hj : Γ[j]? = some (natsS l)) {A : Option Addr} {xs : List Nat} (hp : (A, xs) ∈ l) : (∀ g ∈ (ros encM A xs).reads, g ∈ reads Γ) ∧ (∀ w, oks Γ w → (ros encM A xs).holds w) :=
  ⟨fun _ hg => mem_reads.2 ⟨_, List.mem_of_getElem? hj, List.mem_flatMap.2 ⟨_, hp, hg⟩⟩, fun _ hw => hw _ (List.mem_of_getElem? hj) _ hp⟩
theorem natsS_sub {Γ : List Chunk} {l m : List (Option Addr × List Nat)} (j : Nat) (hj : Γ[j]? = some (natsS l)) (h : ∀ p ∈ m, p ∈ l) : (∀ g ∈ (natsS m).reads, g ∈ reads Γ) ∧ (∀ w, oks Γ w → (natsS m).holds w) :=
  ⟨fun _ hg => by
    obtain ⟨p, hp, hg⟩ := List.mem_flatMap.1 hg
    exact mem_reads.2 ⟨_, List.mem_of_getElem? hj, List.mem_flatMap.2 ⟨p, h p hp, hg⟩⟩, fun _ hw p hp => hw _ (List.mem_of_getElem? hj) p (h p hp)⟩
theorem natsS_add {Γ : List Chunk} {A : Option Addr} {xs : List Nat} {l : List (Option Addr × List Nat)} (i j : Nat) (hi : Γ[i]? = some (ros encM A xs)) (hj : Γ[j]? = some (natsS l)) : (∀ g ∈ (natsS (l ++ [(A, xs)])).reads, g ∈ reads Γ) ∧ (∀ w, oks Γ w → (natsS (l ++ [(A, xs)])).holds w) :=
  ⟨fun g hg => by
    obtain ⟨p, hp, hg⟩ := List.mem_flatMap.1 hg
    rcases List.mem_append.1 hp with h | h
    · exact mem_reads.2 ⟨_, List.mem_of_getElem? hj, List.mem_flatMap.2 ⟨p, h, hg⟩⟩
    · rw [List.mem_singleton.1 h] at hg; exact mem_reads.2 ⟨_, List.mem_of_getElem? hi, hg⟩, fun w hw p hp => by
    rcases List.mem_append.1 hp with h | h
    · exact hw _ (List.mem_of_getElem? hj) p h
    · rw [List.mem_singleton.1 h]; exact hw _ (List.mem_of_getElem? hi)⟩
theorem afI_lt (l : List Ev) (p : Nat) : -1 ≤ afI l p ∧ afI l p < p ∨ afI l p = -1 := by
  unfold afI
  split
  · split
    · exact .inr rfl
    · rcases lastI_cases (ofR l (3 - _) _) p with ⟨e, _⟩ | ⟨k, e, hk, _⟩
      · exact .inr e
      · rw [e]; exact .inl (by omega)
  · exact .inr rfl
set_option maxHeartbeats 2000000 in
set_option maxRecDepth 100000 in
theorem ready_fn {l : List Ev} {ch : List Nat} {K : List Sn} {af : List Int} (D : SD l ch (K.map Sn.l) af) (hn : l.length ≤ 1000000) (bs bv : Nat) (Ac Ak Au At Af : Option Addr) (qc qk qu qt qf : Nat) (Ao : Option Addr) (qo : Nat) (u : List Nat) (p : Nat) (hp : p < l.length) :
    Does Try.prog 56 [.int .i64 ((p : Nat) : Int), .pointer (some ⟨bv, 0, none⟩)] [ro (some ⟨bv, 0, none⟩) [.pointer (some ⟨bs, 0, none⟩)], ro (some ⟨bs, 0, none⟩) [.slice Ao u.length qo, .slice Ac ch.length qc, .slice Ak K.length qk, .slice Au ((usedU (K.map Sn.l) u).length) qu, .slice At ((thereU l.length u).length) qt, .slice Af af.length qf, .func (.func 56) #[] #[.pointer (some ⟨bv, 0, none⟩)], .func (.func 57) #[] #[.pointer (some ⟨bv, 0, none⟩)]], ros encT At (thereU l.length u), ros encI Af af] (fun v _ => v = .bool (rdyU l u p)) := by
  have haf := D.af p hp
  have hlt := afI_lt l p
  refine Does.enter Try.func56 rfl Try.ntmps56 rfl (fun w0 => ?_)
  refine To.seq ?_
  refine To.reg ?_
  refine To.rd rfl rfl rfl (Rd.assign rfl rfl) ?_
  refine To.nil ?_
  refine To.thenN ?_
  refine To.seq ?_
  refine To.flow [ro (some ⟨bv, 0, none⟩) [.pointer (some ⟨bs, 0, none⟩)], ro (some ⟨bs, 0, none⟩) [.slice Ao u.length qo, .slice Ac ch.length qc, .slice Ak K.length qk, .slice Au ((usedU (K.map Sn.l) u).length) qu, .slice At ((thereU l.length u).length) qt, .slice Af af.length qf, .func (.func 56) #[] #[.pointer (some ⟨bv, 0, none⟩)], .func (.func 57) #[] #[.pointer (some ⟨bv, 0, none⟩)]], ros encT At (thereU l.length u), ros encI Af af] [⟨0, [], 0⟩, ⟨1, [], 0⟩, ⟨2, [], 0⟩, ⟨3, [], 0⟩, ⟨4, [], 0⟩, ⟨5, [], 0⟩, ⟨6, [], 0⟩, ⟨7, [], 0⟩, ⟨8, [], 0⟩, ⟨9, [], 0⟩, ⟨10, [], 0⟩, ⟨11, [], 0⟩, ⟨12, [], 0⟩, ⟨13, [], 0⟩, ⟨14, [], 0⟩, ⟨15, [], 0⟩, ⟨16, [], 0⟩, ⟨17, [], 0⟩, ⟨18, [], 0⟩, ⟨19, [], 0⟩, ⟨20, [], 0⟩, ⟨21, [], 0⟩, ⟨22, [], 0⟩, ⟨23, [], 0⟩] mixed (by kernel_rfl) (oks_cons (oks_at 0 rfl) (oks_cons (oks_at 1 rfl) (oks_cons (oks_at 2 rfl) (oks_cons (oks_at 3 rfl) (oks_nil _))))) ?_
  refine FlowS.free rfl rfl rfl rfl (Rd.load (i := 0) rfl rfl c73 rfl (ro_gives (A := some ⟨bv, 0, none⟩) (o := 0) (k := 1) rfl)) ?_
  refine FlowS.free rfl rfl rfl rfl (Rd.nilCheck rfl rfl) ?_
  refine FlowS.free rfl rfl rfl rfl (Rd.field rfl rfl fl79_5) ?_
  refine FlowS.free rfl rfl rfl rfl (Rd.load (i := 1) rfl rfl c62 rfl (ro_gives (A := some ⟨bs, 0, none⟩) (o := 5) (k := 1) rfl)) ?_
  refine FlowS.free rfl rfl rfl rfl (Rd.move rfl rfl) ?_
  refine FlowS.free rfl rfl rfl rfl (Rd.indexRos encI_ok (i := 3) (j := p) rfl rfl rfl s62 rfl haf) ?_
  refine FlowS.free rfl rfl rfl rfl (Rd.load (i := 3) rfl rfl c3 rfl (gives_1 (ros_gives encI_ok haf) rfl)) ?_
  refine FlowS.free rfl rfl rfl rfl (Rd.lss rfl rfl rfl) ?_
  refine FlowS.rdP rfl rfl rfl rfl (Rd.move rfl rfl) (fun g12 => ?_) (fun g12 => ?_)
  ·
    refine FlowS.skip (by decide) rfl rfl rfl rfl ?_
    refine FlowS.skip (by decide) rfl rfl rfl rfl ?_
    refine FlowS.skip (by decide) rfl rfl rfl rfl ?_
    refine FlowS.skip (by decide) rfl rfl rfl rfl ?_
    refine FlowS.skip (by decide) rfl rfl rfl rfl ?_
    refine FlowS.skip (by decide) rfl rfl rfl rfl ?_
    refine FlowS.skip (by decide) rfl rfl rfl rfl ?_
    refine FlowS.skip (by decide) rfl rfl rfl rfl ?_
    refine FlowS.skip (by decide) rfl rfl rfl rfl ?_
    refine FlowS.skip (by decide) rfl rfl rfl rfl ?_
    refine FlowS.skip (by decide) rfl rfl rfl rfl ?_
    refine FlowS.skip (by decide) rfl rfl rfl rfl ?_
    refine FlowS.skip (by decide) rfl rfl rfl rfl ?_
    refine FlowS.free rfl rfl rfl rfl (Rd.pickT rfl rfl rfl) ?_
    refine FlowS.free rfl rfl rfl rfl (Rd.assign rfl rfl) ?_
    refine FlowS.fin ?_
    refine To.as [ro (some ⟨bv, 0, none⟩) [.pointer (some ⟨bs, 0, none⟩)], ro (some ⟨bs, 0, none⟩) [.slice Ao u.length qo, .slice Ac ch.length qc, .slice Ak K.length qk, .slice Au ((usedU (K.map Sn.l) u).length) qu, .slice At ((thereU l.length u).length) qt, .slice Af af.length qf, .func (.func 56) #[] #[.pointer (some ⟨bv, 0, none⟩)], .func (.func 57) #[] #[.pointer (some ⟨bv, 0, none⟩)]], ros encT At (thereU l.length u), ros encI Af af] rfl ?_
    refine To.sub [(0, .int .i64 ((p : Nat) : Int)), (1, .pointer (some ⟨bv, 0, none⟩)), (3, .bool true)] ⟨rfl, rfl, rfl, trivial⟩ ?_
    refine To.thenN ?_
    refine To.ret ?_
    refine To.end1 (.inl rfl) Try.results56 rfl ?_
    simp [rdyU, g12]
  ·
    have hth : (thereU l.length u)[(afI l p).toNat]? = some (u.contains (afI l p).toNat) := there_at (by omega)
    refine FlowS.free rfl rfl rfl rfl (Rd.load (i := 0) rfl rfl c73 rfl (ro_gives (A := some ⟨bv, 0, none⟩) (o := 0) (k := 1) rfl)) ?_
    refine FlowS.free rfl rfl rfl rfl (Rd.nilCheck rfl rfl) ?_
    refine FlowS.free rfl rfl rfl rfl (Rd.field rfl rfl fl79_4) ?_
    refine FlowS.free rfl rfl rfl rfl (Rd.load (i := 1) rfl rfl c75 rfl (ro_gives (A := some ⟨bs, 0, none⟩) (o := 4) (k := 1) rfl)) ?_
    refine FlowS.free rfl rfl rfl rfl (Rd.load (i := 0) rfl rfl c73 rfl (ro_gives (A := some ⟨bv, 0, none⟩) (o := 0) (k := 1) rfl)) ?_
    refine FlowS.free rfl rfl rfl rfl (Rd.nilCheck rfl rfl) ?_
    refine FlowS.free rfl rfl rfl rfl (Rd.field rfl rfl fl79_5) ?_
    refine FlowS.free rfl rfl rfl rfl (Rd.load (i := 1) rfl rfl c62 rfl (ro_gives (A := some ⟨bs, 0, none⟩) (o := 5) (k := 1) rfl)) ?_
    refine FlowS.free rfl rfl rfl rfl (Rd.move rfl rfl) ?_
    refine FlowS.free rfl rfl rfl rfl (Rd.indexRos encI_ok (i := 3) (j := p) rfl rfl rfl s62 rfl haf) ?_
    refine FlowS.free rfl rfl rfl rfl (Rd.load (i := 3) rfl rfl c3 rfl (gives_1 (ros_gives encI_ok haf) rfl)) ?_
    refine FlowS.free rfl rfl rfl rfl (Rd.indexRosI encT_ok (i := 2) (j := ((afI l p).toNat)) rfl rfl rfl (by omega) s75 rfl hth) ?_
    refine FlowS.free rfl rfl rfl rfl (Rd.load (i := 2) rfl rfl c4 rfl (gives_1 (ros_gives encT_ok hth) rfl)) ?_
    refine FlowS.free rfl rfl rfl rfl (Rd.pickF rfl rfl rfl) ?_
    refine FlowS.free rfl rfl rfl rfl (Rd.assign rfl rfl) ?_
    refine FlowS.fin ?_
    refine To.as [ro (some ⟨bv, 0, none⟩) [.pointer (some ⟨bs, 0, none⟩)], ro (some ⟨bs, 0, none⟩) [.slice Ao u.length qo, .slice Ac ch.length qc, .slice Ak K.length qk, .slice Au ((usedU (K.map Sn.l) u).length) qu, .slice At ((thereU l.length u).length) qt, .slice Af af.length qf, .func (.func 56) #[] #[.pointer (some ⟨bv, 0, none⟩)], .func (.func 57) #[] #[.pointer (some ⟨bv, 0, none⟩)]], ros encT At (thereU l.length u), ros encI Af af] rfl ?_
    refine To.sub [(0, .int .i64 ((p : Nat) : Int)), (1, .pointer (some ⟨bv, 0, none⟩)), (3, .bool (u.contains (afI l p).toNat))] ⟨rfl, rfl, rfl, trivial⟩ ?_
    refine To.thenN ?_
    refine To.ret ?_
    refine To.end1 (.inl rfl) Try.results56 rfl ?_
    simp [rdyU, g12]
/-- The least so far, of the first k chains. -/
def Best (l : List Ev) (u : List Nat) (ch : List Nat) (p : Int) (k : Nat) (b : Int) : Prop :=
  (b = -1 ∧ ∀ q ∈ nxt l u, ∀ c, ch[q]? = some c → c < k → ¬ p < (q : Int)) ∨ (∃ q : Nat, b = q ∧ q ∈ nxt l u ∧ p < (q : Int) ∧ ∀ x ∈ nxt l u, ∀ c, ch[x]? = some c → c < k → p < (x : Int) → q ≤ x)
theorem Best.zero (l : List Ev) (u : List Nat) (ch : List Nat) (p : Int) : Best l u ch p 0 (-1) := .inl ⟨rfl, fun _ _ _ _ h => by omega⟩
section
variable {l : List Ev} {u ch : List Nat} {lk : List (List Nat)} {af : List Int} {p b : Int} {k : Nat}
theorem Best.skip (h : Best l u ch p k b) (hk : ∀ q ∈ nxt l u, ch[q]? = some k → p < (q : Int) → 0 ≤ b ∧ b ≤ q) : Best l u ch p (k + 1) b := by
  rcases h with ⟨h1, h2⟩ | ⟨q, h1, h2, h3, h4⟩
  · refine .inl ⟨h1, fun q hq c hc hlt => ?_⟩
    rcases Nat.lt_or_ge c k with h | h
    · exact h2 q hq c hc h
    · obtain rfl : c = k := by omega
      exact fun hp => by have := hk q hq hc hp; omega
  · refine .inr ⟨q, h1, h2, h3, fun x hx c hc hlt hp => ?_⟩
    rcases Nat.lt_or_ge c k with h | h
    · exact h4 x hx c hc h hp
    · obtain rfl : c = k := by omega
      have := hk x hx hc hp; omega
theorem Best.take (h : Best l u ch p k b) {m : Nat} (hm : m ∈ nxt l u) (hp : p < (m : Int)) (hb : b < 0 ∨ (m : Int) < b) (hk : ∀ q ∈ nxt l u, ch[q]? = some k → q = m) : Best l u ch p (k + 1) m := by
  refine .inr ⟨m, rfl, hm, hp, fun x hx c hc hlt hpx => ?_⟩
  rcases Nat.lt_or_ge c k with h5 | h5
  · rcases h with ⟨h1, h2⟩ | ⟨q, h1, h2, h3, h4⟩
    · exact (h2 x hx c hc h5 hpx).elim
    · have := h4 x hx c hc h5 hpx
      omega
  · obtain rfl : c = k := by omega
    rw [hk x hx hc]; exact Nat.le_refl _
theorem Best.lst (D : SD l ch lk af) (h : Best l u ch p lk.length b) : lst l u p = b := by
  have hc : ∀ x ∈ nxt l u, ∃ c, ch[x]? = some c ∧ c < lk.length := fun x hx => by
    have hlt : x < ch.length := by rw [D.chl]; exact (mem_nxt.1 hx).1
    exact ⟨_, List.getElem?_eq_getElem hlt, D.lt x _ (List.getElem?_eq_getElem hlt)⟩
  refine lst_eq ?_
  rcases h with ⟨h1, h2⟩ | ⟨q, h1, h2, h3, h4⟩
  · exact .inl ⟨h1, fun x hx => by obtain ⟨c, h5, h6⟩ := hc x hx; exact h2 x hx c h5 h6⟩
  · exact .inr ⟨q, h1, h2, h3, fun x hx => by obtain ⟨c, h5, h6⟩ := hc x hx; exact h4 x hx c h5 h6⟩
theorem Best.lt (h : Best l u ch p k b) : -1 ≤ b ∧ b < l.length ∨ b = -1 := by
  rcases h with ⟨h1, h2⟩ | ⟨q, h1, h2, h3, h4⟩
  · exact .inr h1
  · have := (mem_nxt.1 h2).1; exact .inl (by omega)
end
set_option maxHeartbeats 2000000 in
set_option maxRecDepth 100000 in
theorem least_fn {l : List Ev} {ch : List Nat} {K : List Sn} {af : List Int} (D : SD l ch (K.map Sn.l) af) (hn : l.length ≤ 1000000) (bs bv : Nat) (Ac Ak Au At Af : Option Addr) (qc qk qu qt qf : Nat) (Ao : Option Addr) (qo : Nat) (u : List Nat) (hu : Rch l u) (a : Int) :
    Does Try.prog 57 [.int .i64 a, .pointer (some ⟨bv, 0, none⟩)] [ro (some ⟨bv, 0, none⟩) [.pointer (some ⟨bs, 0, none⟩)], ro (some ⟨bs, 0, none⟩) [.slice Ao u.length qo, .slice Ac ch.length qc, .slice Ak K.length qk, .slice Au ((usedU (K.map Sn.l) u).length) qu, .slice At ((thereU l.length u).length) qt, .slice Af af.length qf, .func (.func 56) #[] #[.pointer (some ⟨bv, 0, none⟩)], .func (.func 57) #[] #[.pointer (some ⟨bv, 0, none⟩)]], ros encM Au (usedU (K.map Sn.l) u), ros Sn.cells Ak K, natsS (K.map Sn.ar), ros encT At (thereU l.length u), ros encI Af af] (fun v _ => v = .int .i64 (lst l u a)) := by
  have hKl : (usedU (K.map Sn.l) u).length = K.length := by rw [used_len, List.length_map]
  have hKn : K.length ≤ 1000000 := by have := D.le; rw [List.length_map] at this; omega
  refine Does.enter Try.func57 rfl Try.ntmps57 rfl (fun w0 => ?_)
  refine To.seq ?_
  refine To.reg ?_
  refine To.rd rfl rfl rfl (Rd.assign rfl rfl) ?_
  refine To.nil ?_
  refine To.thenN ?_
  refine To.seq ?_
  refine To.reg ?_
  refine To.rd rfl rfl rfl (Rd.assign rfl rfl) ?_
  refine To.nil ?_
  refine To.thenN ?_
  refine To.seq ?_
  refine To.seq ?_
  refine To.reg ?_
  refine To.rd rfl rfl rfl (Rd.load (i := 0) rfl rfl c73 rfl (ro_gives (A := some ⟨bv, 0, none⟩) (o := 0) (k := 1) rfl)) ?_
  refine To.rd rfl rfl rfl (Rd.nilCheck rfl rfl) ?_
  refine To.rd rfl rfl rfl (Rd.field rfl rfl fl79_3) ?_
  refine To.rd rfl rfl rfl (Rd.load (i := 1) rfl rfl c62 rfl (ro_gives (A := some ⟨bs, 0, none⟩) (o := 3) (k := 1) rfl)) ?_
  refine To.rd rfl rfl rfl (Rd.len rfl rfl Try.underlying62) ?_
  refine To.rd rfl rfl rfl (Rd.move rfl rfl) ?_
  refine To.nil ?_
  refine To.thenN ?_
  refine To.block ?_
  refine To.sub [(0, .int .i64 a), (1, .pointer (some ⟨bv, 0, none⟩)), (4, .int .i64 (-1)), (11, .slice Au ((usedU (K.map Sn.l) u).length) qu), (12, .int .i64 (((usedU (K.map Sn.l) u).length : Nat) : Int)), (13, .int .i64 ((0 : Nat) : Int))] ⟨rfl, rfl, rfl, rfl, rfl, rfl, trivial⟩ ?_
  refine To.only [0, 0, 0, 0, 0, 0, 0] rfl ?_
  refine To.loop (fun mz ρ Γ => ∃ (k : Nat) (b : Int), ρ = [(0, .int .i64 a), (1, .pointer (some ⟨bv, 0, none⟩)), (4, .int .i64 b), (11, .slice Au ((usedU (K.map Sn.l) u).length) qu), (12, .int .i64 (((usedU (K.map Sn.l) u).length : Nat) : Int)), (13, .int .i64 ((k : Nat) : Int))] ∧ Γ = [ro (some ⟨bv, 0, none⟩) [.pointer (some ⟨bs, 0, none⟩)], ro (some ⟨bs, 0, none⟩) [.slice Ao u.length qo, .slice Ac ch.length qc, .slice Ak K.length qk, .slice Au ((usedU (K.map Sn.l) u).length) qu, .slice At ((thereU l.length u).length) qt, .slice Af af.length qf, .func (.func 56) #[] #[.pointer (some ⟨bv, 0, none⟩)], .func (.func 57) #[] #[.pointer (some ⟨bv, 0, none⟩)]], ros encM Au (usedU (K.map Sn.l) u), ros Sn.cells Ak K, natsS (K.map Sn.ar), ros encT At (thereU l.length u), ros encI Af af] ∧ mz = K.length - k ∧ (k ≤ K.length) ∧ (Best l u ch a k b)) (K.length - 0) ⟨0, (-1), rfl, rfl, rfl, (Nat.zero_le _), (Best.zero l u ch a)⟩ ?_
  rintro mz _ _ ⟨k, b, rfl, rfl, rfl, hk, hB⟩
  refine To.seq ?_
  refine To.reg ?_
  refine To.rd rfl rfl rfl (Rd.lss rfl rfl rfl) ?_
  refine To.nil ?_
  refine To.thenN ?_
  refine To.seq ?_
  refine To.condP rfl (fun c14 => ?_) (fun c14 => ?_)
  ·
    obtain ⟨x, hx⟩ : ∃ z0, K[k]? = some z0 := ⟨K[k]'(by omega), List.getElem?_eq_getElem _⟩
    have hL : (K.map Sn.l)[k]? = some x.l := by simp [hx]
    obtain ⟨m, hm⟩ : ∃ m, m = (x.l.filter fun i => u.contains i).length := ⟨_, rfl⟩
    have hus : (usedU (K.map Sn.l) u)[k]? = some m := by rw [hm]; exact used_at hL
    have hml : m ≤ x.l.length := by rw [hm]; exact List.length_filter_le _ _
    refine To.derive (ros encM x.A x.l) rfl (natsS_at 4 rfl (List.mem_map.2 ⟨x, List.mem_of_getElem? hx, rfl⟩)).1 (natsS_at 4 rfl (List.mem_map.2 ⟨x, List.mem_of_getElem? hx, rfl⟩)).2 ?_
    refine To.skip ?_
    refine To.thenN ?_
    refine To.seq ?_
    refine To.block ?_
    refine To.seq ?_
    refine To.reg ?_
    refine To.rd rfl rfl rfl (Rd.move rfl rfl) ?_
    refine To.rd rfl rfl rfl (Rd.indexRos encM_ok (i := 3) (j := k) rfl rfl rfl s62 rfl hus) ?_
    refine To.rd rfl rfl rfl (Rd.load (i := 3) rfl rfl c3 rfl (gives_1 (ros_gives encM_ok hus) rfl)) ?_
    refine To.rd rfl rfl rfl (Rd.assign rfl rfl) ?_
    refine To.rd rfl rfl rfl (Rd.assign rfl rfl) ?_
    refine To.nil ?_
    refine To.thenN ?_
    refine To.seq ?_
    refine To.seq ?_
    refine To.reg ?_
    refine To.rd rfl rfl rfl (Rd.move rfl rfl) ?_
    refine To.rd rfl rfl rfl (Rd.load (i := 1) rfl rfl c73 rfl (ro_gives (A := some ⟨bv, 0, none⟩) (o := 0) (k := 1) rfl)) ?_
    refine To.rd rfl rfl rfl (Rd.nilCheck rfl rfl) ?_
    refine To.rd rfl rfl rfl (Rd.field rfl rfl fl79_2) ?_
    refine To.rd rfl rfl rfl (Rd.load (i := 2) rfl rfl c71 rfl (ro_gives (A := some ⟨bs, 0, none⟩) (o := 2) (k := 1) rfl)) ?_
    refine To.rd rfl rfl rfl (Rd.move rfl rfl) ?_
    refine To.rd rfl rfl rfl (Rd.indexRos encSn (i := 4) (j := k) rfl rfl rfl s71 rfl hx) ?_
    refine To.rd rfl rfl rfl (Rd.load (i := 4) rfl rfl c62 rfl (gives_1 (ros_gives encSn hx) rfl)) ?_
    refine To.rd rfl rfl rfl (Rd.len rfl rfl Try.underlying62) ?_
    refine To.rd rfl rfl rfl (Rd.eql rfl rfl rfl) ?_
    refine To.nil ?_
    refine To.thenN ?_
    refine To.condP rfl (fun c27 => ?_) (fun c27 => ?_)
    ·
      refine To.exit ?_
      refine To.thenX ?_
      refine To.blockX ?_
      refine To.thenN ?_
      refine To.reg ?_
      refine To.rd rfl rfl rfl (Rd.inc rfl rfl rfl (by omega)) ?_
      refine To.rd rfl rfl rfl (Rd.move rfl rfl) ?_
      refine To.nil ?_
      refine To.sub [(0, .int .i64 a), (1, .pointer (some ⟨bv, 0, none⟩)), (4, .int .i64 b), (11, .slice Au ((usedU (K.map Sn.l) u).length) qu), (12, .int .i64 (((usedU (K.map Sn.l) u).length : Nat) : Int)), (13, .int .i64 ((k + 1 : Nat) : Int)), (14, .bool (decide (((k : Nat) : Int) < (((usedU (K.map Sn.l) u).length : Nat) : Int)))), (5, .int .i64 ((k : Nat) : Int)), (6, .int .i64 ((m : Nat) : Int)), (27, .bool (decide (((m : Nat) : Int) = ((x.l.length : Nat) : Int))))] ⟨rfl, rfl, rfl, rfl, rfl, rfl, rfl, rfl, rfl, rfl, trivial⟩ ?_
      refine To.thenN ?_
      refine To.sub [(0, .int .i64 a), (1, .pointer (some ⟨bv, 0, none⟩)), (4, .int .i64 b), (11, .slice Au ((usedU (K.map Sn.l) u).length) qu), (12, .int .i64 (((usedU (K.map Sn.l) u).length : Nat) : Int)), (13, .int .i64 (((k + 1) : Nat) : Int))] ⟨rfl, rfl, rfl, rfl, rfl, rfl, trivial⟩ ?_
      refine To.only [1, 1, 1, 1, 1, 1, 1] rfl ?_
      refine To.again (K.length - (k + 1)) (by omega) ⟨k + 1, b, rfl, rfl, rfl, (by omega), (hB.skip fun q hq hc => absurd hc (D.none_ hL (by rw [← hm]; omega) hq))⟩
    ·
      obtain ⟨p, hp⟩ : ∃ z0, x.l[m]? = some z0 := ⟨x.l[m]'(by omega), List.getElem?_eq_getElem _⟩
      have hp2 : x.l[(x.l.filter fun i => u.contains i).length]? = some p := by rw [← hm]; exact hp
      have hpl : p < l.length := ((D.mem hL).1 (List.mem_of_getElem? hp)).1
      refine To.skip ?_
      refine To.thenN ?_
      refine To.seq ?_
      refine To.reg ?_
      refine To.rd rfl rfl rfl (Rd.load (i := 1) rfl rfl c73 rfl (ro_gives (A := some ⟨bv, 0, none⟩) (o := 0) (k := 1) rfl)) ?_
      refine To.rd rfl rfl rfl (Rd.nilCheck rfl rfl) ?_
      refine To.rd rfl rfl rfl (Rd.field rfl rfl fl79_2) ?_
      refine To.rd rfl rfl rfl (Rd.load (i := 2) rfl rfl c71 rfl (ro_gives (A := some ⟨bs, 0, none⟩) (o := 2) (k := 1) rfl)) ?_
      refine To.rd rfl rfl rfl (Rd.move rfl rfl) ?_
      refine To.rd rfl rfl rfl (Rd.indexRos encSn (i := 4) (j := k) rfl rfl rfl s71 rfl hx) ?_
      refine To.rd rfl rfl rfl (Rd.load (i := 4) rfl rfl c62 rfl (gives_1 (ros_gives encSn hx) rfl)) ?_
      refine To.rd rfl rfl rfl (Rd.move rfl rfl) ?_
      refine To.rd rfl rfl rfl (Rd.indexRos encM_ok (i := 0) (j := m) rfl rfl rfl s62 rfl hp) ?_
      refine To.rd rfl rfl rfl (Rd.load (i := 0) rfl rfl c3 rfl (gives_1 (ros_gives encM_ok hp) rfl)) ?_
      refine To.rd rfl rfl rfl (Rd.assign rfl rfl) ?_
      refine To.nil ?_
      refine To.sub [(0, .int .i64 a), (1, .pointer (some ⟨bv, 0, none⟩)), (4, .int .i64 b), (11, .slice Au ((usedU (K.map Sn.l) u).length) qu), (12, .int .i64 (((usedU (K.map Sn.l) u).length : Nat) : Int)), (13, .int .i64 ((k : Nat) : Int)), (14, .bool (decide (((k : Nat) : Int) < (((usedU (K.map Sn.l) u).length : Nat) : Int)))), (5, .int .i64 ((k : Nat) : Int)), (6, .int .i64 ((m : Nat) : Int)), (27, .bool (decide (((m : Nat) : Int) = ((x.l.length : Nat) : Int)))), (7, .int .i64 ((p : Nat) : Int))] ⟨rfl, rfl, rfl, rfl, rfl, rfl, rfl, rfl, rfl, rfl, rfl, trivial⟩ ?_
      refine To.thenN ?_
      refine To.seq ?_
      refine To.reg ?_
      refine To.rd rfl rfl rfl (Rd.move rfl rfl) ?_
      refine To.rd rfl rfl rfl (Rd.move rfl rfl) ?_
      refine To.rd rfl rfl rfl (Rd.gtr rfl rfl rfl) ?_
      refine To.rdP rfl rfl rfl (Rd.move rfl rfl) (fun g41 => ?_) (fun g41 => ?_)
      ·
        refine To.rd rfl rfl rfl (Rd.move rfl rfl) ?_
        refine To.rd rfl rfl rfl (Rd.lss rfl rfl rfl) ?_
        refine To.rdP rfl rfl rfl (Rd.move rfl rfl) (fun g44 => ?_) (fun g44 => ?_)
        ·
          refine To.sk rfl rfl rfl ?_
          refine To.sk rfl rfl rfl ?_
          refine To.sk rfl rfl rfl ?_
          refine To.rd rfl rfl rfl (Rd.pickT rfl rfl rfl) ?_
          refine To.rd rfl rfl rfl (Rd.pickT rfl rfl rfl) ?_
          refine To.rd rfl rfl rfl (Rd.move rfl rfl) ?_
          refine To.rd rfl rfl rfl (Rd.load (i := 1) rfl rfl c73 rfl (ro_gives (A := some ⟨bv, 0, none⟩) (o := 0) (k := 1) rfl)) ?_
          refine To.rd rfl rfl rfl (Rd.nilCheck rfl rfl) ?_
          refine To.rd rfl rfl rfl (Rd.field rfl rfl fl79_6) ?_
          refine To.rd rfl rfl rfl (Rd.load (i := 2) rfl rfl c76 rfl (ro_gives (A := some ⟨bs, 0, none⟩) (o := 6) (k := 1) rfl)) ?_
          refine To.rd rfl rfl rfl (Rd.move rfl rfl) ?_
          refine To.callV rfl rfl rfl (Ent.func (first := []) (captured := [.pointer (some ⟨bv, 0, none⟩)]) rfl rfl rfl ca56) (ready_fn D hn bs bv Ac Ak Au At Af qc qk qu qt qf Ao qo u p (by omega)) rfl (oks_cons (oks_at 1 rfl) (oks_cons (oks_at 2 rfl) (oks_cons (oks_at 6 rfl) (oks_cons (oks_at 7 rfl) (oks_nil _))))) ?_
          refine To.rd rfl rfl rfl (Rd.pickT rfl rfl rfl) ?_
          refine To.nil ?_
          refine To.sub [(0, .int .i64 a), (1, .pointer (some ⟨bv, 0, none⟩)), (4, .int .i64 b), (11, .slice Au ((usedU (K.map Sn.l) u).length) qu), (12, .int .i64 (((usedU (K.map Sn.l) u).length : Nat) : Int)), (13, .int .i64 ((k : Nat) : Int)), (14, .bool (decide (((k : Nat) : Int) < (((usedU (K.map Sn.l) u).length : Nat) : Int)))), (5, .int .i64 ((k : Nat) : Int)), (6, .int .i64 ((m : Nat) : Int)), (27, .bool (decide (((m : Nat) : Int) = ((x.l.length : Nat) : Int)))), (7, .int .i64 ((p : Nat) : Int)), (57, .bool (rdyU l u p))] ⟨rfl, rfl, rfl, rfl, rfl, rfl, rfl, rfl, rfl, rfl, rfl, rfl, trivial⟩ ?_
          refine To.thenN ?_
          refine To.cond rfl (fun c57 => ?_) (fun c57 => ?_)
          ·
            refine To.reg ?_
            refine To.rd rfl rfl rfl (Rd.move rfl rfl) ?_
            refine To.rd rfl rfl rfl (Rd.assign rfl rfl) ?_
            refine To.nil ?_
            refine To.blockN ?_
            refine To.thenN ?_
            refine To.reg ?_
            refine To.rd rfl rfl rfl (Rd.inc rfl rfl rfl (by omega)) ?_
            refine To.rd rfl rfl rfl (Rd.move rfl rfl) ?_
            refine To.nil ?_
            refine To.thenN ?_
            refine To.sub [(0, .int .i64 a), (1, .pointer (some ⟨bv, 0, none⟩)), (4, .int .i64 ((p : Nat) : Int)), (11, .slice Au ((usedU (K.map Sn.l) u).length) qu), (12, .int .i64 (((usedU (K.map Sn.l) u).length : Nat) : Int)), (13, .int .i64 (((k + 1) : Nat) : Int))] ⟨rfl, rfl, rfl, rfl, rfl, rfl, trivial⟩ ?_
            refine To.only [1, 1, 1, 1, 1, 1, 1] rfl ?_
            refine To.again (K.length - (k + 1)) (by omega) ⟨k + 1, ((p : Nat) : Int), rfl, rfl, rfl, (by omega), (hB.take ((D.ready hu hL hp2).2 c57) g41 (.inl g44) (fun q hq hc => D.head_only hu hL hp2 hq hc))⟩
          ·
            refine To.skip ?_
            refine To.blockN ?_
            refine To.thenN ?_
            refine To.reg ?_
            refine To.rd rfl rfl rfl (Rd.inc rfl rfl rfl (by omega)) ?_
            refine To.rd rfl rfl rfl (Rd.move rfl rfl) ?_
            refine To.nil ?_
            refine To.thenN ?_
            refine To.sub [(0, .int .i64 a), (1, .pointer (some ⟨bv, 0, none⟩)), (4, .int .i64 b), (11, .slice Au ((usedU (K.map Sn.l) u).length) qu), (12, .int .i64 (((usedU (K.map Sn.l) u).length : Nat) : Int)), (13, .int .i64 (((k + 1) : Nat) : Int))] ⟨rfl, rfl, rfl, rfl, rfl, rfl, trivial⟩ ?_
            refine To.only [1, 1, 1, 1, 1, 1, 1] rfl ?_
            refine To.again (K.length - (k + 1)) (by omega) ⟨k + 1, b, rfl, rfl, rfl, (by omega), (hB.skip fun q hq hc hpq => (by have := D.head_only hu hL hp2 hq hc; subst this; first | (constructor <;> omega) | exact absurd ((D.ready hu hL hp2).1 hq) (by simp [c57])))⟩
        ·
          refine To.rd rfl rfl rfl (Rd.move rfl rfl) ?_
          refine To.rd rfl rfl rfl (Rd.move rfl rfl) ?_
          refine To.rd rfl rfl rfl (Rd.lss rfl rfl rfl) ?_
          refine To.rd rfl rfl rfl (Rd.pickF rfl rfl rfl) ?_
          refine To.rd rfl rfl rfl (Rd.pickT rfl rfl rfl) ?_
          refine To.rdP rfl rfl rfl (Rd.move rfl rfl) (fun g50 => ?_) (fun g50 => ?_)
          ·
            refine To.rd rfl rfl rfl (Rd.load (i := 1) rfl rfl c73 rfl (ro_gives (A := some ⟨bv, 0, none⟩) (o := 0) (k := 1) rfl)) ?_
            refine To.rd rfl rfl rfl (Rd.nilCheck rfl rfl) ?_
            refine To.rd rfl rfl rfl (Rd.field rfl rfl fl79_6) ?_
            refine To.rd rfl rfl rfl (Rd.load (i := 2) rfl rfl c76 rfl (ro_gives (A := some ⟨bs, 0, none⟩) (o := 6) (k := 1) rfl)) ?_
            refine To.rd rfl rfl rfl (Rd.move rfl rfl) ?_
            refine To.callV rfl rfl rfl (Ent.func (first := []) (captured := [.pointer (some ⟨bv, 0, none⟩)]) rfl rfl rfl ca56) (ready_fn D hn bs bv Ac Ak Au At Af qc qk qu qt qf Ao qo u p (by omega)) rfl (oks_cons (oks_at 1 rfl) (oks_cons (oks_at 2 rfl) (oks_cons (oks_at 6 rfl) (oks_cons (oks_at 7 rfl) (oks_nil _))))) ?_
            refine To.rd rfl rfl rfl (Rd.pickT rfl rfl rfl) ?_
            refine To.nil ?_
            refine To.sub [(0, .int .i64 a), (1, .pointer (some ⟨bv, 0, none⟩)), (4, .int .i64 b), (11, .slice Au ((usedU (K.map Sn.l) u).length) qu), (12, .int .i64 (((usedU (K.map Sn.l) u).length : Nat) : Int)), (13, .int .i64 ((k : Nat) : Int)), (14, .bool (decide (((k : Nat) : Int) < (((usedU (K.map Sn.l) u).length : Nat) : Int)))), (5, .int .i64 ((k : Nat) : Int)), (6, .int .i64 ((m : Nat) : Int)), (27, .bool (decide (((m : Nat) : Int) = ((x.l.length : Nat) : Int)))), (7, .int .i64 ((p : Nat) : Int)), (57, .bool (rdyU l u p))] ⟨rfl, rfl, rfl, rfl, rfl, rfl, rfl, rfl, rfl, rfl, rfl, rfl, trivial⟩ ?_
            refine To.thenN ?_
            refine To.cond rfl (fun c57 => ?_) (fun c57 => ?_)
            ·
              refine To.reg ?_
              refine To.rd rfl rfl rfl (Rd.move rfl rfl) ?_
              refine To.rd rfl rfl rfl (Rd.assign rfl rfl) ?_
              refine To.nil ?_
              refine To.blockN ?_
              refine To.thenN ?_
              refine To.reg ?_
              refine To.rd rfl rfl rfl (Rd.inc rfl rfl rfl (by omega)) ?_
              refine To.rd rfl rfl rfl (Rd.move rfl rfl) ?_
              refine To.nil ?_
              refine To.thenN ?_
              refine To.sub [(0, .int .i64 a), (1, .pointer (some ⟨bv, 0, none⟩)), (4, .int .i64 ((p : Nat) : Int)), (11, .slice Au ((usedU (K.map Sn.l) u).length) qu), (12, .int .i64 (((usedU (K.map Sn.l) u).length : Nat) : Int)), (13, .int .i64 (((k + 1) : Nat) : Int))] ⟨rfl, rfl, rfl, rfl, rfl, rfl, trivial⟩ ?_
              refine To.only [1, 1, 1, 1, 1, 1, 1] rfl ?_
              refine To.again (K.length - (k + 1)) (by omega) ⟨k + 1, ((p : Nat) : Int), rfl, rfl, rfl, (by omega), (hB.take ((D.ready hu hL hp2).2 c57) g41 (.inr (by omega)) (fun q hq hc => D.head_only hu hL hp2 hq hc))⟩
            ·
              refine To.skip ?_
              refine To.blockN ?_
              refine To.thenN ?_
              refine To.reg ?_
              refine To.rd rfl rfl rfl (Rd.inc rfl rfl rfl (by omega)) ?_
              refine To.rd rfl rfl rfl (Rd.move rfl rfl) ?_
              refine To.nil ?_
              refine To.thenN ?_
              refine To.sub [(0, .int .i64 a), (1, .pointer (some ⟨bv, 0, none⟩)), (4, .int .i64 b), (11, .slice Au ((usedU (K.map Sn.l) u).length) qu), (12, .int .i64 (((usedU (K.map Sn.l) u).length : Nat) : Int)), (13, .int .i64 (((k + 1) : Nat) : Int))] ⟨rfl, rfl, rfl, rfl, rfl, rfl, trivial⟩ ?_
              refine To.only [1, 1, 1, 1, 1, 1, 1] rfl ?_
              refine To.again (K.length - (k + 1)) (by omega) ⟨k + 1, b, rfl, rfl, rfl, (by omega), (hB.skip fun q hq hc hpq => (by have := D.head_only hu hL hp2 hq hc; subst this; first | (constructor <;> omega) | exact absurd ((D.ready hu hL hp2).1 hq) (by simp [c57])))⟩
          ·
            refine To.sk rfl rfl rfl ?_
            refine To.sk rfl rfl rfl ?_
            refine To.sk rfl rfl rfl ?_
            refine To.sk rfl rfl rfl ?_
            refine To.sk rfl rfl rfl ?_
            refine To.sk rfl rfl rfl ?_
            refine To.rd rfl rfl rfl (Rd.pickF rfl rfl rfl) ?_
            refine To.nil ?_
            refine To.sub [(0, .int .i64 a), (1, .pointer (some ⟨bv, 0, none⟩)), (4, .int .i64 b), (11, .slice Au ((usedU (K.map Sn.l) u).length) qu), (12, .int .i64 (((usedU (K.map Sn.l) u).length : Nat) : Int)), (13, .int .i64 ((k : Nat) : Int)), (14, .bool (decide (((k : Nat) : Int) < (((usedU (K.map Sn.l) u).length : Nat) : Int)))), (5, .int .i64 ((k : Nat) : Int)), (6, .int .i64 ((m : Nat) : Int)), (27, .bool (decide (((m : Nat) : Int) = ((x.l.length : Nat) : Int)))), (7, .int .i64 ((p : Nat) : Int)), (57, .bool false)] ⟨rfl, rfl, rfl, rfl, rfl, rfl, rfl, rfl, rfl, rfl, rfl, rfl, trivial⟩ ?_
            refine To.thenN ?_
            refine To.condF rfl ?_
            refine To.skip ?_
            refine To.blockN ?_
            refine To.thenN ?_
            refine To.reg ?_
            refine To.rd rfl rfl rfl (Rd.inc rfl rfl rfl (by omega)) ?_
            refine To.rd rfl rfl rfl (Rd.move rfl rfl) ?_
            refine To.nil ?_
            refine To.thenN ?_
            refine To.sub [(0, .int .i64 a), (1, .pointer (some ⟨bv, 0, none⟩)), (4, .int .i64 b), (11, .slice Au ((usedU (K.map Sn.l) u).length) qu), (12, .int .i64 (((usedU (K.map Sn.l) u).length : Nat) : Int)), (13, .int .i64 (((k + 1) : Nat) : Int))] ⟨rfl, rfl, rfl, rfl, rfl, rfl, trivial⟩ ?_
            refine To.only [1, 1, 1, 1, 1, 1, 1] rfl ?_
            refine To.again (K.length - (k + 1)) (by omega) ⟨k + 1, b, rfl, rfl, rfl, (by omega), (hB.skip fun q hq hc hpq => (by have := D.head_only hu hL hp2 hq hc; subst this; first | (constructor <;> omega) | exact absurd ((D.ready hu hL hp2).1 hq) (by simp [c57])))⟩
      ·
        refine To.sk rfl rfl rfl ?_
        refine To.sk rfl rfl rfl ?_
        refine To.sk rfl rfl rfl ?_
        refine To.sk rfl rfl rfl ?_
        refine To.sk rfl rfl rfl ?_
        refine To.sk rfl rfl rfl ?_
        refine To.sk rfl rfl rfl ?_
        refine To.rd rfl rfl rfl (Rd.pickF rfl rfl rfl) ?_
        refine To.rd rfl rfl rfl (Rd.move rfl rfl) ?_
        refine To.sk rfl rfl rfl ?_
        refine To.sk rfl rfl rfl ?_
        refine To.sk rfl rfl rfl ?_
        refine To.sk rfl rfl rfl ?_
        refine To.sk rfl rfl rfl ?_
        refine To.sk rfl rfl rfl ?_
        refine To.rd rfl rfl rfl (Rd.pickF rfl rfl rfl) ?_
        refine To.nil ?_
        refine To.sub [(0, .int .i64 a), (1, .pointer (some ⟨bv, 0, none⟩)), (4, .int .i64 b), (11, .slice Au ((usedU (K.map Sn.l) u).length) qu), (12, .int .i64 (((usedU (K.map Sn.l) u).length : Nat) : Int)), (13, .int .i64 ((k : Nat) : Int)), (14, .bool (decide (((k : Nat) : Int) < (((usedU (K.map Sn.l) u).length : Nat) : Int)))), (5, .int .i64 ((k : Nat) : Int)), (6, .int .i64 ((m : Nat) : Int)), (27, .bool (decide (((m : Nat) : Int) = ((x.l.length : Nat) : Int)))), (7, .int .i64 ((p : Nat) : Int)), (57, .bool false)] ⟨rfl, rfl, rfl, rfl, rfl, rfl, rfl, rfl, rfl, rfl, rfl, rfl, trivial⟩ ?_
        refine To.thenN ?_
        refine To.condF rfl ?_
        refine To.skip ?_
        refine To.blockN ?_
        refine To.thenN ?_
        refine To.reg ?_
        refine To.rd rfl rfl rfl (Rd.inc rfl rfl rfl (by omega)) ?_
        refine To.rd rfl rfl rfl (Rd.move rfl rfl) ?_
        refine To.nil ?_
        refine To.thenN ?_
        refine To.sub [(0, .int .i64 a), (1, .pointer (some ⟨bv, 0, none⟩)), (4, .int .i64 b), (11, .slice Au ((usedU (K.map Sn.l) u).length) qu), (12, .int .i64 (((usedU (K.map Sn.l) u).length : Nat) : Int)), (13, .int .i64 (((k + 1) : Nat) : Int))] ⟨rfl, rfl, rfl, rfl, rfl, rfl, trivial⟩ ?_
        refine To.only [1, 1, 1, 1, 1, 1, 1] rfl ?_
        refine To.again (K.length - (k + 1)) (by omega) ⟨k + 1, b, rfl, rfl, rfl, (by omega), (hB.skip fun q hq hc hpq => (by have := D.head_only hu hL hp2 hq hc; subst this; exact absurd hpq g41))⟩
  ·
    refine To.exit ?_
    refine To.thenX ?_
    refine To.thenX ?_
    refine To.blockX ?_
    refine To.thenN ?_
    refine To.seq ?_
    refine To.reg ?_
    refine To.rd rfl rfl rfl (Rd.move rfl rfl) ?_
    refine To.rd rfl rfl rfl (Rd.assign rfl rfl) ?_
    refine To.nil ?_
    refine To.thenN ?_
    refine To.ret ?_
    refine To.end1 (.inl rfl) Try.results57 rfl ?_
    have e : k = (K.map Sn.l).length := by rw [List.length_map]; omega
    rw [e] at hB
    rw [hB.lst D]
end Go.Proofs.Ytneimfacccgaeaa
