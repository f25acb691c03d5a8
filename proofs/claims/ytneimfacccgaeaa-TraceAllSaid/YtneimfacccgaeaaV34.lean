/- The search: push and pop. Own text (walks printed by sx.py). -/
import Derived.Test.YtneimfacccgaeaaV33
namespace Go.Proofs.Ytneimfacccgaeaa
open Go.RowKit Go.Flow Go.Mem Go.Sep
theorem rows_caps {Γ : List Chunk} {w : World} {α : Type} {enc : α → List Value} {e : TypeId} {size : Nat} {A : Option Addr} {cap : Nat} {l : List α} (i : Nat) (h : Γ[i]? = some (rows enc e size A cap l)) (hs : sat Γ w) : l.length ≤ cap := by
  obtain ⟨A', cap', h1, _, h2, _⟩ := own_form (show w.ownsRow 0 e size (.slice A l.length cap) l.length _ from hs.each _ (List.mem_of_getElem? h))
  simp only [Value.slice.injEq] at h1
  omega
theorem To.dropLast {C : Cx} {ρ : Slots} {Γ : List Chunk} {K : Act → World → Prop} {α : Type} {enc : α → List Value} {size : Nat} (E : Enc enc size) {e : TypeId} {cap : Nat} {A : Option Addr} {u : List α} {p : α} (k : To C ρ (rows enc e size A cap u :: Γ) K) : To C ρ (rows enc e size A cap (u ++ [p]) :: Γ) K := by
  refine To.turn (rows enc e size A cap u :: Γ) (fun w hs => Post.frame (Γ := [rows enc e size A cap (u ++ [p])]) (Γ' := [rows enc e size A cap u]) hs ⟨⟨fun c hc => ?_, ?_, ?_⟩, Keeps.refl _ _, fun g hg _ => ?_, fun g hg => ?_⟩) k
  · rw [List.mem_singleton.1 hc]
    have hrow : w.ownsRow 0 e size (.slice A (u ++ [p]).length cap) (u ++ [p]).length ((u ++ [p]).flatMap enc) := hs.each _ (List.mem_cons_self ..)
    have hA := own_some hrow (by simp)
    rw [hA] at hrow
    have h10 := own_shorter hrow u.length (by simp)
    have e2 : ((u ++ [p]).flatMap enc).take (u.length * size) = u.flatMap enc := by
      rw [List.flatMap_append, ← E.flat_len u, List.take_left]
    rw [e2, ← hA] at h10
    exact h10
  · have := hs.left (Γ := [_]) |>.nodup
    simpa [owns, rows, row] using this
  · intro g hg; simp [reads, rows, row] at hg
  · simpa [owns, rows, row] using hg
  · simp [reads, rows, row] at hg
set_option maxHeartbeats 2000000 in
set_option maxRecDepth 100000 in
theorem push_fn {l : List Ev} {ch : List Nat} {K : List Sn} {af : List Int} (D : SD l ch (K.map Sn.l) af) (hn : l.length ≤ 1000000) (bs bv : Nat) (Ac Ak Au At Af Ao : Option Addr) (qc qk qu qt qf qo : Nat) (u : List Nat) (p : Nat) (hp : p < l.length) (hpu : p ∉ u) (hul : u.length ≤ 1000000) :
    Does Try.prog 58 [.pointer (some ⟨bs, 0, none⟩), .int .i64 ((p : Nat) : Int)] [box bs [.slice Ao u.length qo, .slice Ac ch.length qc, .slice Ak K.length qk, .slice Au ((usedU (K.map Sn.l) u).length) qu, .slice At ((thereU l.length u).length) qt, .slice Af af.length qf, .func (.func 56) #[] #[.pointer (some ⟨bv, 0, none⟩)], .func (.func 57) #[] #[.pointer (some ⟨bv, 0, none⟩)]] 79, rows encM 3 1 Ao qo u, rows encM 3 1 Au qu (usedU (K.map Sn.l) u), rows encT 4 1 At qt (thereU l.length u), ros encM Ac ch] (fun v Γ' => v = .tuple #[] ∧ ∃ Ao' qo', Γ' = [box bs [.slice Ao' ((u ++ [p]).length) qo', .slice Ac ch.length qc, .slice Ak K.length qk, .slice Au ((usedU (K.map Sn.l) (u ++ [p])).length) qu, .slice At ((thereU l.length (u ++ [p])).length) qt, .slice Af af.length qf, .func (.func 56) #[] #[.pointer (some ⟨bv, 0, none⟩)], .func (.func 57) #[] #[.pointer (some ⟨bv, 0, none⟩)]] 79, rows encM 3 1 Ao' qo' (u ++ [p]), rows encM 3 1 Au qu (usedU (K.map Sn.l) (u ++ [p])), rows encT 4 1 At qt (thereU l.length (u ++ [p])), ros encM Ac ch]) := by
  have hch : p < ch.length := by rw [D.chl]; exact hp
  obtain ⟨c, hc⟩ : ∃ c, ch[p]? = some c := ⟨ch[p], List.getElem?_eq_getElem hch⟩
  obtain ⟨L, hL⟩ : ∃ L, (K.map Sn.l)[c]? = some L := ⟨(K.map Sn.l)[c]'(D.lt p c hc), List.getElem?_eq_getElem _⟩
  obtain ⟨k, hk⟩ : ∃ k, k = (L.filter fun i => u.contains i).length := ⟨_, rfl⟩
  have hkl : k ≤ l.length := by
    rw [hk]
    refine Nat.le_trans (List.length_filter_le _ _) (sub_range_len ((D.sorted hL).imp fun h => Nat.ne_of_lt h) fun j hj => ((D.mem hL).1 hj).1)
  have hcl : c < (usedU (K.map Sn.l) u).length := by rw [used_len]; exact D.lt p c hc
  have hthl : p < (thereU l.length u).length := by rw [there_len]; exact hp
  have hus : (usedU (K.map Sn.l) u)[c]? = some k := by rw [hk]; exact used_at hL
  have hth : (thereU l.length u)[p]? = some (u.contains p) := there_at hp
  refine Does.enter Try.func58 rfl Try.ntmps58 rfl (fun w0 => ?_)
  refine To.seq ?_
  refine To.reg ?_
  refine To.rd rfl rfl rfl (Rd.move rfl rfl) ?_
  refine To.rd rfl rfl rfl (Rd.move rfl rfl) ?_
  refine To.rd rfl rfl rfl (Rd.nilCheck rfl rfl) ?_
  refine To.rd rfl rfl rfl (Rd.field rfl rfl fl79_0) ?_
  refine To.rd rfl rfl rfl (Rd.load (i := 0) rfl rfl c62 rfl (box_gives1 rfl)) ?_
  refine To.rd rfl rfl rfl (Rd.move rfl rfl) ?_
  refine To.mk rfl rfl rfl (Mk.sliceN (us := [.int .i64 ((p : Nat) : Int)]) rfl s62 rfl rfl rfl rfl rfl rfl) ?_
  rintro _ _ ⟨b10, rfl, rfl⟩
  refine To.as [row 3 1 (some ⟨b10, 0, none⟩) 1 1 [.int .i64 ((p : Nat) : Int)], box bs [.slice Ao u.length qo, .slice Ac ch.length qc, .slice Ak K.length qk, .slice Au ((usedU (K.map Sn.l) u).length) qu, .slice At ((thereU l.length u).length) qt, .slice Af af.length qf, .func (.func 56) #[] #[.pointer (some ⟨bv, 0, none⟩)], .func (.func 57) #[] #[.pointer (some ⟨bv, 0, none⟩)]] 79, rows encM 3 1 Ao qo u, rows encM 3 1 Au qu (usedU (K.map Sn.l) u), rows encT 4 1 At qt (thereU l.length u), ros encM Ac ch] rfl ?_
  refine To.ge rfl rfl rfl (Ge.append1 encM_ok (i := 2) (j := 0) (el := p) rfl s62 rfl rfl rfl rfl rfl (by first | omega | (simp only [List.length_append, List.length_cons, List.length_nil]; omega)) (by first | omega | (simp only [List.length_append, List.length_cons, List.length_nil]; omega))) ?_
  rintro _ _ ⟨A11, q11, rfl, rfl⟩
  refine To.as [row 3 1 (some ⟨b10, 0, none⟩) 1 1 [.int .i64 ((p : Nat) : Int)], box bs [.slice Ao u.length qo, .slice Ac ch.length qc, .slice Ak K.length qk, .slice Au ((usedU (K.map Sn.l) u).length) qu, .slice At ((thereU l.length u).length) qt, .slice Af af.length qf, .func (.func 56) #[] #[.pointer (some ⟨bv, 0, none⟩)], .func (.func 57) #[] #[.pointer (some ⟨bv, 0, none⟩)]] 79, rows encM 3 1 A11 q11 (u ++ [p]), rows encM 3 1 Au qu (usedU (K.map Sn.l) u), rows encT 4 1 At qt (thereU l.length u), ros encM Ac ch] rfl ?_
  refine To.rd rfl rfl rfl (Rd.nilCheck rfl rfl) ?_
  refine To.rd rfl rfl rfl (Rd.field rfl rfl fl79_0) ?_
  refine To.up rfl rfl (Up.store (i := 1) rfl rfl rfl c62 rfl rfl (box_takes1 rfl)) ?_
  refine To.nil ?_
  refine To.thenN ?_
  refine To.seq ?_
  refine To.reg ?_
  refine To.rd rfl rfl rfl (Rd.move rfl rfl) ?_
  refine To.rd rfl rfl rfl (Rd.nilCheck rfl rfl) ?_
  refine To.rd rfl rfl rfl (Rd.field rfl rfl fl79_4) ?_
  refine To.rd rfl rfl rfl (Rd.load (i := 1) rfl rfl c75 rfl (box_gives1 rfl)) ?_
  refine To.rd rfl rfl rfl (Rd.move rfl rfl) ?_
  refine To.rd rfl rfl rfl (Rd.indexRows (i := 4) (j := p) rfl rfl rfl s75 rfl hth) ?_
  refine To.up rfl rfl (Up.store (i := 4) rfl rfl rfl c4 rfl rfl (rows_takes encT_ok (y := true) (by decide) (by omega))) ?_
  refine To.nil ?_
  refine To.sub [(0, .pointer (some ⟨bs, 0, none⟩)), (1, .int .i64 ((p : Nat) : Int))] ⟨rfl, rfl, trivial⟩ ?_
  refine To.thenN ?_
  refine To.flow [box bs [.slice A11 ((u ++ [p]).length) q11, .slice Ac ch.length qc, .slice Ak K.length qk, .slice Au ((usedU (K.map Sn.l) u).length) qu, .slice At ((thereU l.length u).length) qt, .slice Af af.length qf, .func (.func 56) #[] #[.pointer (some ⟨bv, 0, none⟩)], .func (.func 57) #[] #[.pointer (some ⟨bv, 0, none⟩)]] 79, ros encM Ac ch] [⟨0, [], 0⟩, ⟨1, [], 0⟩, ⟨2, [], 0⟩, ⟨3, [], 0⟩, ⟨4, [], 0⟩, ⟨5, [], 0⟩, ⟨6, [], 0⟩, ⟨7, [], 0⟩, ⟨8, [], 0⟩, ⟨9, [], 0⟩, ⟨10, [], 0⟩, ⟨11, [], 1⟩, ⟨12, [], 1⟩, ⟨13, [], 0⟩, ⟨14, [], 1⟩, ⟨15, [], 5⟩] mixed (by kernel_rfl) (oks_cons (oks_at 1 rfl) (oks_cons (oks_at 5 rfl) (oks_nil _))) ?_
  refine FlowS.free rfl rfl rfl rfl (Rd.move rfl rfl) ?_
  refine FlowS.free rfl rfl rfl rfl (Rd.nilCheck rfl rfl) ?_
  refine FlowS.free rfl rfl rfl rfl (Rd.field rfl rfl fl79_3) ?_
  refine FlowS.free rfl rfl rfl rfl (Rd.load (i := 0) rfl rfl c62 rfl (box_gives1 rfl)) ?_
  refine FlowS.free rfl rfl rfl rfl (Rd.move rfl rfl) ?_
  refine FlowS.free rfl rfl rfl rfl (Rd.nilCheck rfl rfl) ?_
  refine FlowS.free rfl rfl rfl rfl (Rd.field rfl rfl fl79_1) ?_
  refine FlowS.free rfl rfl rfl rfl (Rd.load (i := 0) rfl rfl c62 rfl (box_gives1 rfl)) ?_
  refine FlowS.free rfl rfl rfl rfl (Rd.move rfl rfl) ?_
  refine FlowS.free rfl rfl rfl rfl (Rd.indexRos encM_ok (i := 1) (j := p) rfl rfl rfl s62 rfl hc) ?_
  refine FlowS.free rfl rfl rfl rfl (Rd.load (i := 1) rfl rfl c3 rfl (gives_1 (ros_gives encM_ok hc) rfl)) ?_
  refine FlowS.rd rfl rfl rfl rfl (Rd.indexRows (i := 3) (j := c) rfl rfl rfl s62 rfl hus) ?_
  refine FlowS.rd rfl rfl rfl rfl (Rd.load (i := 3) rfl rfl c3 rfl (gives_1 (rows_gives encM_ok hus) rfl)) ?_
  refine FlowS.free rfl rfl rfl rfl (Rd.inc rfl rfl rfl (by omega)) ?_
  refine FlowS.rd rfl rfl rfl rfl (Rd.indexRows (i := 3) (j := c) rfl rfl rfl s62 rfl hus) ?_
  refine FlowS.up (Γ' := [row 3 1 (some ⟨b10, 0, none⟩) 1 1 [.int .i64 ((p : Nat) : Int)], box bs [.slice A11 ((u ++ [p]).length) q11, .slice Ac ch.length qc, .slice Ak K.length qk, .slice Au ((usedU (K.map Sn.l) u).length) qu, .slice At ((thereU l.length u).length) qt, .slice Af af.length qf, .func (.func 56) #[] #[.pointer (some ⟨bv, 0, none⟩)], .func (.func 57) #[] #[.pointer (some ⟨bv, 0, none⟩)]] 79, rows encM 3 1 A11 q11 (u ++ [p]), rows encM 3 1 Au qu ((usedU (K.map Sn.l) u).set c (k + 1)), rows encT 4 1 At qt ((thereU l.length u).set p true), ros encM Ac ch]) rfl rfl rfl (Up.store (i := 3) rfl rfl rfl c3 rfl rfl (rows_takes encM_ok (y := (k + 1)) (by decide) (by omega))) (oks_cons (oks_at 1 rfl) (oks_cons (oks_at 5 rfl) (oks_nil _))) ?_
  refine FlowS.fin ?_
  refine To.as [row 3 1 (some ⟨b10, 0, none⟩) 1 1 [.int .i64 ((p : Nat) : Int)], box bs [.slice A11 ((u ++ [p]).length) q11, .slice Ac ch.length qc, .slice Ak K.length qk, .slice Au ((usedU (K.map Sn.l) u).length) qu, .slice At ((thereU l.length u).length) qt, .slice Af af.length qf, .func (.func 56) #[] #[.pointer (some ⟨bv, 0, none⟩)], .func (.func 57) #[] #[.pointer (some ⟨bv, 0, none⟩)]] 79, rows encM 3 1 A11 q11 (u ++ [p]), rows encM 3 1 Au qu ((usedU (K.map Sn.l) u).set c (k + 1)), rows encT 4 1 At qt ((thereU l.length u).set p true), ros encM Ac ch] rfl ?_
  refine To.sub [(0, .pointer (some ⟨bs, 0, none⟩)), (1, .int .i64 ((p : Nat) : Int))] ⟨rfl, rfl, trivial⟩ ?_
  refine To.only [1, 1, 1, 1, 1] rfl ?_
  refine To.end0 (.inr rfl) Try.results58 ?_
  refine ⟨rfl, A11, q11, ?_⟩
  rw [there_push, hk, used_push D hpu hp hc hL]
  simp only [used_len, there_len]
set_option maxHeartbeats 2000000 in
set_option maxRecDepth 100000 in
theorem pop_fn {l : List Ev} {ch : List Nat} {K : List Sn} {af : List Int} (D : SD l ch (K.map Sn.l) af) (hn : l.length ≤ 1000000) (bs bv : Nat) (Ac Ak Au At Af Ao : Option Addr) (qc qk qu qt qf qo : Nat) (u : List Nat) (p : Nat) (hp : p < l.length) (hpu : p ∉ u) (hul : u.length ≤ 1000000) :
    Does Try.prog 59 [.pointer (some ⟨bs, 0, none⟩)] [box bs [.slice Ao ((u ++ [p]).length) qo, .slice Ac ch.length qc, .slice Ak K.length qk, .slice Au ((usedU (K.map Sn.l) (u ++ [p])).length) qu, .slice At ((thereU l.length (u ++ [p])).length) qt, .slice Af af.length qf, .func (.func 56) #[] #[.pointer (some ⟨bv, 0, none⟩)], .func (.func 57) #[] #[.pointer (some ⟨bv, 0, none⟩)]] 79, rows encM 3 1 Ao qo (u ++ [p]), rows encM 3 1 Au qu (usedU (K.map Sn.l) (u ++ [p])), rows encT 4 1 At qt (thereU l.length (u ++ [p])), ros encM Ac ch] (fun v Γ' => v = .int .i64 (p : Nat) ∧ ∃ Ao' qo', Γ' = [box bs [.slice Ao' u.length qo', .slice Ac ch.length qc, .slice Ak K.length qk, .slice Au ((usedU (K.map Sn.l) u).length) qu, .slice At ((thereU l.length u).length) qt, .slice Af af.length qf, .func (.func 56) #[] #[.pointer (some ⟨bv, 0, none⟩)], .func (.func 57) #[] #[.pointer (some ⟨bv, 0, none⟩)]] 79, rows encM 3 1 Ao' qo' u, rows encM 3 1 Au qu (usedU (K.map Sn.l) u), rows encT 4 1 At qt (thereU l.length u), ros encM Ac ch]) := by
  have hch : p < ch.length := by rw [D.chl]; exact hp
  obtain ⟨c, hc⟩ : ∃ c, ch[p]? = some c := ⟨ch[p], List.getElem?_eq_getElem hch⟩
  obtain ⟨L, hL⟩ : ∃ L, (K.map Sn.l)[c]? = some L := ⟨(K.map Sn.l)[c]'(D.lt p c hc), List.getElem?_eq_getElem _⟩
  obtain ⟨k, hk⟩ : ∃ k, k = (L.filter fun i => u.contains i).length := ⟨_, rfl⟩
  have hkl : k ≤ l.length := by
    rw [hk]
    refine Nat.le_trans (List.length_filter_le _ _) (sub_range_len ((D.sorted hL).imp fun h => Nat.ne_of_lt h) fun j hj => ((D.mem hL).1 hj).1)
  have hcl : c < (usedU (K.map Sn.l) (u ++ [p])).length := by rw [used_len]; exact D.lt p c hc
  have hthl : p < (thereU l.length (u ++ [p])).length := by rw [there_len]; exact hp
  have hus : (usedU (K.map Sn.l) (u ++ [p]))[c]? = some (k + 1) := by rw [hk]; exact used_popped D hpu hp hc hL
  have hth : (thereU l.length (u ++ [p]))[p]? = some ((u ++ [p]).contains p) := there_at hp
  have hul2 : (u ++ [p]).length = u.length + 1 := by simp
  have hlast : (u ++ [p])[(u ++ [p]).length - 1]? = some p := by rw [hul2]; simp
  refine Does.enter Try.func59 rfl Try.ntmps59 rfl (fun w0 => ?_)
  refine To.seq ?_
  refine To.reg ?_
  refine To.rd rfl rfl rfl (Rd.assign rfl rfl) ?_
  refine To.nil ?_
  refine To.thenN ?_
  refine To.seq ?_
  refine To.flow [box bs [.slice Ao ((u ++ [p]).length) qo, .slice Ac ch.length qc, .slice Ak K.length qk, .slice Au ((usedU (K.map Sn.l) (u ++ [p])).length) qu, .slice At ((thereU l.length (u ++ [p])).length) qt, .slice Af af.length qf, .func (.func 56) #[] #[.pointer (some ⟨bv, 0, none⟩)], .func (.func 57) #[] #[.pointer (some ⟨bv, 0, none⟩)]] 79, rows encM 3 1 Ao qo (u ++ [p]), rows encM 3 1 Au qu (usedU (K.map Sn.l) (u ++ [p])), rows encT 4 1 At qt (thereU l.length (u ++ [p])), ros encM Ac ch] [⟨0, [], 0⟩, ⟨1, [], 0⟩, ⟨2, [], 0⟩, ⟨3, [], 0⟩, ⟨4, [], 0⟩, ⟨5, [], 0⟩, ⟨6, [], 0⟩, ⟨7, [], 0⟩, ⟨8, [], 0⟩, ⟨9, [], 0⟩, ⟨10, [], 0⟩, ⟨11, [], 0⟩, ⟨12, [], 0⟩] mixed (by kernel_rfl) (oks_cons (oks_at 0 rfl) (oks_cons (oks_at 1 rfl) (oks_cons (oks_at 2 rfl) (oks_cons (oks_at 3 rfl) (oks_cons (oks_at 4 rfl) (oks_nil _)))))) ?_
  refine FlowS.free rfl rfl rfl rfl (Rd.move rfl rfl) ?_
  refine FlowS.free rfl rfl rfl rfl (Rd.nilCheck rfl rfl) ?_
  refine FlowS.free rfl rfl rfl rfl (Rd.field rfl rfl fl79_0) ?_
  refine FlowS.free rfl rfl rfl rfl (Rd.load (i := 0) rfl rfl c62 rfl (box_gives1 rfl)) ?_
  refine FlowS.free rfl rfl rfl rfl (Rd.move rfl rfl) ?_
  refine FlowS.free rfl rfl rfl rfl (Rd.nilCheck rfl rfl) ?_
  refine FlowS.free rfl rfl rfl rfl (Rd.field rfl rfl fl79_0) ?_
  refine FlowS.free rfl rfl rfl rfl (Rd.load (i := 0) rfl rfl c62 rfl (box_gives1 rfl)) ?_
  refine FlowS.free rfl rfl rfl rfl (Rd.len rfl rfl Try.underlying62) ?_
  refine FlowS.free rfl rfl rfl rfl (Rd.as (v' := .int .i64 (((u ++ [p]).length - 1 : Nat) : Int)) (congrArg (Value.int .i64) (by omega)) (Rd.sub64 rfl rfl rfl (by omega))) ?_
  refine FlowS.free rfl rfl rfl rfl (Rd.indexRows (i := 1) (j := ((u ++ [p]).length - 1)) rfl rfl rfl s62 rfl hlast) ?_
  refine FlowS.free rfl rfl rfl rfl (Rd.load (i := 1) rfl rfl c3 rfl (gives_1 (rows_gives encM_ok hlast) rfl)) ?_
  refine FlowS.free rfl rfl rfl rfl (Rd.assign rfl rfl) ?_
  refine FlowS.fin ?_
  refine To.as [box bs [.slice Ao ((u ++ [p]).length) qo, .slice Ac ch.length qc, .slice Ak K.length qk, .slice Au ((usedU (K.map Sn.l) (u ++ [p])).length) qu, .slice At ((thereU l.length (u ++ [p])).length) qt, .slice Af af.length qf, .func (.func 56) #[] #[.pointer (some ⟨bv, 0, none⟩)], .func (.func 57) #[] #[.pointer (some ⟨bv, 0, none⟩)]] 79, rows encM 3 1 Ao qo (u ++ [p]), rows encM 3 1 Au qu (usedU (K.map Sn.l) (u ++ [p])), rows encT 4 1 At qt (thereU l.length (u ++ [p])), ros encM Ac ch] rfl ?_
  refine To.thenN ?_
  refine To.seq ?_
  refine To.know (p := (u ++ [p]).length ≤ qo) (fun w hw => rows_caps 1 rfl hw) (fun hqo => ?_)
  refine To.flow [] [⟨0, [], 0⟩, ⟨1, [], 0⟩, ⟨2, [], 0⟩, ⟨3, [], 0⟩, ⟨5, [], 0⟩, ⟨6, [], 0⟩, ⟨7, [], 0⟩, ⟨4, [], 1⟩, ⟨8, [], 1⟩, ⟨9, [], 0⟩, ⟨10, [], 0⟩, ⟨11, [], 0⟩, ⟨12, [], 0⟩, ⟨13, [], 0⟩, ⟨14, [], 5⟩] mixed (by kernel_rfl) (oks_nil _) ?_
  refine FlowS.free rfl rfl rfl rfl (Rd.move rfl rfl) ?_
  refine FlowS.free rfl rfl rfl rfl (Rd.move rfl rfl) ?_
  refine FlowS.free rfl rfl rfl rfl (Rd.nilCheck rfl rfl) ?_
  refine FlowS.free rfl rfl rfl rfl (Rd.field rfl rfl fl79_0) ?_
  refine FlowS.free rfl rfl rfl rfl (Rd.move rfl rfl) ?_
  refine FlowS.free rfl rfl rfl rfl (Rd.nilCheck rfl rfl) ?_
  refine FlowS.free rfl rfl rfl rfl (Rd.field rfl rfl fl79_0) ?_
  refine FlowS.rd rfl rfl rfl rfl (Rd.load (i := 0) rfl rfl c62 rfl (box_gives1 rfl)) ?_
  refine FlowS.rd rfl rfl rfl rfl (Rd.load (i := 0) rfl rfl c62 rfl (box_gives1 rfl)) ?_
  refine FlowS.free rfl rfl rfl rfl (Rd.len rfl rfl Try.underlying62) ?_
  refine FlowS.free rfl rfl rfl rfl (Rd.as (v' := .int .i64 (((u ++ [p]).length - 1 : Nat) : Int)) (congrArg (Value.int .i64) (by omega)) (Rd.sub64 rfl rfl rfl (by omega))) ?_
  refine FlowS.free rfl rfl rfl rfl (Rd.sliceHi (hi := ((u ++ [p]).length - 1)) rfl s62 rfl rfl (by omega)) ?_
  refine FlowS.free rfl rfl rfl rfl (Rd.nilCheck rfl rfl) ?_
  refine FlowS.free rfl rfl rfl rfl (Rd.field rfl rfl fl79_0) ?_
  refine FlowS.up (Γ' := [box bs [.slice Ao ((u ++ [p]).length - 1) qo, .slice Ac ch.length qc, .slice Ak K.length qk, .slice Au ((usedU (K.map Sn.l) (u ++ [p])).length) qu, .slice At ((thereU l.length (u ++ [p])).length) qt, .slice Af af.length qf, .func (.func 56) #[] #[.pointer (some ⟨bv, 0, none⟩)], .func (.func 57) #[] #[.pointer (some ⟨bv, 0, none⟩)]] 79, rows encM 3 1 Ao qo (u ++ [p]), rows encM 3 1 Au qu (usedU (K.map Sn.l) (u ++ [p])), rows encT 4 1 At qt (thereU l.length (u ++ [p])), ros encM Ac ch]) rfl rfl rfl (Up.store (i := 0) rfl rfl rfl c62 rfl rfl (box_takes1 rfl)) (oks_nil _) ?_
  refine FlowS.fin ?_
  refine To.as [box bs [.slice Ao ((u ++ [p]).length - 1) qo, .slice Ac ch.length qc, .slice Ak K.length qk, .slice Au ((usedU (K.map Sn.l) (u ++ [p])).length) qu, .slice At ((thereU l.length (u ++ [p])).length) qt, .slice Af af.length qf, .func (.func 56) #[] #[.pointer (some ⟨bv, 0, none⟩)], .func (.func 57) #[] #[.pointer (some ⟨bv, 0, none⟩)]] 79, rows encM 3 1 Ao qo (u ++ [p]), rows encM 3 1 Au qu (usedU (K.map Sn.l) (u ++ [p])), rows encT 4 1 At qt (thereU l.length (u ++ [p])), ros encM Ac ch] rfl ?_
  refine To.sub [(0, .pointer (some ⟨bs, 0, none⟩)), (2, .int .i64 0), (3, .int .i64 ((p : Nat) : Int))] ⟨rfl, rfl, rfl, trivial⟩ ?_
  refine To.thenN ?_
  refine To.seq ?_
  refine To.reg ?_
  refine To.rd rfl rfl rfl (Rd.move rfl rfl) ?_
  refine To.rd rfl rfl rfl (Rd.nilCheck rfl rfl) ?_
  refine To.rd rfl rfl rfl (Rd.field rfl rfl fl79_4) ?_
  refine To.rd rfl rfl rfl (Rd.load (i := 0) rfl rfl c75 rfl (box_gives1 rfl)) ?_
  refine To.rd rfl rfl rfl (Rd.move rfl rfl) ?_
  refine To.rd rfl rfl rfl (Rd.indexRows (i := 3) (j := p) rfl rfl rfl s75 rfl hth) ?_
  refine To.up rfl rfl (Up.store (i := 3) rfl rfl rfl c4 rfl rfl (rows_takes encT_ok (y := false) (by decide) (by omega))) ?_
  refine To.nil ?_
  refine To.thenN ?_
  refine To.seq ?_
  refine To.flow [box bs [.slice Ao ((u ++ [p]).length - 1) qo, .slice Ac ch.length qc, .slice Ak K.length qk, .slice Au ((usedU (K.map Sn.l) (u ++ [p])).length) qu, .slice At ((thereU l.length (u ++ [p])).length) qt, .slice Af af.length qf, .func (.func 56) #[] #[.pointer (some ⟨bv, 0, none⟩)], .func (.func 57) #[] #[.pointer (some ⟨bv, 0, none⟩)]] 79, ros encM Ac ch] [⟨0, [], 0⟩, ⟨1, [], 0⟩, ⟨2, [], 0⟩, ⟨3, [], 0⟩, ⟨4, [], 0⟩, ⟨5, [], 0⟩, ⟨6, [], 0⟩, ⟨7, [], 0⟩, ⟨8, [], 0⟩, ⟨9, [], 0⟩, ⟨10, [], 0⟩, ⟨11, [], 1⟩, ⟨12, [], 1⟩, ⟨13, [], 0⟩, ⟨14, [], 1⟩, ⟨15, [], 5⟩] mixed (by kernel_rfl) (oks_cons (oks_at 0 rfl) (oks_cons (oks_at 4 rfl) (oks_nil _))) ?_
  refine FlowS.free rfl rfl rfl rfl (Rd.move rfl rfl) ?_
  refine FlowS.free rfl rfl rfl rfl (Rd.nilCheck rfl rfl) ?_
  refine FlowS.free rfl rfl rfl rfl (Rd.field rfl rfl fl79_3) ?_
  refine FlowS.free rfl rfl rfl rfl (Rd.load (i := 0) rfl rfl c62 rfl (box_gives1 rfl)) ?_
  refine FlowS.free rfl rfl rfl rfl (Rd.move rfl rfl) ?_
  refine FlowS.free rfl rfl rfl rfl (Rd.nilCheck rfl rfl) ?_
  refine FlowS.free rfl rfl rfl rfl (Rd.field rfl rfl fl79_1) ?_
  refine FlowS.free rfl rfl rfl rfl (Rd.load (i := 0) rfl rfl c62 rfl (box_gives1 rfl)) ?_
  refine FlowS.free rfl rfl rfl rfl (Rd.move rfl rfl) ?_
  refine FlowS.free rfl rfl rfl rfl (Rd.indexRos encM_ok (i := 1) (j := p) rfl rfl rfl s62 rfl hc) ?_
  refine FlowS.free rfl rfl rfl rfl (Rd.load (i := 1) rfl rfl c3 rfl (gives_1 (ros_gives encM_ok hc) rfl)) ?_
  refine FlowS.rd rfl rfl rfl rfl (Rd.indexRows (i := 2) (j := c) rfl rfl rfl s62 rfl hus) ?_
  refine FlowS.rd rfl rfl rfl rfl (Rd.load (i := 2) rfl rfl c3 rfl (gives_1 (rows_gives encM_ok hus) rfl)) ?_
  refine FlowS.free rfl rfl rfl rfl (Rd.as (v' := .int .i64 (((k + 1) - 1 : Nat) : Int)) (congrArg (Value.int .i64) (by omega)) (Rd.sub64 rfl rfl rfl (by omega))) ?_
  refine FlowS.rd rfl rfl rfl rfl (Rd.indexRows (i := 2) (j := c) rfl rfl rfl s62 rfl hus) ?_
  refine FlowS.up (Γ' := [box bs [.slice Ao ((u ++ [p]).length - 1) qo, .slice Ac ch.length qc, .slice Ak K.length qk, .slice Au ((usedU (K.map Sn.l) (u ++ [p])).length) qu, .slice At ((thereU l.length (u ++ [p])).length) qt, .slice Af af.length qf, .func (.func 56) #[] #[.pointer (some ⟨bv, 0, none⟩)], .func (.func 57) #[] #[.pointer (some ⟨bv, 0, none⟩)]] 79, rows encM 3 1 Ao qo (u ++ [p]), rows encM 3 1 Au qu ((usedU (K.map Sn.l) (u ++ [p])).set c ((k + 1) - 1)), rows encT 4 1 At qt ((thereU l.length (u ++ [p])).set p false), ros encM Ac ch]) rfl rfl rfl (Up.store (i := 2) rfl rfl rfl c3 rfl rfl (rows_takes encM_ok (y := ((k + 1) - 1)) (by decide) (by omega))) (oks_cons (oks_at 0 rfl) (oks_cons (oks_at 4 rfl) (oks_nil _))) ?_
  refine FlowS.fin ?_
  refine To.as [box bs [.slice Ao ((u ++ [p]).length - 1) qo, .slice Ac ch.length qc, .slice Ak K.length qk, .slice Au ((usedU (K.map Sn.l) (u ++ [p])).length) qu, .slice At ((thereU l.length (u ++ [p])).length) qt, .slice Af af.length qf, .func (.func 56) #[] #[.pointer (some ⟨bv, 0, none⟩)], .func (.func 57) #[] #[.pointer (some ⟨bv, 0, none⟩)]] 79, rows encM 3 1 Ao qo (u ++ [p]), rows encM 3 1 Au qu ((usedU (K.map Sn.l) (u ++ [p])).set c ((k + 1) - 1)), rows encT 4 1 At qt ((thereU l.length (u ++ [p])).set p false), ros encM Ac ch] rfl ?_
  refine To.sub [(0, .pointer (some ⟨bs, 0, none⟩)), (2, .int .i64 0), (3, .int .i64 ((p : Nat) : Int))] ⟨rfl, rfl, rfl, trivial⟩ ?_
  refine To.thenN ?_
  refine To.seq ?_
  refine To.reg ?_
  refine To.rd rfl rfl rfl (Rd.move rfl rfl) ?_
  refine To.rd rfl rfl rfl (Rd.assign rfl rfl) ?_
  refine To.nil ?_
  refine To.thenN ?_
  refine To.ret ?_
  refine To.only [1, 0, 0, 0, 0] rfl ?_
  refine To.dropLast encM_ok ?_
  refine To.only [1, 0, 0, 0, 0] rfl ?_
  refine To.end1 (.inl rfl) Try.results59 rfl ?_
  refine ⟨rfl, Ao, qo, ?_⟩
  rw [there_pop hpu, Nat.add_sub_cancel, hk, used_pop D hpu hp hc hL]
  simp only [used_len, there_len, hul2, Nat.add_sub_cancel]
end Go.Proofs.Ytneimfacccgaeaa
