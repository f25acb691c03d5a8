/- The search: fill and next. Own text (walks printed by sx.py). -/
import Derived.Test.YtneimfacccgaeaaV34
namespace Go.Proofs.Ytneimfacccgaeaa
open Go.RowKit Go.Flow Go.Mem Go.Sep
theorem snoc_of {u : List Nat} (h : 0 < u.length) : ∃ t p, u = t ++ [p] := by
  have hne : u ≠ [] := fun e => by rw [e] at h; simp at h
  exact ⟨u.dropLast, u.getLast hne, (List.dropLast_concat_getLast hne).symm⟩
theorem oks_boxAt {Γ : List Chunk} {b o : Nat} {cs : List Value} {v : Value} {t : TypeId} (i : Nat) (h : Γ[i]? = some (box b cs t)) (hv : cs[o]? = some v) : ∀ w, oks Γ w → (ro (some ⟨b, o, none⟩) [v]).holds w := fun w hw => .inr ⟨b, o, rfl, box_gives1 hv w (hw _ (List.mem_of_getElem? h))⟩
set_option maxHeartbeats 2000000 in
set_option maxRecDepth 100000 in
theorem fill_fn {l : List Ev} {ch : List Nat} {K : List Sn} {af : List Int} (D : SD l ch (K.map Sn.l) af) (hn : l.length ≤ 1000000) (bs bv : Nat) (Ac Ak Au At Af A0 : Option Addr) (qc qk qu qt qf q0 : Nat) (u0 : List Nat) (hu0 : Rch l u0) :
    Does Try.prog 47 [.pointer (some ⟨bs, 0, none⟩)] [box bs [.slice A0 u0.length q0, .slice Ac ch.length qc, .slice Ak K.length qk, .slice Au ((usedU (K.map Sn.l) u0).length) qu, .slice At ((thereU l.length u0).length) qt, .slice Af af.length qf, .func (.func 56) #[] #[.pointer (some ⟨bv, 0, none⟩)], .func (.func 57) #[] #[.pointer (some ⟨bv, 0, none⟩)]] 79, rows encM 3 1 A0 q0 u0, rows encM 3 1 Au qu (usedU (K.map Sn.l) u0), rows encT 4 1 At qt (thereU l.length u0), ros encM Ac ch, ros Sn.cells Ak K, natsS (K.map Sn.ar), ros encI Af af, ro (some ⟨bv, 0, none⟩) [.pointer (some ⟨bs, 0, none⟩)]] (fun v Γ' => v = .tuple #[] ∧ ∃ Ao' qo', Γ' = [box bs [.slice Ao' ((fillU l u0).length) qo', .slice Ac ch.length qc, .slice Ak K.length qk, .slice Au ((usedU (K.map Sn.l) (fillU l u0)).length) qu, .slice At ((thereU l.length (fillU l u0)).length) qt, .slice Af af.length qf, .func (.func 56) #[] #[.pointer (some ⟨bv, 0, none⟩)], .func (.func 57) #[] #[.pointer (some ⟨bv, 0, none⟩)]] 79, rows encM 3 1 Ao' qo' (fillU l u0), rows encM 3 1 Au qu (usedU (K.map Sn.l) (fillU l u0)), rows encT 4 1 At qt (thereU l.length (fillU l u0)), ros encM Ac ch, ros Sn.cells Ak K, natsS (K.map Sn.ar), ros encI Af af, ro (some ⟨bv, 0, none⟩) [.pointer (some ⟨bs, 0, none⟩)]]) := by
  refine Does.enter Try.func47 rfl Try.ntmps47 rfl (fun w0 => ?_)
  refine To.block ?_
  refine To.sub [(0, .pointer (some ⟨bs, 0, none⟩))] ⟨rfl, trivial⟩ ?_
  refine To.only [0, 0, 0, 0, 0, 0, 0, 0, 0] rfl ?_
  refine To.loop (fun mz ρ Γ => ∃ (Ao : Option Addr) (qo : Nat) (u : List Nat), ρ = [(0, .pointer (some ⟨bs, 0, none⟩))] ∧ Γ = [box bs [.slice Ao u.length qo, .slice Ac ch.length qc, .slice Ak K.length qk, .slice Au ((usedU (K.map Sn.l) u).length) qu, .slice At ((thereU l.length u).length) qt, .slice Af af.length qf, .func (.func 56) #[] #[.pointer (some ⟨bv, 0, none⟩)], .func (.func 57) #[] #[.pointer (some ⟨bv, 0, none⟩)]] 79, rows encM 3 1 Ao qo u, rows encM 3 1 Au qu (usedU (K.map Sn.l) u), rows encT 4 1 At qt (thereU l.length u), ros encM Ac ch, ros Sn.cells Ak K, natsS (K.map Sn.ar), ros encI Af af, ro (some ⟨bv, 0, none⟩) [.pointer (some ⟨bs, 0, none⟩)]] ∧ mz = l.length - u.length ∧ (Rch l u) ∧ (fillU l u0 = fillU l u)) (l.length - u0.length) ⟨A0, q0, u0, rfl, rfl, rfl, hu0, rfl⟩ ?_
  rintro mz _ _ ⟨Ao, qo, u, rfl, rfl, rfl, hu, hf⟩
  have hul := hu.len
  have hcl := D.chl
  refine To.seq ?_
  refine To.seq ?_
  refine To.flow [box bs [.slice Ao u.length qo, .slice Ac ch.length qc, .slice Ak K.length qk, .slice Au ((usedU (K.map Sn.l) u).length) qu, .slice At ((thereU l.length u).length) qt, .slice Af af.length qf, .func (.func 56) #[] #[.pointer (some ⟨bv, 0, none⟩)], .func (.func 57) #[] #[.pointer (some ⟨bv, 0, none⟩)]] 79] [⟨0, [], 0⟩, ⟨1, [], 0⟩, ⟨2, [], 0⟩, ⟨3, [], 0⟩, ⟨4, [], 0⟩, ⟨5, [], 0⟩, ⟨6, [], 0⟩, ⟨7, [], 0⟩, ⟨8, [], 0⟩, ⟨9, [], 0⟩, ⟨10, [], 0⟩] mixed (by kernel_rfl) (oks_cons (oks_at 0 rfl) (oks_nil _)) ?_
  refine FlowS.free rfl rfl rfl rfl (Rd.move rfl rfl) ?_
  refine FlowS.free rfl rfl rfl rfl (Rd.nilCheck rfl rfl) ?_
  refine FlowS.free rfl rfl rfl rfl (Rd.field rfl rfl fl79_0) ?_
  refine FlowS.free rfl rfl rfl rfl (Rd.load (i := 0) rfl rfl c62 rfl (box_gives1 rfl)) ?_
  refine FlowS.free rfl rfl rfl rfl (Rd.len rfl rfl Try.underlying62) ?_
  refine FlowS.free rfl rfl rfl rfl (Rd.move rfl rfl) ?_
  refine FlowS.free rfl rfl rfl rfl (Rd.nilCheck rfl rfl) ?_
  refine FlowS.free rfl rfl rfl rfl (Rd.field rfl rfl fl79_1) ?_
  refine FlowS.free rfl rfl rfl rfl (Rd.load (i := 0) rfl rfl c62 rfl (box_gives1 rfl)) ?_
  refine FlowS.free rfl rfl rfl rfl (Rd.len rfl rfl Try.underlying62) ?_
  refine FlowS.free rfl rfl rfl rfl (Rd.lss rfl rfl rfl) ?_
  refine FlowS.fin ?_
  refine To.as [box bs [.slice Ao u.length qo, .slice Ac ch.length qc, .slice Ak K.length qk, .slice Au ((usedU (K.map Sn.l) u).length) qu, .slice At ((thereU l.length u).length) qt, .slice Af af.length qf, .func (.func 56) #[] #[.pointer (some ⟨bv, 0, none⟩)], .func (.func 57) #[] #[.pointer (some ⟨bv, 0, none⟩)]] 79, rows encM 3 1 Ao qo u, rows encM 3 1 Au qu (usedU (K.map Sn.l) u), rows encT 4 1 At qt (thereU l.length u), ros encM Ac ch, ros Sn.cells Ak K, natsS (K.map Sn.ar), ros encI Af af, ro (some ⟨bv, 0, none⟩) [.pointer (some ⟨bs, 0, none⟩)]] rfl ?_
  refine To.thenN ?_
  refine To.condP rfl (fun c12 => ?_) (fun c12 => ?_)
  ·
    refine To.skip ?_
    refine To.thenN ?_
    refine To.block ?_
    obtain ⟨q, r, hq, hnq⟩ := lst_first hu (by omega)
    have hqn : q ∈ nxt l u := by rw [hnq]; simp
    obtain ⟨hql, hqu, _⟩ := mem_nxt.1 hqn
    refine To.reg ?_
    refine To.rd rfl rfl rfl (Rd.move rfl rfl) ?_
    refine To.rd rfl rfl rfl (Rd.move rfl rfl) ?_
    refine To.rd rfl rfl rfl (Rd.nilCheck rfl rfl) ?_
    refine To.rd rfl rfl rfl (Rd.field rfl rfl fl79_7) ?_
    refine To.rd rfl rfl rfl (Rd.load (i := 0) rfl rfl c77 rfl (box_gives1 rfl)) ?_
    refine To.callV rfl rfl rfl (Ent.func (first := []) (captured := [.pointer (some ⟨bv, 0, none⟩)]) rfl rfl rfl ca57) ((least_fn D hn bs bv Ac Ak Au At Af qc qk qu qt qf Ao qo u hu (-1)).mono (R' := fun v _ => v = .int .i64 ((q : Nat) : Int)) (fun v _ h => by rw [h, hq])) rfl (oks_cons (oks_at 8 rfl) (oks_cons (oks_box 0 rfl) (oks_cons (oks_row 2 rfl) (oks_cons (oks_at 5 rfl) (oks_cons (oks_at 6 rfl) (oks_cons (oks_row 3 rfl) (oks_cons (oks_at 7 rfl) (oks_nil _)))))))) ?_
    refine To.call [0, 0, 0, 0, 0] rfl rfl rfl (Ent.fn rfl rfl ca58) rfl (push_fn D hn bs bv Ac Ak Au At Af Ao qc qk qu qt qf qo u q hql hqu (by omega)) ?_
    rintro _ _ ⟨rfl, A2, q2, rfl⟩
    refine To.as [box bs [.slice A2 ((u ++ [q]).length) q2, .slice Ac ch.length qc, .slice Ak K.length qk, .slice Au ((usedU (K.map Sn.l) (u ++ [q])).length) qu, .slice At ((thereU l.length (u ++ [q])).length) qt, .slice Af af.length qf, .func (.func 56) #[] #[.pointer (some ⟨bv, 0, none⟩)], .func (.func 57) #[] #[.pointer (some ⟨bv, 0, none⟩)]] 79, rows encM 3 1 A2 q2 (u ++ [q]), rows encM 3 1 Au qu (usedU (K.map Sn.l) (u ++ [q])), rows encT 4 1 At qt (thereU l.length (u ++ [q])), ros encM Ac ch, ros Sn.cells Ak K, natsS (K.map Sn.ar), ros encI Af af, ro (some ⟨bv, 0, none⟩) [.pointer (some ⟨bs, 0, none⟩)]] rfl ?_
    refine To.nil ?_
    refine To.sub [(0, .pointer (some ⟨bs, 0, none⟩)), (12, .bool (decide (((u.length : Nat) : Int) < ((ch.length : Nat) : Int))))] ⟨rfl, rfl, trivial⟩ ?_
    refine To.blockN ?_
    refine To.thenN ?_
    refine To.sub [(0, .pointer (some ⟨bs, 0, none⟩))] ⟨rfl, trivial⟩ ?_
    refine To.only [0, 0, 0, 0, 0, 0, 0, 0, 0] rfl ?_
    refine To.again (l.length - (u ++ [q]).length) (by simp only [List.length_append, List.length_singleton]; omega) ⟨A2, q2, (u ++ [q]), rfl, rfl, rfl, (.snoc hu hqn), (hf.trans (fill_step (by omega) hnq))⟩
  ·
    refine To.exit ?_
    refine To.thenX ?_
    refine To.thenX ?_
    refine To.blockX ?_
    refine To.only [0, 0, 0, 0, 0, 0, 0, 0, 0] rfl ?_
    refine To.end0 (.inr rfl) Try.results47 ?_
    refine ⟨rfl, Ao, qo, ?_⟩
    rw [hf, fill_full (by omega)]
set_option maxHeartbeats 2000000 in
set_option maxRecDepth 100000 in
theorem next_fn {l : List Ev} {ch : List Nat} {K : List Sn} {af : List Int} (D : SD l ch (K.map Sn.l) af) (hn : l.length ≤ 1000000) (bs bv : Nat) (Ac Ak Au At Af A0 : Option Addr) (qc qk qu qt qf q0 : Nat) (u0 : List Nat) (hu0 : Rch l u0) :
    Does Try.prog 48 [.pointer (some ⟨bs, 0, none⟩)] [box bs [.slice A0 u0.length q0, .slice Ac ch.length qc, .slice Ak K.length qk, .slice Au ((usedU (K.map Sn.l) u0).length) qu, .slice At ((thereU l.length u0).length) qt, .slice Af af.length qf, .func (.func 56) #[] #[.pointer (some ⟨bv, 0, none⟩)], .func (.func 57) #[] #[.pointer (some ⟨bv, 0, none⟩)]] 79, rows encM 3 1 A0 q0 u0, rows encM 3 1 Au qu (usedU (K.map Sn.l) u0), rows encT 4 1 At qt (thereU l.length u0), ros encM Ac ch, ros Sn.cells Ak K, natsS (K.map Sn.ar), ros encI Af af, ro (some ⟨bv, 0, none⟩) [.pointer (some ⟨bs, 0, none⟩)]] (fun v Γ' => (v = .bool true ∧ ∃ u Ao' qo', Rch l u ∧ u.length = l.length ∧ later l u0 = u :: later l u ∧ Γ' = [box bs [.slice Ao' u.length qo', .slice Ac ch.length qc, .slice Ak K.length qk, .slice Au ((usedU (K.map Sn.l) u).length) qu, .slice At ((thereU l.length u).length) qt, .slice Af af.length qf, .func (.func 56) #[] #[.pointer (some ⟨bv, 0, none⟩)], .func (.func 57) #[] #[.pointer (some ⟨bv, 0, none⟩)]] 79, rows encM 3 1 Ao' qo' u, rows encM 3 1 Au qu (usedU (K.map Sn.l) u), rows encT 4 1 At qt (thereU l.length u), ros encM Ac ch, ros Sn.cells Ak K, natsS (K.map Sn.ar), ros encI Af af, ro (some ⟨bv, 0, none⟩) [.pointer (some ⟨bs, 0, none⟩)]]) ∨ (v = .bool false ∧ later l u0 = [] ∧ Γ' = [])) := by
  refine Does.enter Try.func48 rfl Try.ntmps48 rfl (fun w0 => ?_)
  refine To.seq ?_
  refine To.reg ?_
  refine To.rd rfl rfl rfl (Rd.assign rfl rfl) ?_
  refine To.nil ?_
  refine To.thenN ?_
  refine To.seq ?_
  refine To.block ?_
  refine To.sub [(0, .pointer (some ⟨bs, 0, none⟩))] ⟨rfl, trivial⟩ ?_
  refine To.only [0, 0, 0, 0, 0, 0, 0, 0, 0] rfl ?_
  refine To.loop (fun mz ρ Γ => ∃ (Ao : Option Addr) (qo : Nat) (u : List Nat), ρ = [(0, .pointer (some ⟨bs, 0, none⟩))] ∧ Γ = [box bs [.slice Ao u.length qo, .slice Ac ch.length qc, .slice Ak K.length qk, .slice Au ((usedU (K.map Sn.l) u).length) qu, .slice At ((thereU l.length u).length) qt, .slice Af af.length qf, .func (.func 56) #[] #[.pointer (some ⟨bv, 0, none⟩)], .func (.func 57) #[] #[.pointer (some ⟨bv, 0, none⟩)]] 79, rows encM 3 1 Ao qo u, rows encM 3 1 Au qu (usedU (K.map Sn.l) u), rows encT 4 1 At qt (thereU l.length u), ros encM Ac ch, ros Sn.cells Ak K, natsS (K.map Sn.ar), ros encI Af af, ro (some ⟨bv, 0, none⟩) [.pointer (some ⟨bs, 0, none⟩)]] ∧ mz = u.length ∧ (Rch l u) ∧ (later l u0 = later l u)) (u0.length) ⟨A0, q0, u0, rfl, rfl, rfl, hu0, rfl⟩ ?_
  rintro mz _ _ ⟨Ao, qo, u, rfl, rfl, rfl, hu, hL⟩
  have hul := hu.len
  have hcl := D.chl
  refine To.seq ?_
  refine To.seq ?_
  refine To.reg ?_
  refine To.rd rfl rfl rfl (Rd.move rfl rfl) ?_
  refine To.rd rfl rfl rfl (Rd.nilCheck rfl rfl) ?_
  refine To.rd rfl rfl rfl (Rd.field rfl rfl fl79_0) ?_
  refine To.rd rfl rfl rfl (Rd.load (i := 0) rfl rfl c62 rfl (box_gives1 rfl)) ?_
  refine To.rd rfl rfl rfl (Rd.len rfl rfl Try.underlying62) ?_
  refine To.rd rfl rfl rfl (Rd.gtr rfl rfl rfl) ?_
  refine To.nil ?_
  refine To.thenN ?_
  refine To.condP rfl (fun c9 => ?_) (fun c9 => ?_)
  ·
    refine To.skip ?_
    refine To.thenN ?_
    refine To.block ?_
    refine To.seq ?_
    obtain ⟨t, p, rfl⟩ := snoc_of (show 0 < u.length by omega)
    obtain ⟨ht, hpn⟩ := hu.front
    obtain ⟨hpl, hpt, _⟩ := mem_nxt.1 hpn
    have htl := ht.len
    refine To.as [box bs [.slice Ao ((t ++ [p]).length) qo, .slice Ac ch.length qc, .slice Ak K.length qk, .slice Au ((usedU (K.map Sn.l) (t ++ [p])).length) qu, .slice At ((thereU l.length (t ++ [p])).length) qt, .slice Af af.length qf, .func (.func 56) #[] #[.pointer (some ⟨bv, 0, none⟩)], .func (.func 57) #[] #[.pointer (some ⟨bv, 0, none⟩)]] 79, rows encM 3 1 Ao qo (t ++ [p]), rows encM 3 1 Au qu (usedU (K.map Sn.l) (t ++ [p])), rows encT 4 1 At qt (thereU l.length (t ++ [p])), ros encM Ac ch, ros Sn.cells Ak K, natsS (K.map Sn.ar), ros encI Af af, ro (some ⟨bv, 0, none⟩) [.pointer (some ⟨bs, 0, none⟩)]] rfl ?_
    refine To.flow [ro (some ⟨bs, 7, none⟩) [.func (.func 57) #[] #[.pointer (some ⟨bv, 0, none⟩)]]] [⟨0, [], 0⟩, ⟨1, [], 0⟩, ⟨2, [], 0⟩, ⟨3, [], 0⟩, ⟨4, [], 0⟩, ⟨5, [], 5⟩, ⟨6, [], 3⟩, ⟨7, [], 0⟩] mixed (by kernel_rfl) (oks_cons (oks_boxAt 0 rfl rfl) (oks_nil _)) ?_
    refine FlowS.free rfl rfl rfl rfl (Rd.move rfl rfl) ?_
    refine FlowS.free rfl rfl rfl rfl (Rd.nilCheck rfl rfl) ?_
    refine FlowS.free rfl rfl rfl rfl (Rd.field rfl rfl fl79_7) ?_
    refine FlowS.free rfl rfl rfl rfl (Rd.load (i := 0) rfl rfl c77 rfl (ro_gives (A := some ⟨bs, 7, none⟩) (o := 0) (k := 1) rfl)) ?_
    refine FlowS.free rfl rfl rfl rfl (Rd.move rfl rfl) ?_
    refine FlowS.call [0, 0, 0, 0, 0] rfl rfl rfl rfl (Ent.fn rfl rfl ca59) rfl (pop_fn D hn bs bv Ac Ak Au At Af Ao qc qk qu qt qf qo t p hpl hpt (by omega)) ?_
    rintro _ _ ⟨rfl, A3, q3, rfl⟩
    refine ⟨oks_cons (oks_boxAt 0 rfl rfl) (oks_nil _), ?_⟩
    refine FlowS.callQ rfl rfl rfl rfl (Ent.func (first := []) (captured := [.pointer (some ⟨bv, 0, none⟩)]) rfl rfl rfl ca57) (least_fn D hn bs bv Ac Ak Au At Af qc qk qu qt qf A3 q3 t ht (p : Nat)) rfl (oks_cons (oks_at 8 rfl) (oks_cons (oks_box 0 rfl) (oks_cons (oks_row 2 rfl) (oks_cons (oks_at 5 rfl) (oks_cons (oks_at 6 rfl) (oks_cons (oks_row 3 rfl) (oks_cons (oks_at 7 rfl) (oks_nil _)))))))) ?_
    refine FlowS.free rfl rfl rfl rfl (Rd.assign rfl rfl) ?_
    refine FlowS.fin ?_
    refine To.as [box bs [.slice A3 t.length q3, .slice Ac ch.length qc, .slice Ak K.length qk, .slice Au ((usedU (K.map Sn.l) t).length) qu, .slice At ((thereU l.length t).length) qt, .slice Af af.length qf, .func (.func 56) #[] #[.pointer (some ⟨bv, 0, none⟩)], .func (.func 57) #[] #[.pointer (some ⟨bv, 0, none⟩)]] 79, rows encM 3 1 A3 q3 t, rows encM 3 1 Au qu (usedU (K.map Sn.l) t), rows encT 4 1 At qt (thereU l.length t), ros encM Ac ch, ros Sn.cells Ak K, natsS (K.map Sn.ar), ros encI Af af, ro (some ⟨bv, 0, none⟩) [.pointer (some ⟨bs, 0, none⟩)]] rfl ?_
    refine To.thenN ?_
    refine To.seq ?_
    refine To.reg ?_
    refine To.rd rfl rfl rfl (Rd.move rfl rfl) ?_
    refine To.rd rfl rfl rfl (Rd.geq rfl rfl rfl) ?_
    refine To.nil ?_
    refine To.thenN ?_
    refine To.condP rfl (fun c18 => ?_) (fun c18 => ?_)
    ·
      refine To.seq ?_
      obtain ⟨q, hq, hqn, _⟩ := lst_pos c18
      rw [hq]
      obtain ⟨hql, hqt, _⟩ := mem_nxt.1 hqn
      obtain ⟨hr2, hlt2⟩ := lst_later hu hq
      refine To.sub [(0, .pointer (some ⟨bs, 0, none⟩)), (3, .int .i64 ((q : Nat) : Int))] ⟨rfl, rfl, trivial⟩ ?_
      refine To.reg ?_
      refine To.rd rfl rfl rfl (Rd.move rfl rfl) ?_
      refine To.rd rfl rfl rfl (Rd.move rfl rfl) ?_
      refine To.call [0, 0, 0, 0, 0] rfl rfl rfl (Ent.fn rfl rfl ca58) rfl (push_fn D hn bs bv Ac Ak Au At Af A3 qc qk qu qt qf q3 t q hql hqt (by omega)) ?_
      rintro _ _ ⟨rfl, A4, q4, rfl⟩
      refine To.as [box bs [.slice A4 ((t ++ [q]).length) q4, .slice Ac ch.length qc, .slice Ak K.length qk, .slice Au ((usedU (K.map Sn.l) (t ++ [q])).length) qu, .slice At ((thereU l.length (t ++ [q])).length) qt, .slice Af af.length qf, .func (.func 56) #[] #[.pointer (some ⟨bv, 0, none⟩)], .func (.func 57) #[] #[.pointer (some ⟨bv, 0, none⟩)]] 79, rows encM 3 1 A4 q4 (t ++ [q]), rows encM 3 1 Au qu (usedU (K.map Sn.l) (t ++ [q])), rows encT 4 1 At qt (thereU l.length (t ++ [q])), ros encM Ac ch, ros Sn.cells Ak K, natsS (K.map Sn.ar), ros encI Af af, ro (some ⟨bv, 0, none⟩) [.pointer (some ⟨bs, 0, none⟩)]] rfl ?_
      refine To.nil ?_
      refine To.thenN ?_
      refine To.seq ?_
      refine To.reg ?_
      refine To.rd rfl rfl rfl (Rd.move rfl rfl) ?_
      refine To.call [0, 0, 0, 0, 0, 0, 0, 0, 0] rfl rfl rfl (Ent.fn rfl rfl ca47) rfl (fill_fn D hn bs bv Ac Ak Au At Af A4 qc qk qu qt qf q4 (t ++ [q]) hr2) ?_
      rintro _ _ ⟨rfl, A5, q5, rfl⟩
      refine To.as [box bs [.slice A5 ((fillU l (t ++ [q])).length) q5, .slice Ac ch.length qc, .slice Ak K.length qk, .slice Au ((usedU (K.map Sn.l) (fillU l (t ++ [q]))).length) qu, .slice At ((thereU l.length (fillU l (t ++ [q]))).length) qt, .slice Af af.length qf, .func (.func 56) #[] #[.pointer (some ⟨bv, 0, none⟩)], .func (.func 57) #[] #[.pointer (some ⟨bv, 0, none⟩)]] 79, rows encM 3 1 A5 q5 (fillU l (t ++ [q])), rows encM 3 1 Au qu (usedU (K.map Sn.l) (fillU l (t ++ [q]))), rows encT 4 1 At qt (thereU l.length (fillU l (t ++ [q]))), ros encM Ac ch, ros Sn.cells Ak K, natsS (K.map Sn.ar), ros encI Af af, ro (some ⟨bv, 0, none⟩) [.pointer (some ⟨bs, 0, none⟩)]] rfl ?_
      refine To.nil ?_
      refine To.thenN ?_
      refine To.seq ?_
      refine To.reg ?_
      refine To.rd rfl rfl rfl (Rd.assign rfl rfl) ?_
      refine To.nil ?_
      refine To.thenN ?_
      refine To.ret ?_
      refine To.blockR ?_
      refine To.thenR ?_
      refine To.blockR ?_
      refine To.thenR ?_
      refine To.only [0, 0, 0, 0, 0, 0, 0, 0, 0] rfl ?_
      refine To.end1 (.inl rfl) Try.results48 rfl ?_
      exact .inl ⟨rfl, fillU l (t ++ [q]), A5, q5, fill_rch hr2, fill_len hr2, hL.trans hlt2, rfl⟩
    ·
      refine To.skip ?_
      refine To.blockN ?_
      refine To.thenN ?_
      refine To.sub [(0, .pointer (some ⟨bs, 0, none⟩))] ⟨rfl, trivial⟩ ?_
      refine To.only [0, 0, 0, 0, 0, 0, 0, 0, 0] rfl ?_
      refine To.again (t.length) (by simp only [List.length_append, List.length_singleton]; omega) ⟨A3, q3, t, rfl, rfl, rfl, ht, (by rw [← lst_neg (by omega : lst l t (p : Nat) < 0)]; exact hL)⟩
  ·
    refine To.exit ?_
    refine To.thenX ?_
    refine To.thenX ?_
    refine To.blockX ?_
    refine To.thenN ?_
    refine To.seq ?_
    refine To.reg ?_
    refine To.rd rfl rfl rfl (Rd.assign rfl rfl) ?_
    refine To.nil ?_
    refine To.thenN ?_
    refine To.ret ?_
    refine To.only [] rfl ?_
    refine To.end1 (.inl rfl) Try.results48 rfl ?_
    refine .inr ⟨rfl, ?_, rfl⟩
    obtain rfl : u = [] := List.length_eq_zero_iff.1 (by omega)
    exact hL
end Go.Proofs.Ytneimfacccgaeaa
