/- The walk of the iterator that Orders returns. Own text (walks printed by sx.py). -/
import Derived.Test.YtneimfacccgaeaaV37
import Derived.Test.YtneimfacccgaeaaL5
namespace Go.Proofs.Ytneimfacccgaeaa
open Go.RowKit Go.Flow Go.Mem Go.Sep
/-- The values of an order's events. -/
def valsO (l : List Ev) (o : List Nat) : List (List Int) := o.map fun i => ((l[i]?).map Ev.val).getD []
theorem valsO_push {l : List Ev} {o : List Nat} {i : Nat} {p : Nat} {y : Ev} (hp : o[i]? = some p) (hy : l[p]? = some y) : valsO l (o.take (i + 1)) = valsO l (o.take i) ++ [y.val] := by
  unfold valsO
  rw [take_of_get hp, List.map_append]
  simp [hy]
theorem ords_at {l : List Ev} {L : List (List Nat)} {k : Nat} {u : List Nat} (h : L.drop k = u :: later l u) : L[k]? = some u ∧ L.drop (k + 1) = later l u := by
  constructor
  · have := congrArg (fun z => z[0]?) h
    simpa using this
  · rw [← List.drop_drop, h]; rfl
theorem Mk.make0R {P : Program} {o : Oper} {ρ : Slots} {Γ : List Chunk} {x y : Operand} {α : Type} (enc : α → List Value) {t e : TypeId} {size bytes c : Nat} {zs : List Value} {kl kc : IntKind} (ho : o.op = .makeSlice t x y) (ht : SliceTy P t e size bytes zs) (hx : ev ρ x = some (.int kl 0)) (hy : ev ρ y = some (.int kc (c : Int))) (hb : bytes * c ≤ 281474976710656) (hc : c ≤ maxLen) :
    Mk P o ρ Γ (fun v N => ∃ b, v = .slice (some ⟨b, 0, none⟩) ([] : List α).length c ∧ N = [rows enc e size (some ⟨b, 0, none⟩) c ([] : List α)]) := Mk.make0 ho ht hx hy hb hc
set_option maxHeartbeats 2000000 in
set_option maxRecDepth 100000 in
theorem iter_fn (Al : Option Addr) (cl : Nat) (l : List Ev) (hl : l.length ≤ 1000000) (ha : ∀ e ∈ l, e.args.length ≤ 1000000000000) (n : Int) (hn : n ≤ 1000000) (b1 b2 lp : Nat) (J : Nat → Chunk → Prop) (X : Chunk → Prop) (c : Chunk)
    (hY : ∀ (k : Nat) (c : Chunk) (o : List Nat) (A : Option Addr) (q : Nat) (E : List Ev), J k c → (k : Int) < n → (ords l [])[k]? = some o → E.map Ev.val = valsO l o → (∀ e ∈ E, e.args.length ≤ 1000000000000) → A.isNone = false →
      RoundDoes Try.prog lp [.slice A E.length q] [rows Ev.cells 37 9 A q E, argsS (E.map Ev.ar), c] (fun v Γ' => ∃ c', Γ' = [c'] ∧ ((v = .bool true ∧ J (k + 1) c') ∨ (v = .bool false ∧ X c')))) (h0 : J 0 c) :
    Does Try.prog 45 [.func (.yield lp) #[] #[], .pointer (some ⟨b1, 0, none⟩), .pointer (some ⟨b2, 0, none⟩)] [ro (some ⟨b1, 0, none⟩) [.int .i64 n], ro (some ⟨b2, 0, none⟩) [.slice Al l.length cl], ros Ev.cells Al l, argsS (l.map Ev.ar), c] (fun _ Γ' => ∃ c', Γ' = [c'] ∧ (J ((ords l []).take n.toNat).length c' ∨ X c')) := by
  refine Does.enterR Try.func45 rfl Try.ntmps45 rfl (fun w0 => ?_)
  refine ToR.seq ?_
  refine ToR.seq ?_
  refine ToR.reg ?_
  refine ToR.rd rfl rfl rfl (Rd.load (i := 0) rfl rfl c3 rfl (ro_gives (A := some ⟨b1, 0, none⟩) (o := 0) (k := 1) rfl)) ?_
  refine ToR.rd rfl rfl rfl (Rd.lss rfl rfl rfl) ?_
  refine ToR.nil ?_
  refine To.thenN ?_
  refine ToR.condP rfl (fun c10 => ?_) (fun c10 => ?_)
  ·
    refine ToR.ret ?_
    refine To.thenR ?_
    refine To.only [4] rfl ?_
    refine To.end0 (.inl rfl) Try.results45 ?_
    refine ⟨c, rfl, .inl ?_⟩
    rw [show n.toNat = 0 by omega, List.take_zero]
    exact h0
  ·
    refine ToR.skip ?_
    refine To.thenN ?_
    refine ToR.seq ?_
    refine ToR.reg ?_
    refine ToR.rd rfl rfl rfl (Rd.load (i := 1) rfl rfl c22 rfl (ro_gives (A := some ⟨b2, 0, none⟩) (o := 0) (k := 1) rfl)) ?_
    refine To.dup 2 rfl rfl ?_
    refine ToR.call [0] rfl rfl rfl (Ent.fn rfl rfl ca46) rfl (search_fn Al cl l (by omega)) ?_
    rintro _ _ ⟨bs, bv, Ac, Ak, Au, At, Af, qc, qk, qu, qt, qf, ch, K, af, D, rfl, rfl⟩
    refine To.as [box bs [.slice none (([] : List Nat).length) 0, .slice Ac ch.length qc, .slice Ak K.length qk, .slice Au ((usedU (K.map Sn.l) ([] : List Nat)).length) qu, .slice At ((thereU l.length ([] : List Nat)).length) qt, .slice Af af.length qf, .func (.func 56) #[] #[.pointer (some ⟨bv, 0, none⟩)], .func (.func 57) #[] #[.pointer (some ⟨bv, 0, none⟩)]] 79, rows encM 3 1 none 0 ([] : List Nat), rows encM 3 1 Au qu (usedU (K.map Sn.l) ([] : List Nat)), rows encT 4 1 At qt (thereU l.length ([] : List Nat)), ros encM Ac ch, ros Sn.cells Ak K, natsS (K.map Sn.ar), ros encI Af af, ro (some ⟨bv, 0, none⟩) [.pointer (some ⟨bs, 0, none⟩)], ro (some ⟨b1, 0, none⟩) [.int .i64 n], ro (some ⟨b2, 0, none⟩) [.slice Al l.length cl], ros Ev.cells Al l, argsS (l.map Ev.ar), c] rfl ?_
    refine ToR.rd rfl rfl rfl (Rd.assign rfl rfl) ?_
    refine ToR.nil ?_
    refine To.thenN ?_
    refine ToR.seq ?_
    refine ToR.reg ?_
    refine ToR.rd rfl rfl rfl (Rd.move rfl rfl) ?_
    refine ToR.call [0, 0, 0, 0, 0, 0, 0, 0, 0] rfl rfl rfl (Ent.fn rfl rfl ca47) rfl (fill_fn D (by omega) bs bv Ac Ak Au At Af none qc qk qu qt qf 0 [] .nil) ?_
    rintro _ _ ⟨rfl, A0, q0, rfl⟩
    refine To.as [box bs [.slice A0 ((fillU l []).length) q0, .slice Ac ch.length qc, .slice Ak K.length qk, .slice Au ((usedU (K.map Sn.l) (fillU l [])).length) qu, .slice At ((thereU l.length (fillU l [])).length) qt, .slice Af af.length qf, .func (.func 56) #[] #[.pointer (some ⟨bv, 0, none⟩)], .func (.func 57) #[] #[.pointer (some ⟨bv, 0, none⟩)]] 79, rows encM 3 1 A0 q0 (fillU l []), rows encM 3 1 Au qu (usedU (K.map Sn.l) (fillU l [])), rows encT 4 1 At qt (thereU l.length (fillU l [])), ros encM Ac ch, ros Sn.cells Ak K, natsS (K.map Sn.ar), ros encI Af af, ro (some ⟨bv, 0, none⟩) [.pointer (some ⟨bs, 0, none⟩)], ro (some ⟨b1, 0, none⟩) [.int .i64 n], ro (some ⟨b2, 0, none⟩) [.slice Al l.length cl], ros Ev.cells Al l, argsS (l.map Ev.ar), c] rfl ?_
    refine ToR.nil ?_
    refine To.thenN ?_
    refine ToR.seq ?_
    refine ToR.reg ?_
    refine ToR.rd rfl rfl rfl (Rd.assign rfl rfl) ?_
    refine ToR.nil ?_
    refine To.thenN ?_
    refine ToR.block ?_
    refine To.sub [(0, .func (.yield lp) #[] #[]), (1, .pointer (some ⟨b1, 0, none⟩)), (2, .pointer (some ⟨b2, 0, none⟩)), (4, .pointer (some ⟨bs, 0, none⟩)), (5, .int .i64 ((0 : Nat) : Int))] ⟨rfl, rfl, rfl, rfl, rfl, trivial⟩ ?_
    refine To.only [0, 0, 0, 0, 0, 0, 0, 0, 0, 0, 0, 0, 0, 0] rfl ?_
    refine ToR.loop (fun mz ρ Γ => ∃ (k : Nat) (u : List Nat) (Ao : Option Addr) (qo : Nat) (c : Chunk), ρ = [(0, .func (.yield lp) #[] #[]), (1, .pointer (some ⟨b1, 0, none⟩)), (2, .pointer (some ⟨b2, 0, none⟩)), (4, .pointer (some ⟨bs, 0, none⟩)), (5, .int .i64 ((k : Nat) : Int))] ∧ Γ = [box bs [.slice Ao u.length qo, .slice Ac ch.length qc, .slice Ak K.length qk, .slice Au ((usedU (K.map Sn.l) u).length) qu, .slice At ((thereU l.length u).length) qt, .slice Af af.length qf, .func (.func 56) #[] #[.pointer (some ⟨bv, 0, none⟩)], .func (.func 57) #[] #[.pointer (some ⟨bv, 0, none⟩)]] 79, rows encM 3 1 Ao qo u, rows encM 3 1 Au qu (usedU (K.map Sn.l) u), rows encT 4 1 At qt (thereU l.length u), ros encM Ac ch, ros Sn.cells Ak K, natsS (K.map Sn.ar), ros encI Af af, ro (some ⟨bv, 0, none⟩) [.pointer (some ⟨bs, 0, none⟩)], ro (some ⟨b1, 0, none⟩) [.int .i64 n], ro (some ⟨b2, 0, none⟩) [.slice Al l.length cl], ros Ev.cells Al l, argsS (l.map Ev.ar), c] ∧ mz = (ords l []).length - k ∧ (Rch l u) ∧ (u.length = l.length) ∧ ((ords l []).drop k = u :: later l u) ∧ ((k : Int) < n) ∧ (J k c)) ((ords l []).length - 0) ⟨0, (fillU l []), A0, q0, c, rfl, rfl, rfl, (fill_rch .nil), (fill_len .nil), (by rw [List.drop_zero, ← fill_later .nil, later_nil, List.append_nil]), (by omega), h0⟩ ?_
    rintro mz _ _ ⟨k, u, Ao, qo, c, rfl, rfl, rfl, hu, hul, hd, hkn, hJ⟩
    refine ToR.block ?_
    refine ToR.seq ?_
    refine ToR.reg ?_
    refine ToR.rd rfl rfl rfl (Rd.load (i := 10) rfl rfl c22 rfl (ro_gives (A := some ⟨b2, 0, none⟩) (o := 0) (k := 1) rfl)) ?_
    refine ToR.rd rfl rfl rfl (Rd.len rfl rfl Try.underlying22) ?_
    refine ToR.mk rfl rfl rfl (Mk.make0R Ev.cells rfl s22 rfl rfl (by omega) (by simp only [maxLen]; omega)) ?_
    rintro _ _ ⟨b17, rfl, rfl⟩
    refine To.as [rows Ev.cells 37 9 (some ⟨b17, 0, none⟩) l.length ([] : List Ev), box bs [.slice Ao u.length qo, .slice Ac ch.length qc, .slice Ak K.length qk, .slice Au ((usedU (K.map Sn.l) u).length) qu, .slice At ((thereU l.length u).length) qt, .slice Af af.length qf, .func (.func 56) #[] #[.pointer (some ⟨bv, 0, none⟩)], .func (.func 57) #[] #[.pointer (some ⟨bv, 0, none⟩)]] 79, rows encM 3 1 Ao qo u, rows encM 3 1 Au qu (usedU (K.map Sn.l) u), rows encT 4 1 At qt (thereU l.length u), ros encM Ac ch, ros Sn.cells Ak K, natsS (K.map Sn.ar), ros encI Af af, ro (some ⟨bv, 0, none⟩) [.pointer (some ⟨bs, 0, none⟩)], ro (some ⟨b1, 0, none⟩) [.int .i64 n], ro (some ⟨b2, 0, none⟩) [.slice Al l.length cl], ros Ev.cells Al l, argsS (l.map Ev.ar), c] rfl ?_
    refine ToR.rd rfl rfl rfl (Rd.assign rfl rfl) ?_
    refine ToR.nil ?_
    refine To.thenN ?_
    refine ToR.seq ?_
    refine ToR.seq ?_
    refine ToR.reg ?_
    refine ToR.rd rfl rfl rfl (Rd.move rfl rfl) ?_
    refine ToR.rd rfl rfl rfl (Rd.nilCheck rfl rfl) ?_
    refine ToR.rd rfl rfl rfl (Rd.field rfl rfl fl79_0) ?_
    refine ToR.rd rfl rfl rfl (Rd.load (i := 1) rfl rfl c62 rfl (box_gives1 rfl)) ?_
    refine ToR.rd rfl rfl rfl (Rd.len rfl rfl Try.underlying62) ?_
    refine ToR.rd rfl rfl rfl (Rd.move rfl rfl) ?_
    refine ToR.nil ?_
    refine To.thenN ?_
    refine ToR.block ?_
    refine To.free (c := argsS (([] : List Ev).map Ev.ar)) rfl rfl (fun w p hp => by simp at hp) ?_
    refine To.sub [(0, .func (.yield lp) #[] #[]), (1, .pointer (some ⟨b1, 0, none⟩)), (2, .pointer (some ⟨b2, 0, none⟩)), (4, .pointer (some ⟨bs, 0, none⟩)), (5, .int .i64 ((k : Nat) : Int)), (6, .slice (some ⟨b17, 0, none⟩) ([] : List Ev).length l.length), (21, .slice Ao u.length qo), (22, .int .i64 ((u.length : Nat) : Int)), (23, .int .i64 ((0 : Nat) : Int))] ⟨rfl, rfl, rfl, rfl, rfl, rfl, rfl, rfl, rfl, trivial⟩ ?_
    refine To.only [1, 0, 0, 0, 0, 0, 0, 0, 0, 0, 0, 0, 0, 0, 0, 0] rfl ?_
    refine ToR.loop (fun mz ρ Γ => ∃ (i : Nat) (E : List Ev) (A6 : Option Addr) (q6 : Nat), ρ = [(0, .func (.yield lp) #[] #[]), (1, .pointer (some ⟨b1, 0, none⟩)), (2, .pointer (some ⟨b2, 0, none⟩)), (4, .pointer (some ⟨bs, 0, none⟩)), (5, .int .i64 ((k : Nat) : Int)), (6, .slice A6 E.length q6), (21, .slice Ao u.length qo), (22, .int .i64 ((u.length : Nat) : Int)), (23, .int .i64 ((i : Nat) : Int))] ∧ Γ = [rows Ev.cells 37 9 A6 q6 E, argsS (E.map Ev.ar), box bs [.slice Ao u.length qo, .slice Ac ch.length qc, .slice Ak K.length qk, .slice Au ((usedU (K.map Sn.l) u).length) qu, .slice At ((thereU l.length u).length) qt, .slice Af af.length qf, .func (.func 56) #[] #[.pointer (some ⟨bv, 0, none⟩)], .func (.func 57) #[] #[.pointer (some ⟨bv, 0, none⟩)]] 79, rows encM 3 1 Ao qo u, rows encM 3 1 Au qu (usedU (K.map Sn.l) u), rows encT 4 1 At qt (thereU l.length u), ros encM Ac ch, ros Sn.cells Ak K, natsS (K.map Sn.ar), ros encI Af af, ro (some ⟨bv, 0, none⟩) [.pointer (some ⟨bs, 0, none⟩)], ro (some ⟨b1, 0, none⟩) [.int .i64 n], ro (some ⟨b2, 0, none⟩) [.slice Al l.length cl], ros Ev.cells Al l, argsS (l.map Ev.ar), c] ∧ mz = u.length - i ∧ (i ≤ u.length) ∧ (E.map Ev.val = valsO l (u.take i)) ∧ (∀ e ∈ E, e.args.length ≤ 1000000000000) ∧ (A6.isNone = false)) (u.length - 0) ⟨0, ([] : List Ev), (some ⟨b17, 0, none⟩), l.length, rfl, rfl, rfl, (Nat.zero_le _), rfl, (fun e he => by simp at he), rfl⟩ ?_
    rintro mz _ _ ⟨i, E, A6, q6, rfl, rfl, rfl, hi, hE, hEa, hA6⟩
    have hEl : E.length = i := by
      have h := congrArg List.length hE
      rw [List.length_map] at h
      rw [h, valsO, List.length_map, List.length_take]; omega
    refine ToR.seq ?_
    refine ToR.reg ?_
    refine ToR.rd rfl rfl rfl (Rd.lss rfl rfl rfl) ?_
    refine ToR.nil ?_
    refine To.thenN ?_
    refine ToR.seq ?_
    refine ToR.condP rfl (fun c24 => ?_) (fun c24 => ?_)
    ·
      obtain ⟨p, hp⟩ : ∃ z0, u[i]? = some z0 := ⟨u[i]'(by omega), List.getElem?_eq_getElem _⟩
      have hpl := hu.lt p (List.mem_of_getElem? hp)
      obtain ⟨y, hy⟩ : ∃ z0, l[p]? = some z0 := ⟨l[p]'(by omega), List.getElem?_eq_getElem _⟩
      refine ToR.skip ?_
      refine To.thenN ?_
      refine ToR.seq ?_
      refine ToR.block ?_
      refine ToR.seq ?_
      refine ToR.reg ?_
      refine ToR.rd rfl rfl rfl (Rd.indexRows (i := 3) (j := i) rfl rfl rfl s62 rfl hp) ?_
      refine ToR.rd rfl rfl rfl (Rd.load (i := 3) rfl rfl c3 rfl (gives_1 (rows_gives encM_ok hp) rfl)) ?_
      refine ToR.rd rfl rfl rfl (Rd.assign rfl rfl) ?_
      refine ToR.nil ?_
      refine To.thenN ?_
      refine ToR.reg ?_
      refine ToR.rd rfl rfl rfl (Rd.move rfl rfl) ?_
      refine ToR.rd rfl rfl rfl (Rd.load (i := 12) rfl rfl c22 rfl (ro_gives (A := some ⟨b2, 0, none⟩) (o := 0) (k := 1) rfl)) ?_
      refine ToR.rd rfl rfl rfl (Rd.move rfl rfl) ?_
      refine ToR.rd rfl rfl rfl (Rd.indexRos encE (i := 13) (j := p) rfl rfl rfl s22 rfl hy) ?_
      refine ToR.rd rfl rfl rfl (Rd.loadS (i := 13) rfl rfl r37 rfl (ros_gives encE hy) (encE.len _)) ?_
      refine ToR.callQ rfl rfl rfl (Ent.fn rfl rfl ca34) (clone_fn y (ha y (List.mem_of_getElem? hy))) rfl (oks_cons (oks_S 14 rfl (mem_at hy Ev.ar)) (oks_nil _)) ?_
      rintro _ _ ⟨A1, q1, rfl, rfl⟩
      refine ⟨rfl, ?_⟩
      refine To.as [rows encI 2 1 A1 q1 y.args, rows Ev.cells 37 9 A6 q6 E, argsS (E.map Ev.ar), box bs [.slice Ao u.length qo, .slice Ac ch.length qc, .slice Ak K.length qk, .slice Au ((usedU (K.map Sn.l) u).length) qu, .slice At ((thereU l.length u).length) qt, .slice Af af.length qf, .func (.func 56) #[] #[.pointer (some ⟨bv, 0, none⟩)], .func (.func 57) #[] #[.pointer (some ⟨bv, 0, none⟩)]] 79, rows encM 3 1 Ao qo u, rows encM 3 1 Au qu (usedU (K.map Sn.l) u), rows encT 4 1 At qt (thereU l.length u), ros encM Ac ch, ros Sn.cells Ak K, natsS (K.map Sn.ar), ros encI Af af, ro (some ⟨bv, 0, none⟩) [.pointer (some ⟨bs, 0, none⟩)], ro (some ⟨b1, 0, none⟩) [.int .i64 n], ro (some ⟨b2, 0, none⟩) [.slice Al l.length cl], ros Ev.cells Al l, argsS (l.map Ev.ar), c] rfl ?_
      refine ToR.mk rfl rfl rfl (Mk.sliceN (us := [.int .i64 (({ y with A := A1, cap := q1 } : Ev).t), .int .i64 (({ y with A := A1, cap := q1 } : Ev).c), .int .u8 (({ y with A := A1, cap := q1 } : Ev).k), .int .i64 (({ y with A := A1, cap := q1 } : Ev).p), .int .i64 (({ y with A := A1, cap := q1 } : Ev).n), .int .i64 (({ y with A := A1, cap := q1 } : Ev).cp), .int .i64 (({ y with A := A1, cap := q1 } : Ev).h), .int .i64 (({ y with A := A1, cap := q1 } : Ev).d), .slice (({ y with A := A1, cap := q1 } : Ev).A) (({ y with A := A1, cap := q1 } : Ev).args.length) (({ y with A := A1, cap := q1 } : Ev).cap)]) rfl s22 rfl rfl rfl rfl rfl rfl) ?_
      rintro _ _ ⟨b33, rfl, rfl⟩
      refine To.as [row 37 9 (some ⟨b33, 0, none⟩) 1 1 [.int .i64 (({ y with A := A1, cap := q1 } : Ev).t), .int .i64 (({ y with A := A1, cap := q1 } : Ev).c), .int .u8 (({ y with A := A1, cap := q1 } : Ev).k), .int .i64 (({ y with A := A1, cap := q1 } : Ev).p), .int .i64 (({ y with A := A1, cap := q1 } : Ev).n), .int .i64 (({ y with A := A1, cap := q1 } : Ev).cp), .int .i64 (({ y with A := A1, cap := q1 } : Ev).h), .int .i64 (({ y with A := A1, cap := q1 } : Ev).d), .slice (({ y with A := A1, cap := q1 } : Ev).A) (({ y with A := A1, cap := q1 } : Ev).args.length) (({ y with A := A1, cap := q1 } : Ev).cap)], rows encI 2 1 A1 q1 y.args, rows Ev.cells 37 9 A6 q6 E, argsS (E.map Ev.ar), box bs [.slice Ao u.length qo, .slice Ac ch.length qc, .slice Ak K.length qk, .slice Au ((usedU (K.map Sn.l) u).length) qu, .slice At ((thereU l.length u).length) qt, .slice Af af.length qf, .func (.func 56) #[] #[.pointer (some ⟨bv, 0, none⟩)], .func (.func 57) #[] #[.pointer (some ⟨bv, 0, none⟩)]] 79, rows encM 3 1 Ao qo u, rows encM 3 1 Au qu (usedU (K.map Sn.l) u), rows encT 4 1 At qt (thereU l.length u), ros encM Ac ch, ros Sn.cells Ak K, natsS (K.map Sn.ar), ros encI Af af, ro (some ⟨bv, 0, none⟩) [.pointer (some ⟨bs, 0, none⟩)], ro (some ⟨b1, 0, none⟩) [.int .i64 n], ro (some ⟨b2, 0, none⟩) [.slice Al l.length cl], ros Ev.cells Al l, argsS (l.map Ev.ar), c] rfl ?_
      refine ToR.ge rfl rfl rfl (Ge.append1 encE (i := 2) (j := 0) (el := ({ y with A := A1, cap := q1 } : Ev)) rfl s22 rfl rfl rfl rfl rfl (by first | omega | (simp only [List.length_append, List.length_cons, List.length_nil]; omega)) (by first | omega | (simp only [List.length_append, List.length_cons, List.length_nil]; omega))) ?_
      rintro _ _ ⟨A34, q34, rfl, rfl⟩
      refine To.as [row 37 9 (some ⟨b33, 0, none⟩) 1 1 [.int .i64 (({ y with A := A1, cap := q1 } : Ev).t), .int .i64 (({ y with A := A1, cap := q1 } : Ev).c), .int .u8 (({ y with A := A1, cap := q1 } : Ev).k), .int .i64 (({ y with A := A1, cap := q1 } : Ev).p), .int .i64 (({ y with A := A1, cap := q1 } : Ev).n), .int .i64 (({ y with A := A1, cap := q1 } : Ev).cp), .int .i64 (({ y with A := A1, cap := q1 } : Ev).h), .int .i64 (({ y with A := A1, cap := q1 } : Ev).d), .slice (({ y with A := A1, cap := q1 } : Ev).A) (({ y with A := A1, cap := q1 } : Ev).args.length) (({ y with A := A1, cap := q1 } : Ev).cap)], rows encI 2 1 A1 q1 y.args, rows Ev.cells 37 9 A34 q34 (E ++ [({ y with A := A1, cap := q1 } : Ev)]), argsS (E.map Ev.ar), box bs [.slice Ao u.length qo, .slice Ac ch.length qc, .slice Ak K.length qk, .slice Au ((usedU (K.map Sn.l) u).length) qu, .slice At ((thereU l.length u).length) qt, .slice Af af.length qf, .func (.func 56) #[] #[.pointer (some ⟨bv, 0, none⟩)], .func (.func 57) #[] #[.pointer (some ⟨bv, 0, none⟩)]] 79, rows encM 3 1 Ao qo u, rows encM 3 1 Au qu (usedU (K.map Sn.l) u), rows encT 4 1 At qt (thereU l.length u), ros encM Ac ch, ros Sn.cells Ak K, natsS (K.map Sn.ar), ros encI Af af, ro (some ⟨bv, 0, none⟩) [.pointer (some ⟨bs, 0, none⟩)], ro (some ⟨b1, 0, none⟩) [.int .i64 n], ro (some ⟨b2, 0, none⟩) [.slice Al l.length cl], ros Ev.cells Al l, argsS (l.map Ev.ar), c] rfl ?_
      refine ToR.rd rfl rfl rfl (Rd.assign rfl rfl) ?_
      refine ToR.nil ?_
      refine To.blockN ?_
      refine To.thenN ?_
      refine ToR.reg ?_
      refine ToR.rd rfl rfl rfl (Rd.inc rfl rfl rfl (by omega)) ?_
      refine ToR.rd rfl rfl rfl (Rd.move rfl rfl) ?_
      refine ToR.nil ?_
      refine To.thenN ?_
      refine To.know (p := A34.isNone = false) (fun w hw => by rw [rows_some encE (by decide) (l := E ++ [({ y with A := A1, cap := q1 } : Ev)]) (by simp) 2 rfl hw]; rfl) (fun hA34 => ?_)
      refine To.only [1, 0, 0, 0, 0, 0, 0, 0, 0, 0, 0, 0, 0, 0, 0, 0, 0, 0] rfl ?_
      refine To.layRow ?_
      refine To.derive (argsS (E.map Ev.ar ++ [(A1, y.args)])) rfl (argsS_add 0 3 rfl rfl).1 (argsS_add 0 3 rfl rfl).2 ?_
      rw [show E.map Ev.ar ++ [(A1, y.args)] = (E ++ [({ y with A := A1, cap := q1 } : Ev)]).map Ev.ar by rw [List.map_append]; rfl]
      refine To.sub [(0, .func (.yield lp) #[] #[]), (1, .pointer (some ⟨b1, 0, none⟩)), (2, .pointer (some ⟨b2, 0, none⟩)), (4, .pointer (some ⟨bs, 0, none⟩)), (5, .int .i64 ((k : Nat) : Int)), (6, .slice A34 (E ++ [({ y with A := A1, cap := q1 } : Ev)]).length q34), (21, .slice Ao u.length qo), (22, .int .i64 ((u.length : Nat) : Int)), (23, .int .i64 (((i + 1) : Nat) : Int))] ⟨rfl, rfl, rfl, rfl, rfl, rfl, rfl, rfl, rfl, trivial⟩ ?_
      refine To.only [3, 0, 3, 3, 3, 3, 3, 3, 3, 3, 3, 3, 3, 3, 3, 3] rfl ?_
      refine To.again (u.length - (i + 1)) (by omega) ⟨i + 1, E ++ [({ y with A := A1, cap := q1 } : Ev)], A34, q34, rfl, rfl, rfl, (by omega), (by rw [valsO_push hp hy, List.map_append, hE]; rfl), (fun e he => (List.mem_append.1 he).elim (hEa e) (fun h => by rw [List.mem_singleton.1 h]; exact ha y (List.mem_of_getElem? hy))), hA34⟩
    ·
      refine ToR.exit ?_
      refine To.thenX ?_
      refine To.thenX ?_
      refine To.blockX ?_
      refine To.thenN ?_
      refine ToR.seq ?_
      refine ToR.reg ?_
      refine ToR.rd rfl rfl rfl (Rd.move rfl rfl) ?_
      refine ToR.rd rfl rfl rfl (Rd.inc rfl rfl rfl (by omega)) ?_
      refine ToR.rd rfl rfl rfl (Rd.assign rfl rfl) ?_
      refine ToR.nil ?_
      refine To.thenN ?_
      refine ToR.seq ?_
      refine ToR.reg ?_
      refine ToR.rd rfl rfl rfl (Rd.move rfl rfl) ?_
      refine ToR.rd rfl rfl rfl (Rd.move rfl rfl) ?_
      have hie : i = u.length := by omega
      have hE1 : E.map Ev.val = valsO l u := by rw [hE, hie, List.take_length]
      obtain ⟨hat, hdr⟩ := ords_at hd
      refine ToR.round [0, 0, 13] rfl rfl rfl (EntY.of rfl rfl rfl) rfl (hY k c u A6 q6 E hJ (by omega) hat hE1 hEa hA6) ?_
      rintro _ _ ⟨c', rfl, (⟨rfl, hJ'⟩ | ⟨rfl, hX⟩)⟩
      ·
        refine To.as [c', box bs [.slice Ao u.length qo, .slice Ac ch.length qc, .slice Ak K.length qk, .slice Au ((usedU (K.map Sn.l) u).length) qu, .slice At ((thereU l.length u).length) qt, .slice Af af.length qf, .func (.func 56) #[] #[.pointer (some ⟨bv, 0, none⟩)], .func (.func 57) #[] #[.pointer (some ⟨bv, 0, none⟩)]] 79, rows encM 3 1 Ao qo u, rows encM 3 1 Au qu (usedU (K.map Sn.l) u), rows encT 4 1 At qt (thereU l.length u), ros encM Ac ch, ros Sn.cells Ak K, natsS (K.map Sn.ar), ros encI Af af, ro (some ⟨bv, 0, none⟩) [.pointer (some ⟨bs, 0, none⟩)], ro (some ⟨b1, 0, none⟩) [.int .i64 n], ro (some ⟨b2, 0, none⟩) [.slice Al l.length cl], ros Ev.cells Al l, argsS (l.map Ev.ar)] rfl ?_
        refine ToR.rd rfl rfl rfl (Rd.not rfl rfl) ?_
        refine ToR.rd rfl rfl rfl (Rd.move rfl rfl) ?_
        refine ToR.rd rfl rfl rfl (Rd.move rfl rfl) ?_
        refine ToR.rd rfl rfl rfl (Rd.load (i := 10) rfl rfl c3 rfl (ro_gives (A := some ⟨b1, 0, none⟩) (o := 0) (k := 1) rfl)) ?_
        refine ToR.rd rfl rfl rfl (Rd.eql rfl rfl rfl) ?_
        refine ToR.rd rfl rfl rfl (Rd.pickF rfl rfl rfl) ?_
        refine ToR.rdP rfl rfl rfl (Rd.move rfl rfl) (fun g47 => ?_) (fun g47 => ?_)
        ·
          refine ToR.sk rfl rfl rfl ?_
          refine ToR.sk rfl rfl rfl ?_
          refine ToR.sk rfl rfl rfl ?_
          refine ToR.rd rfl rfl rfl (Rd.pickT rfl rfl rfl) ?_
          refine ToR.nil ?_
          refine To.sub [(0, .func (.yield lp) #[] #[]), (1, .pointer (some ⟨b1, 0, none⟩)), (2, .pointer (some ⟨b2, 0, none⟩)), (4, .pointer (some ⟨bs, 0, none⟩)), (5, .int .i64 ((k + 1 : Nat) : Int)), (6, .slice A6 E.length q6), (21, .slice Ao u.length qo), (22, .int .i64 ((u.length : Nat) : Int)), (23, .int .i64 ((i : Nat) : Int)), (24, .bool (decide (((i : Nat) : Int) < ((u.length : Nat) : Int)))), (51, .bool true)] ⟨rfl, rfl, rfl, rfl, rfl, rfl, rfl, rfl, rfl, rfl, rfl, trivial⟩ ?_
          refine To.thenN ?_
          refine ToR.condT rfl ?_
          refine ToR.ret ?_
          refine To.blockR ?_
          refine To.thenR ?_
          refine To.blockR ?_
          refine To.only [0] rfl ?_
          refine To.end0 (.inl rfl) Try.results45 ?_
          refine ⟨c', rfl, .inl ?_⟩
          have hlen : ((ords l []).take n.toNat).length = k + 1 := by
            rw [List.length_take]
            have h1 := (List.getElem?_eq_some_iff.1 hat).1
            omega
          rw [hlen]; exact hJ'
        ·
          refine ToR.rd rfl rfl rfl (Rd.move rfl rfl) ?_
          refine ToR.call [1, 1, 1, 1, 1, 1, 1, 1, 1] rfl rfl rfl (Ent.fn rfl rfl ca48) rfl (next_fn D (by omega) bs bv Ac Ak Au At Af Ao qc qk qu qt qf qo u hu) ?_
          rintro _ _ (⟨rfl, u', A2, q2, hu', hul', hl', rfl⟩ | ⟨rfl, hl', rfl⟩)
          ·
            refine To.as [box bs [.slice A2 u'.length q2, .slice Ac ch.length qc, .slice Ak K.length qk, .slice Au ((usedU (K.map Sn.l) u').length) qu, .slice At ((thereU l.length u').length) qt, .slice Af af.length qf, .func (.func 56) #[] #[.pointer (some ⟨bv, 0, none⟩)], .func (.func 57) #[] #[.pointer (some ⟨bv, 0, none⟩)]] 79, rows encM 3 1 A2 q2 u', rows encM 3 1 Au qu (usedU (K.map Sn.l) u'), rows encT 4 1 At qt (thereU l.length u'), ros encM Ac ch, ros Sn.cells Ak K, natsS (K.map Sn.ar), ros encI Af af, ro (some ⟨bv, 0, none⟩) [.pointer (some ⟨bs, 0, none⟩)], c', ro (some ⟨b1, 0, none⟩) [.int .i64 n], ro (some ⟨b2, 0, none⟩) [.slice Al l.length cl], ros Ev.cells Al l, argsS (l.map Ev.ar)] rfl ?_
            refine ToR.rd rfl rfl rfl (Rd.not rfl rfl) ?_
            refine ToR.rd rfl rfl rfl (Rd.pickF rfl rfl rfl) ?_
            refine ToR.nil ?_
            refine To.sub [(0, .func (.yield lp) #[] #[]), (1, .pointer (some ⟨b1, 0, none⟩)), (2, .pointer (some ⟨b2, 0, none⟩)), (4, .pointer (some ⟨bs, 0, none⟩)), (5, .int .i64 ((k + 1 : Nat) : Int)), (6, .slice A6 E.length q6), (21, .slice Ao u.length qo), (22, .int .i64 ((u.length : Nat) : Int)), (23, .int .i64 ((i : Nat) : Int)), (24, .bool (decide (((i : Nat) : Int) < ((u.length : Nat) : Int)))), (51, .bool false)] ⟨rfl, rfl, rfl, rfl, rfl, rfl, rfl, rfl, rfl, rfl, rfl, trivial⟩ ?_
            refine To.thenN ?_
            refine ToR.condF rfl ?_
            refine ToR.skip ?_
            refine To.blockN ?_
            refine To.thenN ?_
            refine To.sub [(0, .func (.yield lp) #[] #[]), (1, .pointer (some ⟨b1, 0, none⟩)), (2, .pointer (some ⟨b2, 0, none⟩)), (4, .pointer (some ⟨bs, 0, none⟩)), (5, .int .i64 (((k + 1) : Nat) : Int))] ⟨rfl, rfl, rfl, rfl, rfl, trivial⟩ ?_
            refine To.only [0, 0, 0, 0, 0, 0, 0, 0, 0, 1, 1, 1, 1, 0] rfl ?_
            refine To.again ((ords l []).length - (k + 1)) (by have := (List.getElem?_eq_some_iff.1 hat).1; omega) ⟨k + 1, u', A2, q2, c', rfl, rfl, rfl, hu', hul', (hdr.trans hl'), (by omega), hJ'⟩
          ·
            refine To.as [c', ro (some ⟨b1, 0, none⟩) [.int .i64 n], ro (some ⟨b2, 0, none⟩) [.slice Al l.length cl], ros Ev.cells Al l, argsS (l.map Ev.ar)] rfl ?_
            refine ToR.rd rfl rfl rfl (Rd.not rfl rfl) ?_
            refine ToR.rd rfl rfl rfl (Rd.pickF rfl rfl rfl) ?_
            refine ToR.nil ?_
            refine To.sub [(0, .func (.yield lp) #[] #[]), (1, .pointer (some ⟨b1, 0, none⟩)), (2, .pointer (some ⟨b2, 0, none⟩)), (4, .pointer (some ⟨bs, 0, none⟩)), (5, .int .i64 ((k + 1 : Nat) : Int)), (6, .slice A6 E.length q6), (21, .slice Ao u.length qo), (22, .int .i64 ((u.length : Nat) : Int)), (23, .int .i64 ((i : Nat) : Int)), (24, .bool (decide (((i : Nat) : Int) < ((u.length : Nat) : Int)))), (51, .bool true)] ⟨rfl, rfl, rfl, rfl, rfl, rfl, rfl, rfl, rfl, rfl, rfl, trivial⟩ ?_
            refine To.thenN ?_
            refine ToR.condT rfl ?_
            refine ToR.ret ?_
            refine To.blockR ?_
            refine To.thenR ?_
            refine To.blockR ?_
            refine To.only [0] rfl ?_
            refine To.end0 (.inl rfl) Try.results45 ?_
            refine ⟨c', rfl, .inl ?_⟩
            have hlen : ((ords l []).take n.toNat).length = k + 1 := by
              rw [List.length_take]
              have h1 := (List.getElem?_eq_some_iff.1 hat).1
              have h2 : (ords l []).length ≤ k + 1 := List.drop_eq_nil_iff.1 (hdr.trans hl')
              omega
            rw [hlen]; exact hJ'
      ·
        refine To.as [c', box bs [.slice Ao u.length qo, .slice Ac ch.length qc, .slice Ak K.length qk, .slice Au ((usedU (K.map Sn.l) u).length) qu, .slice At ((thereU l.length u).length) qt, .slice Af af.length qf, .func (.func 56) #[] #[.pointer (some ⟨bv, 0, none⟩)], .func (.func 57) #[] #[.pointer (some ⟨bv, 0, none⟩)]] 79, rows encM 3 1 Ao qo u, rows encM 3 1 Au qu (usedU (K.map Sn.l) u), rows encT 4 1 At qt (thereU l.length u), ros encM Ac ch, ros Sn.cells Ak K, natsS (K.map Sn.ar), ros encI Af af, ro (some ⟨bv, 0, none⟩) [.pointer (some ⟨bs, 0, none⟩)], ro (some ⟨b1, 0, none⟩) [.int .i64 n], ro (some ⟨b2, 0, none⟩) [.slice Al l.length cl], ros Ev.cells Al l, argsS (l.map Ev.ar)] rfl ?_
        refine ToR.rd rfl rfl rfl (Rd.not rfl rfl) ?_
        refine ToR.rd rfl rfl rfl (Rd.move rfl rfl) ?_
        refine ToR.sk rfl rfl rfl ?_
        refine ToR.sk rfl rfl rfl ?_
        refine ToR.sk rfl rfl rfl ?_
        refine ToR.rd rfl rfl rfl (Rd.pickT rfl rfl rfl) ?_
        refine ToR.rd rfl rfl rfl (Rd.move rfl rfl) ?_
        refine ToR.sk rfl rfl rfl ?_
        refine ToR.sk rfl rfl rfl ?_
        refine ToR.sk rfl rfl rfl ?_
        refine ToR.rd rfl rfl rfl (Rd.pickT rfl rfl rfl) ?_
        refine ToR.nil ?_
        refine To.sub [(0, .func (.yield lp) #[] #[]), (1, .pointer (some ⟨b1, 0, none⟩)), (2, .pointer (some ⟨b2, 0, none⟩)), (4, .pointer (some ⟨bs, 0, none⟩)), (5, .int .i64 ((k + 1 : Nat) : Int)), (6, .slice A6 E.length q6), (21, .slice Ao u.length qo), (22, .int .i64 ((u.length : Nat) : Int)), (23, .int .i64 ((i : Nat) : Int)), (24, .bool (decide (((i : Nat) : Int) < ((u.length : Nat) : Int)))), (51, .bool true)] ⟨rfl, rfl, rfl, rfl, rfl, rfl, rfl, rfl, rfl, rfl, rfl, trivial⟩ ?_
        refine To.thenN ?_
        refine ToR.condT rfl ?_
        refine ToR.ret ?_
        refine To.blockR ?_
        refine To.thenR ?_
        refine To.blockR ?_
        refine To.only [0] rfl ?_
        refine To.end0 (.inl rfl) Try.results45 ?_
        exact ⟨c', rfl, .inr hX⟩
end Go.Proofs.Ytneimfacccgaeaa
