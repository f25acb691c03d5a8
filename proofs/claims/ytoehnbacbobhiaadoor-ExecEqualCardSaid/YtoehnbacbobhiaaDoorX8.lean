/- Run, of a unit without tables, sends and disk, on variables alone. Own text (walks printed by sx.py). -/
import Derived.Test.YtoehnbacbobhiaaDoorX7
namespace Go.Proofs.YtoehnbacbobhiaaDoor
open Go.RowKit Go.Flow Go.Mem Go.Sep
abbrev s0 (A : Option Addr) (q : Nat) (l : List Ins) : Sm := ⟨A, q, l, none, 0, [], 0, none, 0, [], 0, none, 0, []⟩
abbrev d0V (V : List Int) : Dv := ⟨V, [], [], [], 0, [], 0, 0, 0, false⟩
set_option maxHeartbeats 2000000 in
set_option maxRecDepth 100000 in
theorem run1_fn (st : Int) (A Av : Option Addr) (q qv : Nat) (l : List Ins) (V : List Int) (hV : V.length ≤ 1000000) (hv0 : verifyV 0 st l = 0) (hc : l.length ≤ 4000) (href : ∀ x ∈ l, referB x V.length 0 0 = true) (I : Dv → Prop) (hR : Runs (s0 A q l) I) (hI : I (d0V V)) :
    Does Tryd.prog 5 [.agg #[.int .i64 0, .int .i64 st, .slice A l.length q], .agg #[.slice Av V.length qv, .slice none 0 0, .slice none 0 0], .agg #[.slice none 0 0, .int .i64 0, .slice none 0 0, .int .i64 0, .slice none 0 0]] [ros Ins.cells A l, ros encI Av V, tabC] (fun v Γ' => ∃ d' : Dm, v = .tuple #[.agg #[.slice d'.Av d'.vars.length d'.qv, .slice d'.At d'.tabs.length d'.qt, .slice d'.dk.A d'.dk.l.length d'.dk.q, .slice d'.Ae d'.effs.length d'.qe, .int .i64 d'.cost], .int .i64 0] ∧ Γ' = [rows encI 2 1 d'.Av d'.qv d'.vars, rows Ef.cells 48 8 d'.Ae d'.qe d'.effs] ∧ d'.val = runV (s0 A q l) 1048576 (d0V V)) := by
  refine Does.enter Tryd.func5 rfl Tryd.ntmps5 rfl (fun w0 => ?_)
  refine To.seq ?_
  refine To.reg ?_
  refine To.boxed rfl rfl rfl rfl rfl rfl (fun b3 => ?_)
  refine To.boxed rfl rfl rfl rfl rfl rfl (fun b4 => ?_)
  refine To.boxed rfl rfl rfl rfl rfl rfl (fun b5 => ?_)
  refine To.alloc rfl rfl rfl rfl z37 (fun b6 => ?_)
  refine To.rd rfl rfl rfl (Rd.assign rfl rfl) ?_
  refine To.nil ?_
  refine To.thenN ?_
  refine To.seq ?_
  refine To.seq ?_
  refine To.reg ?_
  refine To.rd rfl rfl rfl (Rd.loadS (i := 3) rfl rfl r27 rfl box_whole rfl) ?_
  refine To.callV rfl rfl rfl (Ent.fn rfl rfl ca11) ((verify_fn 0 st A q l).mono (R' := fun v _ => v = .int .i64 0) (fun v _ h => by rw [h, hv0])) rfl (oks_cons (oks_at 4 rfl) (oks_cons (oks_at 6 rfl) (oks_nil _))) ?_
  refine To.rd rfl rfl rfl (Rd.assign rfl rfl) ?_
  refine To.nil ?_
  refine To.thenN ?_
  refine To.seq ?_
  refine To.reg ?_
  refine To.rd rfl rfl rfl (Rd.move rfl rfl) ?_
  refine To.rd rfl rfl rfl (Rd.neq rfl rfl rfl) ?_
  refine To.nil ?_
  refine To.thenN ?_
  refine To.condF rfl ?_
  refine To.skip ?_
  refine To.thenN ?_
  refine To.seq ?_
  refine To.seq ?_
  refine To.reg ?_
  refine To.rd rfl rfl rfl (Rd.field rfl rfl fl44_0) ?_
  refine To.rd rfl rfl rfl (Rd.load (i := 1) rfl rfl c28 rfl (box_gives1 rfl)) ?_
  refine To.rd rfl rfl rfl (Rd.len rfl rfl Tryd.underlying28) ?_
  refine To.rd rfl rfl rfl (Rd.field rfl rfl fl27_0) ?_
  refine To.rd rfl rfl rfl (Rd.load (i := 3) rfl rfl c3 rfl (box_gives1 rfl)) ?_
  refine To.rd rfl rfl rfl (Rd.neq rfl rfl rfl) ?_
  refine To.nil ?_
  refine To.thenN ?_
  refine To.condF rfl ?_
  refine To.skip ?_
  refine To.thenN ?_
  refine To.seq ?_
  refine To.seq ?_
  refine To.reg ?_
  refine To.rd rfl rfl rfl (Rd.field rfl rfl fl27_2) ?_
  refine To.rd rfl rfl rfl (Rd.load (i := 3) rfl rfl c25 rfl (box_gives1 rfl)) ?_
  refine To.rd rfl rfl rfl (Rd.len rfl rfl Tryd.underlying25) ?_
  refine To.rd rfl rfl rfl (Rd.move rfl rfl) ?_
  refine To.nil ?_
  refine To.thenN ?_
  refine To.block ?_
  refine To.sub [(3, .pointer (some ⟨b3, 0, none⟩)), (4, .pointer (some ⟨b4, 0, none⟩)), (5, .pointer (some ⟨b5, 0, none⟩)), (6, .pointer (some ⟨b6, 0, none⟩)), (26, .slice A l.length q), (27, .int .i64 ((l.length : Nat) : Int)), (28, .int .i64 ((0 : Nat) : Int))] ⟨rfl, rfl, rfl, rfl, rfl, rfl, rfl, trivial⟩ ?_
  refine To.only [3, 2, 1, 0, 0, 0, 0] rfl ?_
  refine To.loop (fun mz ρ Γ => ∃ (i : Nat), ρ = [(3, .pointer (some ⟨b3, 0, none⟩)), (4, .pointer (some ⟨b4, 0, none⟩)), (5, .pointer (some ⟨b5, 0, none⟩)), (6, .pointer (some ⟨b6, 0, none⟩)), (26, .slice A l.length q), (27, .int .i64 ((l.length : Nat) : Int)), (28, .int .i64 ((i : Nat) : Int))] ∧ Γ = [box b3 [.int .i64 0, .int .i64 st, .slice A l.length q] 27, box b4 [.slice Av V.length qv, .slice none 0 0, .slice none 0 0] 34, box b5 [.slice none 0 0, .int .i64 0, .slice none 0 0, .int .i64 0, .slice none 0 0] 44, box b6 [.slice none 0 0, .slice none 0 0, .slice none 0 0, .slice none 0 0, .int .i64 0] 37, ros Ins.cells A l, ros encI Av V, tabC] ∧ mz = l.length - i ∧ (i ≤ l.length)) (l.length - 0) ⟨0, rfl, rfl, rfl, (Nat.zero_le _)⟩ ?_
  rintro mz _ _ ⟨i, rfl, rfl, rfl, hi⟩
  refine To.seq ?_
  refine To.reg ?_
  refine To.rd rfl rfl rfl (Rd.lss rfl rfl rfl) ?_
  refine To.nil ?_
  refine To.thenN ?_
  refine To.seq ?_
  refine To.condP rfl (fun k29 => ?_) (fun k29 => ?_)
  ·
    obtain ⟨x, hx⟩ : ∃ z0, l[i]? = some z0 := ⟨l[i]'(by omega), List.getElem?_eq_getElem _⟩
    refine To.skip ?_
    refine To.thenN ?_
    refine To.seq ?_
    refine To.block ?_
    refine To.seq ?_
    refine To.reg ?_
    refine To.rd rfl rfl rfl (Rd.indexRos encIn (i := 4) (j := i) rfl rfl rfl s25 rfl hx) ?_
    refine To.rd rfl rfl rfl (Rd.loadS (i := 4) rfl rfl r24 rfl (ros_gives encIn hx) (encIn.len _)) ?_
    refine To.alloc rfl rfl rfl rfl z24 (fun b10 => ?_)
    refine To.up rfl rfl (Up.storeS (i := 0) rfl rfl rfl r24 rfl rfl rfl (box_takesAll rfl)) ?_
    refine To.nil ?_
    refine To.thenN ?_
    refine To.seq ?_
    refine To.reg ?_
    refine To.rd rfl rfl rfl (Rd.loadS (i := 0) rfl rfl r24 rfl box_whole rfl) ?_
    refine To.rd rfl rfl rfl (Rd.loadS (i := 2) rfl rfl r34 rfl box_whole rfl) ?_
    refine To.rd rfl rfl rfl (Rd.loadS (i := 3) rfl rfl r44 rfl box_whole rfl) ?_
    refine To.callV rfl rfl rfl (Ent.fn rfl rfl ca12) ((refers_fn x Av none none none none none V.length qv 0 0 0 0 0 0 0 0 0 0 0 0).mono (R' := fun v _ => v = .bool true) (fun v _ h => by rw [h, href x (List.mem_of_getElem? hx)])) rfl (oks_nil _) ?_
    refine To.rd rfl rfl rfl (Rd.not rfl rfl) ?_
    refine To.nil ?_
    refine To.thenN ?_
    refine To.condF rfl ?_
    refine To.skip ?_
    refine To.blockN ?_
    refine To.thenN ?_
    refine To.reg ?_
    refine To.rd rfl rfl rfl (Rd.inc rfl rfl rfl (by omega)) ?_
    refine To.rd rfl rfl rfl (Rd.move rfl rfl) ?_
    refine To.nil ?_
    refine To.thenN ?_
    refine To.sub [(3, .pointer (some ⟨b3, 0, none⟩)), (4, .pointer (some ⟨b4, 0, none⟩)), (5, .pointer (some ⟨b5, 0, none⟩)), (6, .pointer (some ⟨b6, 0, none⟩)), (26, .slice A l.length q), (27, .int .i64 ((l.length : Nat) : Int)), (28, .int .i64 (((i + 1) : Nat) : Int))] ⟨rfl, rfl, rfl, rfl, rfl, rfl, rfl, trivial⟩ ?_
    refine To.only [1, 1, 1, 1, 1, 1, 1] rfl ?_
    refine To.again (l.length - (i + 1)) (by omega) ⟨i + 1, rfl, rfl, rfl, (by omega)⟩
  ·
    refine To.exit ?_
    refine To.thenX ?_
    refine To.thenX ?_
    refine To.blockX ?_
    refine To.thenN ?_
    refine To.seq ?_
    refine To.reg ?_
    refine To.rd rfl rfl rfl (Rd.field rfl rfl fl27_2) ?_
    refine To.rd rfl rfl rfl (Rd.load (i := 0) rfl rfl c25 rfl (box_gives1 rfl)) ?_
    refine To.rd rfl rfl rfl (Rd.loadS (i := 2) rfl rfl r44 rfl box_whole rfl) ?_
    refine To.rd rfl rfl rfl (Rd.build (vs := [(1, .slice A l.length q), (2, .agg #[.slice none 0 0, .int .i64 0, .slice none 0 0, .int .i64 0, .slice none 0 0])]) (cells := [.slice none 0 0, .slice none 0 0, .slice none 0 0, .slice none 0 0, .int .i64 0, .slice A l.length q, .slice none 0 0, .int .i64 0, .slice none 0 0, .int .i64 0, .slice none 0 0, .slice none 0 0, .int .i64 0, .int .i64 0, .int .i64 0, .bool false]) rfl rfl rfl (by kernel_rfl)) ?_
    refine To.boxed rfl rfl rfl rfl rfl rfl (fun b43 => ?_)
    refine To.rd rfl rfl rfl (Rd.assign rfl rfl) ?_
    refine To.nil ?_
    refine To.thenN ?_
    refine To.seq ?_
    refine To.reg ?_
    refine To.rd rfl rfl rfl (Rd.move rfl rfl) ?_
    refine To.rd rfl rfl rfl (Rd.field rfl rfl fl44_4) ?_
    refine To.rd rfl rfl rfl (Rd.load (i := 3) rfl rfl c42 rfl (box_gives1 rfl)) ?_
    refine To.callV rfl rfl rfl (Ent.fn rfl rfl ca13) (cloneN_fn) rfl (oks_nil _) ?_
    refine To.rd rfl rfl rfl (Rd.nilCheck rfl rfl) ?_
    refine To.rd rfl rfl rfl (Rd.field rfl rfl fl69_2) ?_
    refine To.rd rfl rfl rfl (Rd.field rfl rfl fl44_4) ?_
    refine To.up rfl rfl (Up.store (i := 0) rfl rfl rfl c42 rfl rfl (box_takes1 rfl)) ?_
    refine To.nil ?_
    refine To.thenN ?_
    refine To.seq ?_
    refine To.reg ?_
    refine To.rd rfl rfl rfl (Rd.move rfl rfl) ?_
    refine To.rd rfl rfl rfl (Rd.nilCheck rfl rfl) ?_
    refine To.rd rfl rfl rfl (Rd.field rfl rfl fl69_2) ?_
    refine To.rd rfl rfl rfl (Rd.field rfl rfl fl44_4) ?_
    refine To.rd rfl rfl rfl (Rd.load (i := 0) rfl rfl c42 rfl (box_gives1 rfl)) ?_
    refine To.callV rfl rfl rfl (Ent.fn rfl rfl ca14) (sortO_fn) rfl (oks_nil _) ?_
    refine To.nil ?_
    refine To.sub [(3, .pointer (some ⟨b3, 0, none⟩)), (4, .pointer (some ⟨b4, 0, none⟩)), (5, .pointer (some ⟨b5, 0, none⟩)), (6, .pointer (some ⟨b6, 0, none⟩)), (26, .slice A l.length q), (27, .int .i64 ((l.length : Nat) : Int)), (28, .int .i64 ((i : Nat) : Int)), (29, .bool (decide (((i : Nat) : Int) < ((l.length : Nat) : Int)))), (11, .pointer (some ⟨b43, 0, none⟩))] ⟨rfl, rfl, rfl, rfl, rfl, rfl, rfl, rfl, rfl, trivial⟩ ?_
    refine To.thenN ?_
    refine To.seq ?_
    refine To.flow [box b4 [.slice Av V.length qv, .slice none 0 0, .slice none 0 0] 34] [⟨0, [], 0⟩, ⟨1, [], 0⟩, ⟨2, [], 0⟩, ⟨4, [], 0⟩, ⟨5, [], 0⟩, ⟨7, [], 0⟩, ⟨8, [], 0⟩, ⟨3, [], 4⟩, ⟨6, [3], 3⟩, ⟨9, [3], 0⟩, ⟨10, [3], 0⟩, ⟨11, [3], 0⟩, ⟨12, [3], 0⟩, ⟨13, [3], 5⟩] mixed (by kernel_rfl) (oks_cons (oks_at 2 rfl) (oks_nil _)) ?_
    refine FlowS.free rfl rfl rfl rfl (Rd.move rfl rfl) ?_
    refine FlowS.free rfl rfl rfl rfl (Rd.field rfl rfl fl34_0) ?_
    refine FlowS.free rfl rfl rfl rfl (Rd.load (i := 0) rfl rfl c28 rfl (box_gives1 rfl)) ?_
    refine FlowS.free rfl rfl rfl rfl (Rd.field rfl rfl fl34_1) ?_
    refine FlowS.free rfl rfl rfl rfl (Rd.load (i := 0) rfl rfl c29 rfl (box_gives1 rfl)) ?_
    refine FlowS.free rfl rfl rfl rfl (Rd.field rfl rfl fl34_2) ?_
    refine FlowS.free rfl rfl rfl rfl (Rd.loadS (i := 0) (us := [.slice none 0 0]) rfl rfl r32 rfl (box_gives (n := 1) rfl) rfl) ?_
    refine FlowS.callM rfl rfl rfl rfl rfl (Ent.fn rfl rfl ca15) (clone64_fn Av qv V hV) rfl (oks_cons (oks_at 6 rfl) (oks_nil _)) ?_
    rintro _ _ ⟨B, p, rfl, rfl⟩
    refine ⟨rfl, ?_⟩
    refine FlowS.callQ rfl rfl rfl rfl (Ent.fn rfl rfl ca16) (cloneT_fn) rfl (oks_nil _) ?_
    refine FlowS.free rfl rfl rfl rfl (Rd.build (vs := [(0, .slice B V.length p), (1, .slice none 0 0), (2, .agg #[.slice none 0 0])]) (cells := [.slice B V.length p, .slice none 0 0, .slice none 0 0]) rfl rfl rfl (by kernel_rfl)) ?_
    refine FlowS.free rfl rfl rfl rfl (Rd.nilCheck rfl rfl) ?_
    refine FlowS.free rfl rfl rfl rfl (Rd.field rfl rfl fl69_0) ?_
    refine FlowS.free rfl rfl rfl rfl (Rd.field rfl rfl fl37_0) ?_
    refine FlowS.up (Γ' := [rows encI 2 1 B p V, box b43 [.slice B V.length p, .slice none 0 0, .slice none 0 0, .slice none 0 0, .int .i64 0, .slice A l.length q, .slice none 0 0, .int .i64 0, .slice none 0 0, .int .i64 0, .slice none 0 0, .slice none 0 0, .int .i64 0, .int .i64 0, .int .i64 0, .bool false] 69, box b3 [.int .i64 0, .int .i64 st, .slice A l.length q] 27, box b4 [.slice Av V.length qv, .slice none 0 0, .slice none 0 0] 34, box b5 [.slice none 0 0, .int .i64 0, .slice none 0 0, .int .i64 0, .slice none 0 0] 44, box b6 [.slice none 0 0, .slice none 0 0, .slice none 0 0, .slice none 0 0, .int .i64 0] 37, ros Ins.cells A l, ros encI Av V, tabC]) rfl rfl rfl (Up.storeS (i := 1) rfl rfl rfl r34 rfl rfl rfl (box_takes (ds := [.slice B V.length p, .slice none 0 0, .slice none 0 0, .slice none 0 0, .int .i64 0, .slice A l.length q, .slice none 0 0, .int .i64 0, .slice none 0 0, .int .i64 0, .slice none 0 0, .slice none 0 0, .int .i64 0, .int .i64 0, .int .i64 0, .bool false]) rfl rfl)) (oks_cons (oks_at 3 rfl) (oks_nil _)) ?_
    refine FlowS.fin ?_
    refine To.as [rows encI 2 1 B p V, box b43 [.slice B V.length p, .slice none 0 0, .slice none 0 0, .slice none 0 0, .int .i64 0, .slice A l.length q, .slice none 0 0, .int .i64 0, .slice none 0 0, .int .i64 0, .slice none 0 0, .slice none 0 0, .int .i64 0, .int .i64 0, .int .i64 0, .bool false] 69, box b3 [.int .i64 0, .int .i64 st, .slice A l.length q] 27, box b4 [.slice Av V.length qv, .slice none 0 0, .slice none 0 0] 34, box b5 [.slice none 0 0, .int .i64 0, .slice none 0 0, .int .i64 0, .slice none 0 0] 44, box b6 [.slice none 0 0, .slice none 0 0, .slice none 0 0, .slice none 0 0, .int .i64 0] 37, ros Ins.cells A l, ros encI Av V, tabC] rfl ?_
    refine To.sub [(3, .pointer (some ⟨b3, 0, none⟩)), (4, .pointer (some ⟨b4, 0, none⟩)), (5, .pointer (some ⟨b5, 0, none⟩)), (6, .pointer (some ⟨b6, 0, none⟩)), (26, .slice A l.length q), (27, .int .i64 ((l.length : Nat) : Int)), (28, .int .i64 ((i : Nat) : Int)), (29, .bool (decide (((i : Nat) : Int) < ((l.length : Nat) : Int)))), (11, .pointer (some ⟨b43, 0, none⟩))] ⟨rfl, rfl, rfl, rfl, rfl, rfl, rfl, rfl, rfl, trivial⟩ ?_
    refine To.thenN ?_
    refine To.seq ?_
    refine To.nilRow (encI) 2 1 ?_
    refine To.nilRow (Ef.cells) 48 8 ?_
    refine To.free (c := ros encI none []) rfl rfl (fun w => .inl rfl) ?_
    refine To.free (c := ros encB none []) rfl rfl (fun w => .inl rfl) ?_
    refine To.dup 10 rfl rfl ?_
    refine To.reg ?_
    refine To.rd rfl rfl rfl (Rd.move rfl rfl) ?_
    refine To.call [6, 5, 4, 3, 2, 1, 0] rfl rfl rfl (Ent.fn rfl rfl ca17) rfl (run0_fn b43 (s0 A q l) I hR hc ⟨B, p, V, none, 0, [], ⟨none, 0, []⟩, none, 0, [], 0, none, 0, [], 0, 0, 0, false⟩ hI) ?_
    rintro _ _ ⟨rfl, d', ⟨k1, k2, k3, k4⟩, rfl, hv⟩
    refine To.as [box b43 [.slice d'.Av d'.vars.length d'.qv, .slice d'.At d'.tabs.length d'.qt, .slice d'.dk.A d'.dk.l.length d'.dk.q, .slice d'.Ae d'.effs.length d'.qe, .int .i64 d'.cost, .slice A l.length q, .slice none 0 0, .int .i64 0, .slice none 0 0, .int .i64 0, .slice none 0 0, .slice d'.As d'.stack.length d'.qs, .int .i64 d'.next, .int .i64 d'.sends, .int .i64 d'.disks, .bool d'.fault] 69, rows encI 2 1 d'.Av d'.qv d'.vars, rows encI 2 1 d'.As d'.qs d'.stack, rows Ef.cells 48 8 d'.Ae d'.qe d'.effs, box b3 [.int .i64 0, .int .i64 st, .slice A l.length q] 27, box b4 [.slice Av V.length qv, .slice none 0 0, .slice none 0 0] 34, box b5 [.slice none 0 0, .int .i64 0, .slice none 0 0, .int .i64 0, .slice none 0 0] 44, box b6 [.slice none 0 0, .slice none 0 0, .slice none 0 0, .slice none 0 0, .int .i64 0] 37, ros Ins.cells A l, ros encI Av V, tabC] rfl ?_
    refine To.nil ?_
    refine To.thenN ?_
    refine To.seq ?_
    refine To.reg ?_
    refine To.rd rfl rfl rfl (Rd.move rfl rfl) ?_
    refine To.rd rfl rfl rfl (Rd.nilCheck rfl rfl) ?_
    refine To.rd rfl rfl rfl (Rd.field rfl rfl fl69_0) ?_
    refine To.rd rfl rfl rfl (Rd.loadS (i := 0) (us := [.slice d'.Av d'.vars.length d'.qv, .slice d'.At d'.tabs.length d'.qt, .slice d'.dk.A d'.dk.l.length d'.dk.q, .slice d'.Ae d'.effs.length d'.qe, .int .i64 d'.cost]) rfl rfl r37 rfl (box_gives (n := 5) rfl) rfl) ?_
    refine To.up rfl rfl (Up.storeS (i := 7) rfl rfl rfl r37 rfl rfl rfl (box_takesAll rfl)) ?_
    refine To.rd rfl rfl rfl (Rd.assign rfl rfl) ?_
    refine To.nil ?_
    refine To.thenN ?_
    refine To.ret ?_
    refine To.endCT [1, 2] rfl (.inl rfl) Tryd.results5 rfl (i := 7) rfl r37 rfl rfl ?_
    exact ⟨d', rfl, rfl, hv⟩
end Go.Proofs.YtoehnbacbobhiaaDoor
