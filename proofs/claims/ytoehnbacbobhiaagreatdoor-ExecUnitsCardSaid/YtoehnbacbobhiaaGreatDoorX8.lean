/- Run, of a unit without tables, sends and disk, on variables alone. Own text (walks printed by sx.py). -/
import Derived.Test.YtoehnbacbobhiaaGreatDoorL1
import Derived.Test.YtoehnbacbobhiaaGreatDoorX7
set_option linter.unusedVariables false
set_option linter.unusedSimpArgs false
namespace Go.Proofs.YtoehnbacbobhiaaGreatDoor
open Go.RowKit Go.Flow Go.Mem Go.Sep
abbrev s0 (A : Option Addr) (q : Nat) (l : List Ins) : Sm := ⟨A, q, l, none, 0, [], 0, none, 0, [], 0, none, 0, []⟩
abbrev d0V (V : List Int) : Dv := ⟨V, [], [], [], 0, [], 0, 0, 0, false⟩
set_option maxHeartbeats 2000000 in
set_option maxRecDepth 100000 in
theorem run1_fn (st : Int) (A Av : Option Addr) (q qv : Nat) (l : List Ins) (V : List Int) (hV : V.length ≤ 1000000) (hv0 : verifyV 0 st l = 0) (hc : l.length ≤ 4000) (href : ∀ x ∈ l, referB x V.length 0 0 = true) (I : Dv → Prop) (hR : Runs (s0 A q l) I) (hI : I (d0V V)) :
    Does Tryz.prog 5 [.agg #[.int .i64 0, .int .i64 st, .slice A l.length q], .agg #[.slice Av V.length qv, .slice none 0 0, .slice none 0 0], .agg #[.slice none 0 0, .int .i64 0, .slice none 0 0, .int .i64 0, .slice none 0 0]] [ros Ins.cells A l, ros encI Av V, tabC] (fun v Γ' => ∃ d' : Dm, v = .tuple #[.agg #[.slice d'.Av d'.vars.length d'.qv, .slice d'.At d'.tabs.length d'.qt, .slice d'.dk.A d'.dk.l.length d'.dk.q, .slice d'.Ae d'.effs.length d'.qe, .int .i64 d'.cost], .int .i64 0] ∧ Γ' = [rows encI 2 1 d'.Av d'.qv d'.vars, rows Ef.cells 84 8 d'.Ae d'.qe d'.effs] ∧ d'.val = runV (s0 A q l) 1048576 (d0V V)) := by
  refine Does.enter Tryz.func5 rfl Tryz.ntmps5 rfl (fun w0 => ?_)
  refine To.seq (To.reg ?_)
  refine To.boxed rfl rfl rfl rfl rfl rfl (fun b3 => ?_)
  refine To.boxed rfl rfl rfl rfl rfl rfl (fun b4 => ?_)
  refine To.boxed rfl rfl rfl rfl rfl rfl (fun b5 => ?_)
  refine To.alloc rfl rfl rfl rfl z56 (fun b6 => ?_)
  refine To.a (To.nil (To.thenN (To.seq (To.seq (To.reg ?_)))))
  refine To.r (Rd.loadS (i := 3) rfl rfl r31 rfl box_whole rfl) ?_
  refine To.callV rfl rfl rfl (Ent.fn rfl rfl ca7) ((verify_fn 0 st A q l).mono (R' := fun v _ => v = .int .i64 0) (fun v _ h => by rw [h, hv0])) rfl (oks_cons (oks_at 4 rfl) (oks_cons (oks_at 6 rfl) (oks_nil _))) ?_
  refine To.a (To.nil (To.thenN (To.seq (To.reg ?_))))
  refine To.m ?_
  refine To.r (Rd.neq rfl rfl rfl) ?_
  refine To.nil (To.thenN ?_)
  refine To.condF rfl ?_
  refine To.skip (To.thenN (To.seq (To.seq (To.reg ?_))))
  refine To.f fl50_0 ?_
  refine To.lo 1 c24 ?_
  refine To.r (Rd.len rfl rfl Tryz.underlying24) ?_
  refine To.f fl31_0 ?_
  refine To.lo 3 c3 ?_
  refine To.r (Rd.neq rfl rfl rfl) ?_
  refine To.nil (To.thenN ?_)
  refine To.condF rfl ?_
  refine To.skip (To.thenN (To.seq (To.seq (To.reg ?_))))
  refine To.f fl31_2 ?_
  refine To.lo 3 c29 ?_
  refine To.r (Rd.len rfl rfl Tryz.underlying29) ?_
  refine To.m (To.nil (To.thenN (To.block ?_)))
  refine To.sub [(3, .pointer (some ⟨b3, 0, none⟩)), (4, .pointer (some ⟨b4, 0, none⟩)), (5, .pointer (some ⟨b5, 0, none⟩)), (6, .pointer (some ⟨b6, 0, none⟩)), (26, .slice A l.length q), (27, .int .i64 ((l.length : Nat) : Int)), (28, .int .i64 ((0 : Nat) : Int))] ⟨rfl, rfl, rfl, rfl, rfl, rfl, rfl, trivial⟩ ?_
  refine To.only [3, 2, 1, 0, 0, 0, 0] rfl ?_
  refine To.loop (fun mz ρ Γ => ∃ (i : Nat), ρ = [(3, .pointer (some ⟨b3, 0, none⟩)), (4, .pointer (some ⟨b4, 0, none⟩)), (5, .pointer (some ⟨b5, 0, none⟩)), (6, .pointer (some ⟨b6, 0, none⟩)), (26, .slice A l.length q), (27, .int .i64 ((l.length : Nat) : Int)), (28, .int .i64 ((i : Nat) : Int))] ∧ Γ = [box b3 [.int .i64 0, .int .i64 st, .slice A l.length q] 31, box b4 [.slice Av V.length qv, .slice none 0 0, .slice none 0 0] 42, box b5 [.slice none 0 0, .int .i64 0, .slice none 0 0, .int .i64 0, .slice none 0 0] 50, box b6 [.slice none 0 0, .slice none 0 0, .slice none 0 0, .slice none 0 0, .int .i64 0] 56, ros Ins.cells A l, ros encI Av V, tabC] ∧ mz = l.length - i ∧ (i ≤ l.length)) (l.length - 0) ⟨0, rfl, rfl, rfl, (Nat.zero_le _)⟩ ?_
  rintro mz _ _ ⟨i, rfl, rfl, rfl, hi⟩
  refine To.seq (To.reg ?_)
  refine To.r (Rd.lss rfl rfl rfl) ?_
  refine To.nil (To.thenN (To.seq ?_))
  refine To.condP rfl (fun k29 => ?_) (fun k29 => ?_)
  ·
   obtain ⟨x, hx⟩ : ∃ z0, l[i]? = some z0 := ⟨l[i]'(by omega), List.getElem?_eq_getElem _⟩
   refine To.skip (To.thenN (To.seq (To.block (To.seq (To.reg ?_)))))
   refine To.r (Rd.indexRos encIn (i := 4) (j := i) rfl rfl rfl s29 rfl hx) ?_
   refine To.r (Rd.loadS (i := 4) rfl rfl r36 rfl (ros_gives encIn hx) (encIn.len _)) ?_
   refine To.alloc rfl rfl rfl rfl z36 (fun b10 => ?_)
   refine To.u (Up.storeS (i := 0) rfl rfl rfl r36 rfl rfl rfl (box_takesAll rfl)) ?_
   refine To.nil (To.thenN (To.seq (To.reg ?_)))
   refine To.r (Rd.loadS (i := 0) rfl rfl r36 rfl box_whole rfl) ?_
   refine To.r (Rd.loadS (i := 2) rfl rfl r42 rfl box_whole rfl) ?_
   refine To.r (Rd.loadS (i := 3) rfl rfl r50 rfl box_whole rfl) ?_
   refine To.callV rfl rfl rfl (Ent.fn rfl rfl ca15) ((refers_fn x Av none none none none none V.length qv 0 0 0 0 0 0 0 0 0 0 0 0).mono (R' := fun v _ => v = .bool true) (fun v _ h => by rw [h, href x (List.mem_of_getElem? hx)])) rfl (oks_nil _) ?_
   refine To.r (Rd.not rfl rfl) ?_
   refine To.nil (To.thenN ?_)
   refine To.condF rfl ?_
   refine To.skip (To.blockN (To.thenN (To.reg ?_)))
   refine To.r (Rd.inc rfl rfl rfl (by omega)) ?_
   refine To.m (To.nil (To.thenN ?_))
   refine To.sub [(3, .pointer (some ⟨b3, 0, none⟩)), (4, .pointer (some ⟨b4, 0, none⟩)), (5, .pointer (some ⟨b5, 0, none⟩)), (6, .pointer (some ⟨b6, 0, none⟩)), (26, .slice A l.length q), (27, .int .i64 ((l.length : Nat) : Int)), (28, .int .i64 (((i + 1) : Nat) : Int))] ⟨rfl, rfl, rfl, rfl, rfl, rfl, rfl, trivial⟩ ?_
   refine To.only [1, 1, 1, 1, 1, 1, 1] rfl ?_
   refine To.again (l.length - (i + 1)) (by omega) ⟨i + 1, rfl, rfl, rfl, (by omega)⟩
  refine To.exit (To.thenX (To.thenX (To.blockX (To.thenN (To.seq (To.reg ?_))))))
  refine To.f fl31_2 ?_
  refine To.lo 0 c29 ?_
  refine To.r (Rd.loadS (i := 2) rfl rfl r50 rfl box_whole rfl) ?_
  refine To.r (Rd.build (vs := [(1, .slice A l.length q), (2, .agg #[.slice none 0 0, .int .i64 0, .slice none 0 0, .int .i64 0, .slice none 0 0])]) (cells := [.slice none 0 0, .slice none 0 0, .slice none 0 0, .slice none 0 0, .int .i64 0, .slice A l.length q, .slice none 0 0, .int .i64 0, .slice none 0 0, .int .i64 0, .slice none 0 0, .slice none 0 0, .int .i64 0, .int .i64 0, .int .i64 0, .bool false]) rfl rfl rfl (by kernel_rfl)) ?_
  refine To.boxed rfl rfl rfl rfl rfl rfl (fun b43 => ?_)
  refine To.a (To.nil (To.thenN (To.seq (To.reg ?_))))
  refine To.m ?_
  refine To.f fl50_4 ?_
  refine To.lo 3 c48 ?_
  refine To.callV rfl rfl rfl (Ent.fn rfl rfl ca16) (cloneN_fn) rfl (oks_nil _) ?_
  refine To.r (Rd.nilCheck rfl rfl) ?_
  refine To.f fl77_2 ?_
  refine To.f fl50_4 ?_
  refine To.u (Up.store (i := 0) rfl rfl rfl c48 rfl rfl (box_takes1 rfl)) ?_
  refine To.nil (To.thenN (To.seq (To.reg (To.m ?_))))
  refine To.r (Rd.nilCheck rfl rfl) ?_
  refine To.f fl77_2 ?_
  refine To.f fl50_4 ?_
  refine To.lo 0 c48 ?_
  refine To.callV rfl rfl rfl (Ent.fn rfl rfl ca17) (sortO_fn) rfl (oks_nil _) ?_
  refine To.nil (To.thenN (To.seq ?_))
  refine To.flow [box b4 [.slice Av V.length qv, .slice none 0 0, .slice none 0 0] 42] [⟨0, [], 0⟩, ⟨1, [], 0⟩, ⟨2, [], 0⟩, ⟨4, [], 0⟩, ⟨5, [], 0⟩, ⟨7, [], 0⟩, ⟨8, [], 0⟩, ⟨3, [], 4⟩, ⟨6, [3], 3⟩, ⟨9, [3], 0⟩, ⟨10, [3], 0⟩, ⟨11, [3], 0⟩, ⟨12, [3], 0⟩, ⟨13, [3], 5⟩] mixed (by kernel_rfl) (oks_cons (oks_at 2 rfl) (oks_nil _)) ?_
  refine FlowS.mo ?_
  refine FlowS.fi fl42_0 ?_
  refine FlowS.th 0 c24 ?_
  refine FlowS.fi fl42_1 ?_
  refine FlowS.th 0 c37 ?_
  refine FlowS.fi fl42_2 ?_
  refine FlowS.f rfl (Rd.loadS (i := 0) (us := [.slice none 0 0]) rfl rfl r40 rfl (box_gives (n := 1) rfl) rfl) ?_
  refine FlowS.callM rfl rfl rfl rfl rfl (Ent.fn rfl rfl ca18) (clone64_fn Av qv V hV) rfl (oks_cons (oks_at 6 rfl) (oks_nil _)) ?_
  rintro _ _ ⟨B, p, rfl, rfl⟩
  refine ⟨rfl, ?_⟩
  refine FlowS.callQ rfl rfl rfl rfl (Ent.fn rfl rfl ca19) (cloneT_fn) rfl (oks_nil _) ?_
  refine FlowS.f rfl (Rd.build (vs := [(0, .slice B V.length p), (1, .slice none 0 0), (2, .agg #[.slice none 0 0])]) (cells := [.slice B V.length p, .slice none 0 0, .slice none 0 0]) rfl rfl rfl (by kernel_rfl)) ?_
  refine FlowS.f rfl (Rd.nilCheck rfl rfl) ?_
  refine FlowS.fi fl77_0 ?_
  refine FlowS.fi fl56_0 ?_
  refine FlowS.up rfl rfl rfl (Up.storeS (i := 1) rfl rfl rfl r42 rfl rfl rfl (box_takes (ds := [.slice B V.length p, .slice none 0 0, .slice none 0 0, .slice none 0 0, .int .i64 0, .slice A l.length q, .slice none 0 0, .int .i64 0, .slice none 0 0, .int .i64 0, .slice none 0 0, .slice none 0 0, .int .i64 0, .int .i64 0, .int .i64 0, .bool false]) rfl rfl)) (oks_cons (oks_at 3 rfl) (oks_nil _)) ?_
  refine FlowS.fin ?_
  refine To.thenN (To.seq ?_)
  refine To.nilRow (encI) 2 1 ?_
  refine To.nilRow (Ef.cells) 84 8 ?_
  refine To.free (c := ros encI none []) rfl rfl (fun w => .inl rfl) ?_
  refine To.free (c := ros encB none []) rfl rfl (fun w => .inl rfl) ?_
  refine To.dup 10 rfl rfl ?_
  refine To.reg (To.m ?_)
  refine To.call [6, 5, 4, 3, 2, 1, 0] rfl rfl rfl (Ent.fn rfl rfl ca20) rfl (run0_fn b43 (s0 A q l) I hR hc ⟨B, p, V, none, 0, [], ⟨none, 0, []⟩, none, 0, [], 0, none, 0, [], 0, 0, 0, false⟩ hI) ?_
  rintro _ _ ⟨rfl, d', ⟨k1, k2, k3, k4⟩, rfl, hv⟩
  refine To.nil (To.thenN (To.seq (To.reg (To.m ?_))))
  refine To.r (Rd.nilCheck rfl rfl) ?_
  refine To.f fl77_0 ?_
  refine To.r (Rd.loadS (i := 0) (us := [.slice d'.Av d'.vars.length d'.qv, .slice d'.At d'.tabs.length d'.qt, .slice d'.dk.A d'.dk.l.length d'.dk.q, .slice d'.Ae d'.effs.length d'.qe, .int .i64 d'.cost]) rfl rfl r56 rfl (box_gives (n := 5) rfl) rfl) ?_
  refine To.u (Up.storeS (i := 7) rfl rfl rfl r56 rfl rfl rfl (box_takesAll rfl)) ?_
  refine To.a (To.nil (To.thenN (To.ret ?_)))
  refine To.endCT [1, 2] rfl (.inl rfl) Tryz.results5 rfl (i := 7) rfl r56 rfl rfl ?_
  exact ⟨d', rfl, rfl, hv⟩
end Go.Proofs.YtoehnbacbobhiaaGreatDoor
