/- trace.Valid. Own text (walks printed by sx.py). -/
import Derived.Test.YtneimfacccgaeaaV5
namespace Go.Proofs.Ytneimfacccgaeaa
open Go.RowKit Go.Flow Go.Mem Go.Sep
theorem keyI : KeyTy Try.prog 3 ekI := KeyTy.int Try.underlying3
theorem keyM : KeyTy Try.prog 55 mk3 := KeyTy.three three55
theorem zv3 : ∀ w, (zeroValue 3).run Try.prog w = .ok (ekI 0) w := zero_run (by kernel_rfl)
theorem zv4 : ∀ w, (zeroValue 4).run Try.prog w = .ok (ekB false) w := zero_run (by kernel_rfl)
/-- What Valid has seen. -/
structure VS where
  last : List (Int × Int)
  sent : List ((Int × Int × Int) × Int)
  came : List ((Int × Int × Int) × Bool)
def VS.lt (s : VS) (e : Ev) : Bool := (aget s.last e.c).isSome && decide (e.t < (aget s.last e.c).getD 0)
/-- One event more; none: it is not possible. -/
def VS.step (s : VS) (e : Ev) : Option VS :=
  if s.lt e then none
  else if e.rl = 1 then (if (aget s.came e.key).getD false then none else some ⟨aset s.last e.c e.t, if !(aget s.sent e.key).isSome || decide ((aget s.sent e.key).getD 0 < e.t) then aset s.sent e.key e.t else s.sent, s.came⟩)
  else if e.rl = 2 then (if (aget s.sent e.key).isSome && decide (e.t ≤ (aget s.sent e.key).getD 0) then none else some ⟨aset s.last e.c e.t, s.sent, aset s.came e.key true⟩)
  else some ⟨aset s.last e.c e.t, s.sent, s.came⟩
def VS.all : VS → List Ev → Bool
  | _, [] => true
  | s, e :: l => match s.step e with
    | none => false
    | some s' => s'.all l
theorem VS.all_no {s : VS} {l : List Ev} {i : Nat} {e : Ev} (he : l[i]? = some e) (h : s.step e = none) : s.all (l.drop i) = false := by
  rw [drop_of_get he]; simp [VS.all, h]
theorem VS.all_go {s s' : VS} {l : List Ev} {i : Nat} {e : Ev} (he : l[i]? = some e) (h : s.step e = some s') : s.all (l.drop i) = s'.all (l.drop (i + 1)) := by
  rw [drop_of_get he]; simp [VS.all, h]
set_option maxHeartbeats 2000000 in
set_option maxRecDepth 100000 in
theorem valid_fn (Al : Option Addr) (cl : Nat) (l : List Ev) (hl : l.length ≤ 1000000) :
    Does Try.prog 28 [.slice Al l.length cl] [ros Ev.cells Al l] (fun v _ => v = .bool (VS.all ⟨[], [], []⟩ l)) := by
  refine Does.enter Try.func28 rfl Try.ntmps28 rfl (fun w0 => ?_)
  refine To.seq ?_
  refine To.reg ?_
  refine To.rd rfl rfl rfl (Rd.assign rfl rfl) ?_
  refine To.nil ?_
  refine To.thenN ?_
  refine To.seq ?_
  refine To.reg ?_
  refine To.mk rfl rfl rfl (Mk.makeMapOwn ekI ekI rfl) ?_
  rintro _ _ ⟨m16, rfl, rfl⟩
  refine To.as [mapc ekI ekI m16 [], ros Ev.cells Al l] rfl ?_
  refine To.rd rfl rfl rfl (Rd.assign rfl rfl) ?_
  refine To.nil ?_
  refine To.thenN ?_
  refine To.seq ?_
  refine To.reg ?_
  refine To.mk rfl rfl rfl (Mk.makeMapOwn mk3 ekI rfl) ?_
  rintro _ _ ⟨m17, rfl, rfl⟩
  refine To.as [mapc mk3 ekI m17 [], mapc ekI ekI m16 [], ros Ev.cells Al l] rfl ?_
  refine To.rd rfl rfl rfl (Rd.assign rfl rfl) ?_
  refine To.nil ?_
  refine To.thenN ?_
  refine To.seq ?_
  refine To.reg ?_
  refine To.mk rfl rfl rfl (Mk.makeMapOwn mk3 ekB rfl) ?_
  rintro _ _ ⟨m18, rfl, rfl⟩
  refine To.as [mapc mk3 ekB m18 [], mapc mk3 ekI m17 [], mapc ekI ekI m16 [], ros Ev.cells Al l] rfl ?_
  refine To.rd rfl rfl rfl (Rd.assign rfl rfl) ?_
  refine To.nil ?_
  refine To.thenN ?_
  refine To.seq ?_
  refine To.seq ?_
  refine To.reg ?_
  refine To.rd rfl rfl rfl (Rd.move rfl rfl) ?_
  refine To.rd rfl rfl rfl (Rd.len rfl rfl Try.underlying22) ?_
  refine To.rd rfl rfl rfl (Rd.move rfl rfl) ?_
  refine To.nil ?_
  refine To.thenN ?_
  refine To.block ?_
  refine To.sub [(3, .map (some m16)), (4, .map (some m17)), (5, .map (some m18)), (19, .slice Al l.length cl), (20, .int .i64 ((l.length : Nat) : Int)), (21, .int .i64 ((0 : Nat) : Int))] ⟨rfl, rfl, rfl, rfl, rfl, rfl, trivial⟩ ?_
  refine To.only [2, 1, 0, 0] rfl ?_
  refine To.loop (fun mz ρ Γ => ∃ (i : Nat) (S : VS), ρ = [(3, .map (some m16)), (4, .map (some m17)), (5, .map (some m18)), (19, .slice Al l.length cl), (20, .int .i64 ((l.length : Nat) : Int)), (21, .int .i64 ((i : Nat) : Int))] ∧ Γ = [mapc ekI ekI m16 S.last, mapc mk3 ekI m17 S.sent, mapc mk3 ekB m18 S.came, ros Ev.cells Al l] ∧ mz = l.length - i ∧ (i ≤ l.length) ∧ (VS.all ⟨[], [], []⟩ l = S.all (l.drop i))) (l.length - 0) ⟨0, ⟨[], [], []⟩, rfl, rfl, rfl, (Nat.zero_le _), rfl⟩ ?_
  rintro mz _ _ ⟨i, S, rfl, rfl, rfl, hi, hI⟩
  refine To.seq ?_
  refine To.reg ?_
  refine To.rd rfl rfl rfl (Rd.lss rfl rfl rfl) ?_
  refine To.nil ?_
  refine To.thenN ?_
  refine To.seq ?_
  refine To.condP rfl (fun c22 => ?_) (fun c22 => ?_)
  ·
    obtain ⟨y, hy⟩ : ∃ z0, l[i]? = some z0 := ⟨l[i]'(by omega), List.getElem?_eq_getElem _⟩
    refine To.skip ?_
    refine To.thenN ?_
    refine To.seq ?_
    refine To.block ?_
    refine To.seq ?_
    refine To.reg ?_
    refine To.rd rfl rfl rfl (Rd.indexRos encE (i := 3) (j := i) rfl rfl rfl s22 rfl hy) ?_
    refine To.rd rfl rfl rfl (Rd.loadS (i := 3) rfl rfl r37 rfl (ros_gives encE hy) (encE.len _)) ?_
    refine To.alloc rfl rfl rfl rfl z37 (fun b7 => ?_)
    refine To.up rfl rfl (Up.storeS (i := 0) rfl rfl rfl r37 rfl rfl rfl (box_takesAll rfl)) ?_
    refine To.nil ?_
    refine To.thenN ?_
    refine To.seq ?_
    refine To.seq ?_
    refine To.reg ?_
    refine To.rd rfl rfl rfl (Rd.move rfl rfl) ?_
    refine To.rd rfl rfl rfl (Rd.field rfl rfl fl37_1) ?_
    refine To.rd rfl rfl rfl (Rd.load (i := 0) rfl rfl c3 rfl (box_gives1 rfl)) ?_
    refine To.rd rfl rfl rfl (Rd.as (v' := .tuple #[.int .i64 ((aget S.last y.c).getD 0), .bool ((aget S.last y.c).isSome)]) rfl (Rd.lookupOk (i := 1) (k := y.c) (m := S.last) keyI 0 rfl Try.underlying52 zv3 rfl rfl rfl)) ?_
    refine To.rd rfl rfl rfl (Rd.move rfl rfl) ?_
    refine To.rd rfl rfl rfl (Rd.extract rfl rfl rfl) ?_
    refine To.rd rfl rfl rfl (Rd.extract rfl rfl rfl) ?_
    refine To.rd rfl rfl rfl (Rd.assign rfl rfl) ?_
    refine To.rd rfl rfl rfl (Rd.assign rfl rfl) ?_
    refine To.nil ?_
    refine To.thenN ?_
    refine To.seq ?_
    refine To.reg ?_
    refine To.rd rfl rfl rfl (Rd.move rfl rfl) ?_
    refine To.rdB rfl rfl rfl (Rd.move rfl rfl) (fun g33 => ?_) (fun g33 => ?_)
    ·
      refine To.rd rfl rfl rfl (Rd.move rfl rfl) ?_
      refine To.rd rfl rfl rfl (Rd.field rfl rfl fl37_0) ?_
      refine To.rd rfl rfl rfl (Rd.load (i := 0) rfl rfl c3 rfl (box_gives1 rfl)) ?_
      refine To.rd rfl rfl rfl (Rd.gtr rfl rfl rfl) ?_
      refine To.rd rfl rfl rfl (Rd.pickT rfl rfl rfl) ?_
      refine To.nil ?_
      refine To.sub [(3, .map (some m16)), (4, .map (some m17)), (5, .map (some m18)), (19, .slice Al l.length cl), (20, .int .i64 ((l.length : Nat) : Int)), (21, .int .i64 ((i : Nat) : Int)), (22, .bool (decide (((i : Nat) : Int) < ((l.length : Nat) : Int)))), (7, .pointer (some ⟨b7, 0, none⟩)), (8, .int .i64 ((aget S.last y.c).getD 0)), (9, .bool ((aget S.last y.c).isSome)), (38, .bool (decide (y.t < ((aget S.last y.c).getD 0))))] ⟨rfl, rfl, rfl, rfl, rfl, rfl, rfl, rfl, rfl, rfl, rfl, trivial⟩ ?_
      refine To.thenN ?_
      refine To.condP rfl (fun c38 => ?_) (fun c38 => ?_)
      ·
        refine To.seq ?_
        refine To.reg ?_
        refine To.rd rfl rfl rfl (Rd.assign rfl rfl) ?_
        refine To.nil ?_
        refine To.thenN ?_
        refine To.ret ?_
        refine To.thenR ?_
        refine To.blockR ?_
        refine To.thenR ?_
        refine To.thenR ?_
        refine To.blockR ?_
        refine To.thenR ?_
        refine To.end1 (.inl rfl) Try.results28 rfl ?_
        rw [hI, VS.all_no hy (by simp [VS.step, VS.lt, c38, g33])]
      ·
        refine To.skip ?_
        refine To.thenN ?_
        refine To.seq ?_
        refine To.reg ?_
        refine To.rd rfl rfl rfl (Rd.move rfl rfl) ?_
        refine To.rd rfl rfl rfl (Rd.field rfl rfl fl37_1) ?_
        refine To.rd rfl rfl rfl (Rd.load (i := 0) rfl rfl c3 rfl (box_gives1 rfl)) ?_
        refine To.rd rfl rfl rfl (Rd.field rfl rfl fl37_0) ?_
        refine To.rd rfl rfl rfl (Rd.load (i := 0) rfl rfl c3 rfl (box_gives1 rfl)) ?_
        refine To.up rfl rfl (Up.mapUpdate (i := 1) (k := y.c) (v := y.t) (m := S.last) keyI rfl Try.underlying52 rfl rfl rfl rfl) ?_
        refine To.nil ?_
        refine To.thenN ?_
        refine To.seq ?_
        refine To.reg ?_
        refine To.rd rfl rfl rfl (Rd.loadS (i := 0) rfl rfl r37 rfl box_whole rfl) ?_
        refine To.callV rfl rfl rfl (Ent.fn rfl rfl ca33) (message_fn y) rfl (oks_nil _) ?_
        refine To.rd rfl rfl rfl (Rd.move rfl rfl) ?_
        refine To.rd rfl rfl rfl (Rd.extract rfl rfl rfl) ?_
        refine To.rd rfl rfl rfl (Rd.extract rfl rfl rfl) ?_
        refine To.alloc rfl rfl rfl rfl z55 (fun b10 => ?_)
        refine To.up rfl rfl (Up.storeS (i := 0) rfl rfl rfl r55 rfl rfl rfl (box_takesAll rfl)) ?_
        refine To.rd rfl rfl rfl (Rd.assign rfl rfl) ?_
        refine To.nil ?_
        refine To.thenN ?_
        refine To.seq ?_
        refine To.reg ?_
        refine To.rd rfl rfl rfl (Rd.move rfl rfl) ?_
        refine To.nil ?_
        refine To.thenN ?_
        refine To.block ?_
        refine To.seq ?_
        refine To.reg ?_
        refine To.rd rfl rfl rfl (Rd.eql rfl rfl rfl) ?_
        refine To.rd rfl rfl rfl (Rd.assign rfl rfl) ?_
        refine To.nil ?_
        refine To.thenN ?_
        refine To.condP rfl (fun c50 => ?_) (fun c50 => ?_)
        ·
          refine To.seq ?_
          refine To.seq ?_
          refine To.reg ?_
          refine To.rd rfl rfl rfl (Rd.move rfl rfl) ?_
          refine To.rd rfl rfl rfl (Rd.loadS (i := 0) rfl rfl r55 rfl box_whole rfl) ?_
          refine To.rd rfl rfl rfl (Rd.as (v' := .bool ((aget S.came y.key).getD false)) rfl (Rd.lookup (i := 4) (k := y.key) (m := S.came) keyM false rfl Try.underlying69 zv4 rfl rfl rfl)) ?_
          refine To.nil ?_
          refine To.sub [(3, .map (some m16)), (4, .map (some m17)), (5, .map (some m18)), (19, .slice Al l.length cl), (20, .int .i64 ((l.length : Nat) : Int)), (21, .int .i64 ((i : Nat) : Int)), (22, .bool (decide (((i : Nat) : Int) < ((l.length : Nat) : Int)))), (7, .pointer (some ⟨b7, 0, none⟩)), (8, .int .i64 ((aget S.last y.c).getD 0)), (9, .bool ((aget S.last y.c).isSome)), (38, .bool (decide (y.t < ((aget S.last y.c).getD 0)))), (10, .pointer (some ⟨b10, 0, none⟩)), (11, .int .i64 y.rl), (49, .int .i64 y.rl), (50, .bool (decide (y.rl = 1))), (54, .bool ((aget S.came y.key).getD false))] ⟨rfl, rfl, rfl, rfl, rfl, rfl, rfl, rfl, rfl, rfl, rfl, rfl, rfl, rfl, rfl, rfl, trivial⟩ ?_
          refine To.thenN ?_
          refine To.cond rfl (fun c54 => ?_) (fun c54 => ?_)
          ·
            refine To.seq ?_
            refine To.reg ?_
            refine To.rd rfl rfl rfl (Rd.assign rfl rfl) ?_
            refine To.nil ?_
            refine To.thenN ?_
            refine To.ret ?_
            refine To.thenR ?_
            refine To.blockR ?_
            refine To.blockR ?_
            refine To.thenR ?_
            refine To.thenR ?_
            refine To.blockR ?_
            refine To.thenR ?_
            refine To.end1 (.inl rfl) Try.results28 rfl ?_
            rw [hI, VS.all_no hy (by simp [VS.step, VS.lt, c38, c50, c54, g33])]
          ·
            refine To.skip ?_
            refine To.thenN ?_
            refine To.seq ?_
            refine To.reg ?_
            refine To.rd rfl rfl rfl (Rd.move rfl rfl) ?_
            refine To.rd rfl rfl rfl (Rd.loadS (i := 0) rfl rfl r55 rfl box_whole rfl) ?_
            refine To.rd rfl rfl rfl (Rd.as (v' := .tuple #[.int .i64 ((aget S.sent y.key).getD 0), .bool ((aget S.sent y.key).isSome)]) rfl (Rd.lookupOk (i := 3) (k := y.key) (m := S.sent) keyM 0 rfl Try.underlying53 zv3 rfl rfl rfl)) ?_
            refine To.rd rfl rfl rfl (Rd.move rfl rfl) ?_
            refine To.rd rfl rfl rfl (Rd.extract rfl rfl rfl) ?_
            refine To.rd rfl rfl rfl (Rd.extract rfl rfl rfl) ?_
            refine To.rd rfl rfl rfl (Rd.assign rfl rfl) ?_
            refine To.rd rfl rfl rfl (Rd.assign rfl rfl) ?_
            refine To.nil ?_
            refine To.thenN ?_
            refine To.seq ?_
            refine To.reg ?_
            refine To.rd rfl rfl rfl (Rd.move rfl rfl) ?_
            refine To.rd rfl rfl rfl (Rd.not rfl rfl) ?_
            refine To.rdB rfl rfl rfl (Rd.move rfl rfl) (fun g63 => ?_) (fun g63 => ?_)
            ·
              refine To.sk rfl rfl rfl ?_
              refine To.sk rfl rfl rfl ?_
              refine To.sk rfl rfl rfl ?_
              refine To.sk rfl rfl rfl ?_
              refine To.rd rfl rfl rfl (Rd.pickT rfl rfl rfl) ?_
              refine To.nil ?_
              refine To.sub [(3, .map (some m16)), (4, .map (some m17)), (5, .map (some m18)), (19, .slice Al l.length cl), (20, .int .i64 ((l.length : Nat) : Int)), (21, .int .i64 ((i : Nat) : Int)), (22, .bool (decide (((i : Nat) : Int) < ((l.length : Nat) : Int)))), (7, .pointer (some ⟨b7, 0, none⟩)), (8, .int .i64 ((aget S.last y.c).getD 0)), (9, .bool ((aget S.last y.c).isSome)), (38, .bool (decide (y.t < ((aget S.last y.c).getD 0)))), (10, .pointer (some ⟨b10, 0, none⟩)), (11, .int .i64 y.rl), (49, .int .i64 y.rl), (50, .bool (decide (y.rl = 1))), (54, .bool ((aget S.came y.key).getD false)), (12, .int .i64 ((aget S.sent y.key).getD 0)), (13, .bool ((aget S.sent y.key).isSome)), (68, .bool true)] ⟨rfl, rfl, rfl, rfl, rfl, rfl, rfl, rfl, rfl, rfl, rfl, rfl, rfl, rfl, rfl, rfl, rfl, rfl, rfl, trivial⟩ ?_
              refine To.thenN ?_
              refine To.condT rfl ?_
              refine To.reg ?_
              refine To.rd rfl rfl rfl (Rd.move rfl rfl) ?_
              refine To.rd rfl rfl rfl (Rd.loadS (i := 0) rfl rfl r55 rfl box_whole rfl) ?_
              refine To.rd rfl rfl rfl (Rd.field rfl rfl fl37_0) ?_
              refine To.rd rfl rfl rfl (Rd.load (i := 1) rfl rfl c3 rfl (box_gives1 rfl)) ?_
              refine To.up rfl rfl (Up.mapUpdate (i := 3) (k := y.key) (v := y.t) (m := S.sent) keyM rfl Try.underlying53 rfl rfl rfl rfl) ?_
              refine To.nil ?_
              refine To.blockN ?_
              refine To.blockN ?_
              refine To.thenN ?_
              refine To.reg ?_
              refine To.rd rfl rfl rfl (Rd.inc rfl rfl rfl (by omega)) ?_
              refine To.rd rfl rfl rfl (Rd.move rfl rfl) ?_
              refine To.nil ?_
              refine To.thenN ?_
              refine To.sub [(3, .map (some m16)), (4, .map (some m17)), (5, .map (some m18)), (19, .slice Al l.length cl), (20, .int .i64 ((l.length : Nat) : Int)), (21, .int .i64 (((i + 1) : Nat) : Int))] ⟨rfl, rfl, rfl, rfl, rfl, rfl, trivial⟩ ?_
              refine To.only [2, 2, 2, 2] rfl ?_
              refine To.again (l.length - (i + 1)) (by omega) ⟨i + 1, ⟨(aset S.last y.c y.t), (aset S.sent y.key y.t), S.came⟩, rfl, rfl, rfl, (by omega), (by rw [hI, VS.all_go hy (s' := ⟨(aset S.last y.c y.t), (aset S.sent y.key y.t), S.came⟩) (by simp [VS.step, VS.lt, c38, c50, c54, g33, g63])])⟩
            ·
              refine To.rd rfl rfl rfl (Rd.move rfl rfl) ?_
              refine To.rd rfl rfl rfl (Rd.field rfl rfl fl37_0) ?_
              refine To.rd rfl rfl rfl (Rd.load (i := 1) rfl rfl c3 rfl (box_gives1 rfl)) ?_
              refine To.rd rfl rfl rfl (Rd.lss rfl rfl rfl) ?_
              refine To.rd rfl rfl rfl (Rd.pickF rfl rfl rfl) ?_
              refine To.nil ?_
              refine To.sub [(3, .map (some m16)), (4, .map (some m17)), (5, .map (some m18)), (19, .slice Al l.length cl), (20, .int .i64 ((l.length : Nat) : Int)), (21, .int .i64 ((i : Nat) : Int)), (22, .bool (decide (((i : Nat) : Int) < ((l.length : Nat) : Int)))), (7, .pointer (some ⟨b7, 0, none⟩)), (8, .int .i64 ((aget S.last y.c).getD 0)), (9, .bool ((aget S.last y.c).isSome)), (38, .bool (decide (y.t < ((aget S.last y.c).getD 0)))), (10, .pointer (some ⟨b10, 0, none⟩)), (11, .int .i64 y.rl), (49, .int .i64 y.rl), (50, .bool (decide (y.rl = 1))), (54, .bool ((aget S.came y.key).getD false)), (12, .int .i64 ((aget S.sent y.key).getD 0)), (13, .bool ((aget S.sent y.key).isSome)), (68, .bool (decide (((aget S.sent y.key).getD 0) < y.t)))] ⟨rfl, rfl, rfl, rfl, rfl, rfl, rfl, rfl, rfl, rfl, rfl, rfl, rfl, rfl, rfl, rfl, rfl, rfl, rfl, trivial⟩ ?_
              refine To.thenN ?_
              refine To.condP rfl (fun c68 => ?_) (fun c68 => ?_)
              ·
                refine To.reg ?_
                refine To.rd rfl rfl rfl (Rd.move rfl rfl) ?_
                refine To.rd rfl rfl rfl (Rd.loadS (i := 0) rfl rfl r55 rfl box_whole rfl) ?_
                refine To.rd rfl rfl rfl (Rd.field rfl rfl fl37_0) ?_
                refine To.rd rfl rfl rfl (Rd.load (i := 1) rfl rfl c3 rfl (box_gives1 rfl)) ?_
                refine To.up rfl rfl (Up.mapUpdate (i := 3) (k := y.key) (v := y.t) (m := S.sent) keyM rfl Try.underlying53 rfl rfl rfl rfl) ?_
                refine To.nil ?_
                refine To.blockN ?_
                refine To.blockN ?_
                refine To.thenN ?_
                refine To.reg ?_
                refine To.rd rfl rfl rfl (Rd.inc rfl rfl rfl (by omega)) ?_
                refine To.rd rfl rfl rfl (Rd.move rfl rfl) ?_
                refine To.nil ?_
                refine To.thenN ?_
                refine To.sub [(3, .map (some m16)), (4, .map (some m17)), (5, .map (some m18)), (19, .slice Al l.length cl), (20, .int .i64 ((l.length : Nat) : Int)), (21, .int .i64 (((i + 1) : Nat) : Int))] ⟨rfl, rfl, rfl, rfl, rfl, rfl, trivial⟩ ?_
                refine To.only [2, 2, 2, 2] rfl ?_
                refine To.again (l.length - (i + 1)) (by omega) ⟨i + 1, ⟨(aset S.last y.c y.t), (aset S.sent y.key y.t), S.came⟩, rfl, rfl, rfl, (by omega), (by rw [hI, VS.all_go hy (s' := ⟨(aset S.last y.c y.t), (aset S.sent y.key y.t), S.came⟩) (by simp [VS.step, VS.lt, c38, c50, c54, c68, g33, g63])])⟩
              ·
                refine To.skip ?_
                refine To.blockN ?_
                refine To.blockN ?_
                refine To.thenN ?_
                refine To.reg ?_
                refine To.rd rfl rfl rfl (Rd.inc rfl rfl rfl (by omega)) ?_
                refine To.rd rfl rfl rfl (Rd.move rfl rfl) ?_
                refine To.nil ?_
                refine To.thenN ?_
                refine To.sub [(3, .map (some m16)), (4, .map (some m17)), (5, .map (some m18)), (19, .slice Al l.length cl), (20, .int .i64 ((l.length : Nat) : Int)), (21, .int .i64 (((i + 1) : Nat) : Int))] ⟨rfl, rfl, rfl, rfl, rfl, rfl, trivial⟩ ?_
                refine To.only [2, 2, 2, 2] rfl ?_
                refine To.again (l.length - (i + 1)) (by omega) ⟨i + 1, ⟨(aset S.last y.c y.t), S.sent, S.came⟩, rfl, rfl, rfl, (by omega), (by rw [hI, VS.all_go hy (s' := ⟨(aset S.last y.c y.t), S.sent, S.came⟩) (by simp [VS.step, VS.lt, c38, c50, c54, c68, g33, g63])])⟩
        ·
          refine To.seq ?_
          refine To.reg ?_
          refine To.rd rfl rfl rfl (Rd.eql rfl rfl rfl) ?_
          refine To.rd rfl rfl rfl (Rd.assign rfl rfl) ?_
          refine To.nil ?_
          refine To.thenN ?_
          refine To.condP rfl (fun c73 => ?_) (fun c73 => ?_)
          ·
            refine To.seq ?_
            refine To.seq ?_
            refine To.reg ?_
            refine To.rd rfl rfl rfl (Rd.move rfl rfl) ?_
            refine To.rd rfl rfl rfl (Rd.loadS (i := 0) rfl rfl r55 rfl box_whole rfl) ?_
            refine To.rd rfl rfl rfl (Rd.as (v' := .tuple #[.int .i64 ((aget S.sent y.key).getD 0), .bool ((aget S.sent y.key).isSome)]) rfl (Rd.lookupOk (i := 3) (k := y.key) (m := S.sent) keyM 0 rfl Try.underlying53 zv3 rfl rfl rfl)) ?_
            refine To.rd rfl rfl rfl (Rd.move rfl rfl) ?_
            refine To.rd rfl rfl rfl (Rd.extract rfl rfl rfl) ?_
            refine To.rd rfl rfl rfl (Rd.extract rfl rfl rfl) ?_
            refine To.rd rfl rfl rfl (Rd.assign rfl rfl) ?_
            refine To.rd rfl rfl rfl (Rd.assign rfl rfl) ?_
            refine To.nil ?_
            refine To.sub [(3, .map (some m16)), (4, .map (some m17)), (5, .map (some m18)), (19, .slice Al l.length cl), (20, .int .i64 ((l.length : Nat) : Int)), (21, .int .i64 ((i : Nat) : Int)), (22, .bool (decide (((i : Nat) : Int) < ((l.length : Nat) : Int)))), (7, .pointer (some ⟨b7, 0, none⟩)), (8, .int .i64 ((aget S.last y.c).getD 0)), (9, .bool ((aget S.last y.c).isSome)), (38, .bool (decide (y.t < ((aget S.last y.c).getD 0)))), (10, .pointer (some ⟨b10, 0, none⟩)), (11, .int .i64 y.rl), (49, .int .i64 y.rl), (50, .bool (decide (y.rl = 1))), (73, .bool (decide (y.rl = 2))), (14, .int .i64 ((aget S.sent y.key).getD 0)), (15, .bool ((aget S.sent y.key).isSome))] ⟨rfl, rfl, rfl, rfl, rfl, rfl, rfl, rfl, rfl, rfl, rfl, rfl, rfl, rfl, rfl, rfl, rfl, rfl, trivial⟩ ?_
            refine To.thenN ?_
            refine To.seq ?_
            refine To.reg ?_
            refine To.rd rfl rfl rfl (Rd.move rfl rfl) ?_
            refine To.rdB rfl rfl rfl (Rd.move rfl rfl) (fun g82 => ?_) (fun g82 => ?_)
            ·
              refine To.rd rfl rfl rfl (Rd.move rfl rfl) ?_
              refine To.rd rfl rfl rfl (Rd.field rfl rfl fl37_0) ?_
              refine To.rd rfl rfl rfl (Rd.load (i := 1) rfl rfl c3 rfl (box_gives1 rfl)) ?_
              refine To.rd rfl rfl rfl (Rd.geq rfl rfl rfl) ?_
              refine To.rd rfl rfl rfl (Rd.pickT rfl rfl rfl) ?_
              refine To.nil ?_
              refine To.thenN ?_
              refine To.condP rfl (fun c87 => ?_) (fun c87 => ?_)
              ·
                refine To.seq ?_
                refine To.reg ?_
                refine To.rd rfl rfl rfl (Rd.assign rfl rfl) ?_
                refine To.nil ?_
                refine To.thenN ?_
                refine To.ret ?_
                refine To.thenR ?_
                refine To.blockR ?_
                refine To.blockR ?_
                refine To.thenR ?_
                refine To.thenR ?_
                refine To.blockR ?_
                refine To.thenR ?_
                refine To.end1 (.inl rfl) Try.results28 rfl ?_
                rw [hI, VS.all_no hy (by simp [VS.step, VS.lt, c38, c50, c73, c87, g33, g82])]
              ·
                refine To.skip ?_
                refine To.thenN ?_
                refine To.reg ?_
                refine To.rd rfl rfl rfl (Rd.move rfl rfl) ?_
                refine To.rd rfl rfl rfl (Rd.loadS (i := 0) rfl rfl r55 rfl box_whole rfl) ?_
                refine To.up rfl rfl (Up.mapUpdate (i := 4) (k := y.key) (v := true) (m := S.came) keyM rfl Try.underlying69 rfl rfl rfl rfl) ?_
                refine To.nil ?_
                refine To.blockN ?_
                refine To.blockN ?_
                refine To.thenN ?_
                refine To.reg ?_
                refine To.rd rfl rfl rfl (Rd.inc rfl rfl rfl (by omega)) ?_
                refine To.rd rfl rfl rfl (Rd.move rfl rfl) ?_
                refine To.nil ?_
                refine To.thenN ?_
                refine To.sub [(3, .map (some m16)), (4, .map (some m17)), (5, .map (some m18)), (19, .slice Al l.length cl), (20, .int .i64 ((l.length : Nat) : Int)), (21, .int .i64 (((i + 1) : Nat) : Int))] ⟨rfl, rfl, rfl, rfl, rfl, rfl, trivial⟩ ?_
                refine To.only [2, 2, 2, 2] rfl ?_
                refine To.again (l.length - (i + 1)) (by omega) ⟨i + 1, ⟨(aset S.last y.c y.t), S.sent, (aset S.came y.key true)⟩, rfl, rfl, rfl, (by omega), (by rw [hI, VS.all_go hy (s' := ⟨(aset S.last y.c y.t), S.sent, (aset S.came y.key true)⟩) (by simp [VS.step, VS.lt, c38, c50, c73, c87, g33, g82])])⟩
            ·
              refine To.sk rfl rfl rfl ?_
              refine To.sk rfl rfl rfl ?_
              refine To.sk rfl rfl rfl ?_
              refine To.sk rfl rfl rfl ?_
              refine To.rd rfl rfl rfl (Rd.pickF rfl rfl rfl) ?_
              refine To.nil ?_
              refine To.thenN ?_
              refine To.condF rfl ?_
              refine To.skip ?_
              refine To.thenN ?_
              refine To.reg ?_
              refine To.rd rfl rfl rfl (Rd.move rfl rfl) ?_
              refine To.rd rfl rfl rfl (Rd.loadS (i := 0) rfl rfl r55 rfl box_whole rfl) ?_
              refine To.up rfl rfl (Up.mapUpdate (i := 4) (k := y.key) (v := true) (m := S.came) keyM rfl Try.underlying69 rfl rfl rfl rfl) ?_
              refine To.nil ?_
              refine To.blockN ?_
              refine To.blockN ?_
              refine To.thenN ?_
              refine To.reg ?_
              refine To.rd rfl rfl rfl (Rd.inc rfl rfl rfl (by omega)) ?_
              refine To.rd rfl rfl rfl (Rd.move rfl rfl) ?_
              refine To.nil ?_
              refine To.thenN ?_
              refine To.sub [(3, .map (some m16)), (4, .map (some m17)), (5, .map (some m18)), (19, .slice Al l.length cl), (20, .int .i64 ((l.length : Nat) : Int)), (21, .int .i64 (((i + 1) : Nat) : Int))] ⟨rfl, rfl, rfl, rfl, rfl, rfl, trivial⟩ ?_
              refine To.only [2, 2, 2, 2] rfl ?_
              refine To.again (l.length - (i + 1)) (by omega) ⟨i + 1, ⟨(aset S.last y.c y.t), S.sent, (aset S.came y.key true)⟩, rfl, rfl, rfl, (by omega), (by rw [hI, VS.all_go hy (s' := ⟨(aset S.last y.c y.t), S.sent, (aset S.came y.key true)⟩) (by simp [VS.step, VS.lt, c38, c50, c73, g33, g82])])⟩
          ·
            refine To.skip ?_
            refine To.blockN ?_
            refine To.blockN ?_
            refine To.thenN ?_
            refine To.reg ?_
            refine To.rd rfl rfl rfl (Rd.inc rfl rfl rfl (by omega)) ?_
            refine To.rd rfl rfl rfl (Rd.move rfl rfl) ?_
            refine To.nil ?_
            refine To.sub [(3, .map (some m16)), (4, .map (some m17)), (5, .map (some m18)), (19, .slice Al l.length cl), (20, .int .i64 ((l.length : Nat) : Int)), (21, .int .i64 ((i + 1 : Nat) : Int)), (22, .bool (decide (((i : Nat) : Int) < ((l.length : Nat) : Int)))), (7, .pointer (some ⟨b7, 0, none⟩)), (8, .int .i64 ((aget S.last y.c).getD 0)), (9, .bool ((aget S.last y.c).isSome)), (38, .bool (decide (y.t < ((aget S.last y.c).getD 0)))), (10, .pointer (some ⟨b10, 0, none⟩)), (11, .int .i64 y.rl), (49, .int .i64 y.rl), (50, .bool (decide (y.rl = 1))), (73, .bool (decide (y.rl = 2)))] ⟨rfl, rfl, rfl, rfl, rfl, rfl, rfl, rfl, rfl, rfl, rfl, rfl, rfl, rfl, rfl, rfl, trivial⟩ ?_
            refine To.thenN ?_
            refine To.sub [(3, .map (some m16)), (4, .map (some m17)), (5, .map (some m18)), (19, .slice Al l.length cl), (20, .int .i64 ((l.length : Nat) : Int)), (21, .int .i64 (((i + 1) : Nat) : Int))] ⟨rfl, rfl, rfl, rfl, rfl, rfl, trivial⟩ ?_
            refine To.only [2, 2, 2, 2] rfl ?_
            refine To.again (l.length - (i + 1)) (by omega) ⟨i + 1, ⟨(aset S.last y.c y.t), S.sent, S.came⟩, rfl, rfl, rfl, (by omega), (by rw [hI, VS.all_go hy (s' := ⟨(aset S.last y.c y.t), S.sent, S.came⟩) (by simp [VS.step, VS.lt, c38, c50, c73, g33])])⟩
    ·
      refine To.sk rfl rfl rfl ?_
      refine To.sk rfl rfl rfl ?_
      refine To.sk rfl rfl rfl ?_
      refine To.sk rfl rfl rfl ?_
      refine To.rd rfl rfl rfl (Rd.pickF rfl rfl rfl) ?_
      refine To.nil ?_
      refine To.sub [(3, .map (some m16)), (4, .map (some m17)), (5, .map (some m18)), (19, .slice Al l.length cl), (20, .int .i64 ((l.length : Nat) : Int)), (21, .int .i64 ((i : Nat) : Int)), (22, .bool (decide (((i : Nat) : Int) < ((l.length : Nat) : Int)))), (7, .pointer (some ⟨b7, 0, none⟩)), (8, .int .i64 ((aget S.last y.c).getD 0)), (9, .bool ((aget S.last y.c).isSome)), (38, .bool false)] ⟨rfl, rfl, rfl, rfl, rfl, rfl, rfl, rfl, rfl, rfl, rfl, trivial⟩ ?_
      refine To.thenN ?_
      refine To.condF rfl ?_
      refine To.skip ?_
      refine To.thenN ?_
      refine To.seq ?_
      refine To.reg ?_
      refine To.rd rfl rfl rfl (Rd.move rfl rfl) ?_
      refine To.rd rfl rfl rfl (Rd.field rfl rfl fl37_1) ?_
      refine To.rd rfl rfl rfl (Rd.load (i := 0) rfl rfl c3 rfl (box_gives1 rfl)) ?_
      refine To.rd rfl rfl rfl (Rd.field rfl rfl fl37_0) ?_
      refine To.rd rfl rfl rfl (Rd.load (i := 0) rfl rfl c3 rfl (box_gives1 rfl)) ?_
      refine To.up rfl rfl (Up.mapUpdate (i := 1) (k := y.c) (v := y.t) (m := S.last) keyI rfl Try.underlying52 rfl rfl rfl rfl) ?_
      refine To.nil ?_
      refine To.thenN ?_
      refine To.seq ?_
      refine To.reg ?_
      refine To.rd rfl rfl rfl (Rd.loadS (i := 0) rfl rfl r37 rfl box_whole rfl) ?_
      refine To.callV rfl rfl rfl (Ent.fn rfl rfl ca33) (message_fn y) rfl (oks_nil _) ?_
      refine To.rd rfl rfl rfl (Rd.move rfl rfl) ?_
      refine To.rd rfl rfl rfl (Rd.extract rfl rfl rfl) ?_
      refine To.rd rfl rfl rfl (Rd.extract rfl rfl rfl) ?_
      refine To.alloc rfl rfl rfl rfl z55 (fun b10_2 => ?_)
      refine To.up rfl rfl (Up.storeS (i := 0) rfl rfl rfl r55 rfl rfl rfl (box_takesAll rfl)) ?_
      refine To.rd rfl rfl rfl (Rd.assign rfl rfl) ?_
      refine To.nil ?_
      refine To.thenN ?_
      refine To.seq ?_
      refine To.reg ?_
      refine To.rd rfl rfl rfl (Rd.move rfl rfl) ?_
      refine To.nil ?_
      refine To.thenN ?_
      refine To.block ?_
      refine To.seq ?_
      refine To.reg ?_
      refine To.rd rfl rfl rfl (Rd.eql rfl rfl rfl) ?_
      refine To.rd rfl rfl rfl (Rd.assign rfl rfl) ?_
      refine To.nil ?_
      refine To.thenN ?_
      refine To.condP rfl (fun c50 => ?_) (fun c50 => ?_)
      ·
        refine To.seq ?_
        refine To.seq ?_
        refine To.reg ?_
        refine To.rd rfl rfl rfl (Rd.move rfl rfl) ?_
        refine To.rd rfl rfl rfl (Rd.loadS (i := 0) rfl rfl r55 rfl box_whole rfl) ?_
        refine To.rd rfl rfl rfl (Rd.as (v' := .bool ((aget S.came y.key).getD false)) rfl (Rd.lookup (i := 4) (k := y.key) (m := S.came) keyM false rfl Try.underlying69 zv4 rfl rfl rfl)) ?_
        refine To.nil ?_
        refine To.sub [(3, .map (some m16)), (4, .map (some m17)), (5, .map (some m18)), (19, .slice Al l.length cl), (20, .int .i64 ((l.length : Nat) : Int)), (21, .int .i64 ((i : Nat) : Int)), (22, .bool (decide (((i : Nat) : Int) < ((l.length : Nat) : Int)))), (7, .pointer (some ⟨b7, 0, none⟩)), (8, .int .i64 ((aget S.last y.c).getD 0)), (9, .bool ((aget S.last y.c).isSome)), (38, .bool false), (10, .pointer (some ⟨b10_2, 0, none⟩)), (11, .int .i64 y.rl), (49, .int .i64 y.rl), (50, .bool (decide (y.rl = 1))), (54, .bool ((aget S.came y.key).getD false))] ⟨rfl, rfl, rfl, rfl, rfl, rfl, rfl, rfl, rfl, rfl, rfl, rfl, rfl, rfl, rfl, rfl, trivial⟩ ?_
        refine To.thenN ?_
        refine To.cond rfl (fun c54 => ?_) (fun c54 => ?_)
        ·
          refine To.seq ?_
          refine To.reg ?_
          refine To.rd rfl rfl rfl (Rd.assign rfl rfl) ?_
          refine To.nil ?_
          refine To.thenN ?_
          refine To.ret ?_
          refine To.thenR ?_
          refine To.blockR ?_
          refine To.blockR ?_
          refine To.thenR ?_
          refine To.thenR ?_
          refine To.blockR ?_
          refine To.thenR ?_
          refine To.end1 (.inl rfl) Try.results28 rfl ?_
          rw [hI, VS.all_no hy (by simp [VS.step, VS.lt, c50, c54, g33])]
        ·
          refine To.skip ?_
          refine To.thenN ?_
          refine To.seq ?_
          refine To.reg ?_
          refine To.rd rfl rfl rfl (Rd.move rfl rfl) ?_
          refine To.rd rfl rfl rfl (Rd.loadS (i := 0) rfl rfl r55 rfl box_whole rfl) ?_
          refine To.rd rfl rfl rfl (Rd.as (v' := .tuple #[.int .i64 ((aget S.sent y.key).getD 0), .bool ((aget S.sent y.key).isSome)]) rfl (Rd.lookupOk (i := 3) (k := y.key) (m := S.sent) keyM 0 rfl Try.underlying53 zv3 rfl rfl rfl)) ?_
          refine To.rd rfl rfl rfl (Rd.move rfl rfl) ?_
          refine To.rd rfl rfl rfl (Rd.extract rfl rfl rfl) ?_
          refine To.rd rfl rfl rfl (Rd.extract rfl rfl rfl) ?_
          refine To.rd rfl rfl rfl (Rd.assign rfl rfl) ?_
          refine To.rd rfl rfl rfl (Rd.assign rfl rfl) ?_
          refine To.nil ?_
          refine To.thenN ?_
          refine To.seq ?_
          refine To.reg ?_
          refine To.rd rfl rfl rfl (Rd.move rfl rfl) ?_
          refine To.rd rfl rfl rfl (Rd.not rfl rfl) ?_
          refine To.rdB rfl rfl rfl (Rd.move rfl rfl) (fun g63 => ?_) (fun g63 => ?_)
          ·
            refine To.sk rfl rfl rfl ?_
            refine To.sk rfl rfl rfl ?_
            refine To.sk rfl rfl rfl ?_
            refine To.sk rfl rfl rfl ?_
            refine To.rd rfl rfl rfl (Rd.pickT rfl rfl rfl) ?_
            refine To.nil ?_
            refine To.sub [(3, .map (some m16)), (4, .map (some m17)), (5, .map (some m18)), (19, .slice Al l.length cl), (20, .int .i64 ((l.length : Nat) : Int)), (21, .int .i64 ((i : Nat) : Int)), (22, .bool (decide (((i : Nat) : Int) < ((l.length : Nat) : Int)))), (7, .pointer (some ⟨b7, 0, none⟩)), (8, .int .i64 ((aget S.last y.c).getD 0)), (9, .bool ((aget S.last y.c).isSome)), (38, .bool false), (10, .pointer (some ⟨b10_2, 0, none⟩)), (11, .int .i64 y.rl), (49, .int .i64 y.rl), (50, .bool (decide (y.rl = 1))), (54, .bool ((aget S.came y.key).getD false)), (12, .int .i64 ((aget S.sent y.key).getD 0)), (13, .bool ((aget S.sent y.key).isSome)), (68, .bool true)] ⟨rfl, rfl, rfl, rfl, rfl, rfl, rfl, rfl, rfl, rfl, rfl, rfl, rfl, rfl, rfl, rfl, rfl, rfl, rfl, trivial⟩ ?_
            refine To.thenN ?_
            refine To.condT rfl ?_
            refine To.reg ?_
            refine To.rd rfl rfl rfl (Rd.move rfl rfl) ?_
            refine To.rd rfl rfl rfl (Rd.loadS (i := 0) rfl rfl r55 rfl box_whole rfl) ?_
            refine To.rd rfl rfl rfl (Rd.field rfl rfl fl37_0) ?_
            refine To.rd rfl rfl rfl (Rd.load (i := 1) rfl rfl c3 rfl (box_gives1 rfl)) ?_
            refine To.up rfl rfl (Up.mapUpdate (i := 3) (k := y.key) (v := y.t) (m := S.sent) keyM rfl Try.underlying53 rfl rfl rfl rfl) ?_
            refine To.nil ?_
            refine To.blockN ?_
            refine To.blockN ?_
            refine To.thenN ?_
            refine To.reg ?_
            refine To.rd rfl rfl rfl (Rd.inc rfl rfl rfl (by omega)) ?_
            refine To.rd rfl rfl rfl (Rd.move rfl rfl) ?_
            refine To.nil ?_
            refine To.thenN ?_
            refine To.sub [(3, .map (some m16)), (4, .map (some m17)), (5, .map (some m18)), (19, .slice Al l.length cl), (20, .int .i64 ((l.length : Nat) : Int)), (21, .int .i64 (((i + 1) : Nat) : Int))] ⟨rfl, rfl, rfl, rfl, rfl, rfl, trivial⟩ ?_
            refine To.only [2, 2, 2, 2] rfl ?_
            refine To.again (l.length - (i + 1)) (by omega) ⟨i + 1, ⟨(aset S.last y.c y.t), (aset S.sent y.key y.t), S.came⟩, rfl, rfl, rfl, (by omega), (by rw [hI, VS.all_go hy (s' := ⟨(aset S.last y.c y.t), (aset S.sent y.key y.t), S.came⟩) (by simp [VS.step, VS.lt, c50, c54, g33, g63])])⟩
          ·
            refine To.rd rfl rfl rfl (Rd.move rfl rfl) ?_
            refine To.rd rfl rfl rfl (Rd.field rfl rfl fl37_0) ?_
            refine To.rd rfl rfl rfl (Rd.load (i := 1) rfl rfl c3 rfl (box_gives1 rfl)) ?_
            refine To.rd rfl rfl rfl (Rd.lss rfl rfl rfl) ?_
            refine To.rd rfl rfl rfl (Rd.pickF rfl rfl rfl) ?_
            refine To.nil ?_
            refine To.sub [(3, .map (some m16)), (4, .map (some m17)), (5, .map (some m18)), (19, .slice Al l.length cl), (20, .int .i64 ((l.length : Nat) : Int)), (21, .int .i64 ((i : Nat) : Int)), (22, .bool (decide (((i : Nat) : Int) < ((l.length : Nat) : Int)))), (7, .pointer (some ⟨b7, 0, none⟩)), (8, .int .i64 ((aget S.last y.c).getD 0)), (9, .bool ((aget S.last y.c).isSome)), (38, .bool false), (10, .pointer (some ⟨b10_2, 0, none⟩)), (11, .int .i64 y.rl), (49, .int .i64 y.rl), (50, .bool (decide (y.rl = 1))), (54, .bool ((aget S.came y.key).getD false)), (12, .int .i64 ((aget S.sent y.key).getD 0)), (13, .bool ((aget S.sent y.key).isSome)), (68, .bool (decide (((aget S.sent y.key).getD 0) < y.t)))] ⟨rfl, rfl, rfl, rfl, rfl, rfl, rfl, rfl, rfl, rfl, rfl, rfl, rfl, rfl, rfl, rfl, rfl, rfl, rfl, trivial⟩ ?_
            refine To.thenN ?_
            refine To.condP rfl (fun c68 => ?_) (fun c68 => ?_)
            ·
              refine To.reg ?_
              refine To.rd rfl rfl rfl (Rd.move rfl rfl) ?_
              refine To.rd rfl rfl rfl (Rd.loadS (i := 0) rfl rfl r55 rfl box_whole rfl) ?_
              refine To.rd rfl rfl rfl (Rd.field rfl rfl fl37_0) ?_
              refine To.rd rfl rfl rfl (Rd.load (i := 1) rfl rfl c3 rfl (box_gives1 rfl)) ?_
              refine To.up rfl rfl (Up.mapUpdate (i := 3) (k := y.key) (v := y.t) (m := S.sent) keyM rfl Try.underlying53 rfl rfl rfl rfl) ?_
              refine To.nil ?_
              refine To.blockN ?_
              refine To.blockN ?_
              refine To.thenN ?_
              refine To.reg ?_
              refine To.rd rfl rfl rfl (Rd.inc rfl rfl rfl (by omega)) ?_
              refine To.rd rfl rfl rfl (Rd.move rfl rfl) ?_
              refine To.nil ?_
              refine To.thenN ?_
              refine To.sub [(3, .map (some m16)), (4, .map (some m17)), (5, .map (some m18)), (19, .slice Al l.length cl), (20, .int .i64 ((l.length : Nat) : Int)), (21, .int .i64 (((i + 1) : Nat) : Int))] ⟨rfl, rfl, rfl, rfl, rfl, rfl, trivial⟩ ?_
              refine To.only [2, 2, 2, 2] rfl ?_
              refine To.again (l.length - (i + 1)) (by omega) ⟨i + 1, ⟨(aset S.last y.c y.t), (aset S.sent y.key y.t), S.came⟩, rfl, rfl, rfl, (by omega), (by rw [hI, VS.all_go hy (s' := ⟨(aset S.last y.c y.t), (aset S.sent y.key y.t), S.came⟩) (by simp [VS.step, VS.lt, c50, c54, c68, g33, g63])])⟩
            ·
              refine To.skip ?_
              refine To.blockN ?_
              refine To.blockN ?_
              refine To.thenN ?_
              refine To.reg ?_
              refine To.rd rfl rfl rfl (Rd.inc rfl rfl rfl (by omega)) ?_
              refine To.rd rfl rfl rfl (Rd.move rfl rfl) ?_
              refine To.nil ?_
              refine To.thenN ?_
              refine To.sub [(3, .map (some m16)), (4, .map (some m17)), (5, .map (some m18)), (19, .slice Al l.length cl), (20, .int .i64 ((l.length : Nat) : Int)), (21, .int .i64 (((i + 1) : Nat) : Int))] ⟨rfl, rfl, rfl, rfl, rfl, rfl, trivial⟩ ?_
              refine To.only [2, 2, 2, 2] rfl ?_
              refine To.again (l.length - (i + 1)) (by omega) ⟨i + 1, ⟨(aset S.last y.c y.t), S.sent, S.came⟩, rfl, rfl, rfl, (by omega), (by rw [hI, VS.all_go hy (s' := ⟨(aset S.last y.c y.t), S.sent, S.came⟩) (by simp [VS.step, VS.lt, c50, c54, c68, g33, g63])])⟩
      ·
        refine To.seq ?_
        refine To.reg ?_
        refine To.rd rfl rfl rfl (Rd.eql rfl rfl rfl) ?_
        refine To.rd rfl rfl rfl (Rd.assign rfl rfl) ?_
        refine To.nil ?_
        refine To.thenN ?_
        refine To.condP rfl (fun c73 => ?_) (fun c73 => ?_)
        ·
          refine To.seq ?_
          refine To.seq ?_
          refine To.reg ?_
          refine To.rd rfl rfl rfl (Rd.move rfl rfl) ?_
          refine To.rd rfl rfl rfl (Rd.loadS (i := 0) rfl rfl r55 rfl box_whole rfl) ?_
          refine To.rd rfl rfl rfl (Rd.as (v' := .tuple #[.int .i64 ((aget S.sent y.key).getD 0), .bool ((aget S.sent y.key).isSome)]) rfl (Rd.lookupOk (i := 3) (k := y.key) (m := S.sent) keyM 0 rfl Try.underlying53 zv3 rfl rfl rfl)) ?_
          refine To.rd rfl rfl rfl (Rd.move rfl rfl) ?_
          refine To.rd rfl rfl rfl (Rd.extract rfl rfl rfl) ?_
          refine To.rd rfl rfl rfl (Rd.extract rfl rfl rfl) ?_
          refine To.rd rfl rfl rfl (Rd.assign rfl rfl) ?_
          refine To.rd rfl rfl rfl (Rd.assign rfl rfl) ?_
          refine To.nil ?_
          refine To.sub [(3, .map (some m16)), (4, .map (some m17)), (5, .map (some m18)), (19, .slice Al l.length cl), (20, .int .i64 ((l.length : Nat) : Int)), (21, .int .i64 ((i : Nat) : Int)), (22, .bool (decide (((i : Nat) : Int) < ((l.length : Nat) : Int)))), (7, .pointer (some ⟨b7, 0, none⟩)), (8, .int .i64 ((aget S.last y.c).getD 0)), (9, .bool ((aget S.last y.c).isSome)), (38, .bool false), (10, .pointer (some ⟨b10_2, 0, none⟩)), (11, .int .i64 y.rl), (49, .int .i64 y.rl), (50, .bool (decide (y.rl = 1))), (73, .bool (decide (y.rl = 2))), (14, .int .i64 ((aget S.sent y.key).getD 0)), (15, .bool ((aget S.sent y.key).isSome))] ⟨rfl, rfl, rfl, rfl, rfl, rfl, rfl, rfl, rfl, rfl, rfl, rfl, rfl, rfl, rfl, rfl, rfl, rfl, trivial⟩ ?_
          refine To.thenN ?_
          refine To.seq ?_
          refine To.reg ?_
          refine To.rd rfl rfl rfl (Rd.move rfl rfl) ?_
          refine To.rdB rfl rfl rfl (Rd.move rfl rfl) (fun g82 => ?_) (fun g82 => ?_)
          ·
            refine To.rd rfl rfl rfl (Rd.move rfl rfl) ?_
            refine To.rd rfl rfl rfl (Rd.field rfl rfl fl37_0) ?_
            refine To.rd rfl rfl rfl (Rd.load (i := 1) rfl rfl c3 rfl (box_gives1 rfl)) ?_
            refine To.rd rfl rfl rfl (Rd.geq rfl rfl rfl) ?_
            refine To.rd rfl rfl rfl (Rd.pickT rfl rfl rfl) ?_
            refine To.nil ?_
            refine To.thenN ?_
            refine To.condP rfl (fun c87 => ?_) (fun c87 => ?_)
            ·
              refine To.seq ?_
              refine To.reg ?_
              refine To.rd rfl rfl rfl (Rd.assign rfl rfl) ?_
              refine To.nil ?_
              refine To.thenN ?_
              refine To.ret ?_
              refine To.thenR ?_
              refine To.blockR ?_
              refine To.blockR ?_
              refine To.thenR ?_
              refine To.thenR ?_
              refine To.blockR ?_
              refine To.thenR ?_
              refine To.end1 (.inl rfl) Try.results28 rfl ?_
              rw [hI, VS.all_no hy (by simp [VS.step, VS.lt, c50, c73, c87, g33, g82])]
            ·
              refine To.skip ?_
              refine To.thenN ?_
              refine To.reg ?_
              refine To.rd rfl rfl rfl (Rd.move rfl rfl) ?_
              refine To.rd rfl rfl rfl (Rd.loadS (i := 0) rfl rfl r55 rfl box_whole rfl) ?_
              refine To.up rfl rfl (Up.mapUpdate (i := 4) (k := y.key) (v := true) (m := S.came) keyM rfl Try.underlying69 rfl rfl rfl rfl) ?_
              refine To.nil ?_
              refine To.blockN ?_
              refine To.blockN ?_
              refine To.thenN ?_
              refine To.reg ?_
              refine To.rd rfl rfl rfl (Rd.inc rfl rfl rfl (by omega)) ?_
              refine To.rd rfl rfl rfl (Rd.move rfl rfl) ?_
              refine To.nil ?_
              refine To.thenN ?_
              refine To.sub [(3, .map (some m16)), (4, .map (some m17)), (5, .map (some m18)), (19, .slice Al l.length cl), (20, .int .i64 ((l.length : Nat) : Int)), (21, .int .i64 (((i + 1) : Nat) : Int))] ⟨rfl, rfl, rfl, rfl, rfl, rfl, trivial⟩ ?_
              refine To.only [2, 2, 2, 2] rfl ?_
              refine To.again (l.length - (i + 1)) (by omega) ⟨i + 1, ⟨(aset S.last y.c y.t), S.sent, (aset S.came y.key true)⟩, rfl, rfl, rfl, (by omega), (by rw [hI, VS.all_go hy (s' := ⟨(aset S.last y.c y.t), S.sent, (aset S.came y.key true)⟩) (by simp [VS.step, VS.lt, c50, c73, c87, g33, g82])])⟩
          ·
            refine To.sk rfl rfl rfl ?_
            refine To.sk rfl rfl rfl ?_
            refine To.sk rfl rfl rfl ?_
            refine To.sk rfl rfl rfl ?_
            refine To.rd rfl rfl rfl (Rd.pickF rfl rfl rfl) ?_
            refine To.nil ?_
            refine To.thenN ?_
            refine To.condF rfl ?_
            refine To.skip ?_
            refine To.thenN ?_
            refine To.reg ?_
            refine To.rd rfl rfl rfl (Rd.move rfl rfl) ?_
            refine To.rd rfl rfl rfl (Rd.loadS (i := 0) rfl rfl r55 rfl box_whole rfl) ?_
            refine To.up rfl rfl (Up.mapUpdate (i := 4) (k := y.key) (v := true) (m := S.came) keyM rfl Try.underlying69 rfl rfl rfl rfl) ?_
            refine To.nil ?_
            refine To.blockN ?_
            refine To.blockN ?_
            refine To.thenN ?_
            refine To.reg ?_
            refine To.rd rfl rfl rfl (Rd.inc rfl rfl rfl (by omega)) ?_
            refine To.rd rfl rfl rfl (Rd.move rfl rfl) ?_
            refine To.nil ?_
            refine To.thenN ?_
            refine To.sub [(3, .map (some m16)), (4, .map (some m17)), (5, .map (some m18)), (19, .slice Al l.length cl), (20, .int .i64 ((l.length : Nat) : Int)), (21, .int .i64 (((i + 1) : Nat) : Int))] ⟨rfl, rfl, rfl, rfl, rfl, rfl, trivial⟩ ?_
            refine To.only [2, 2, 2, 2] rfl ?_
            refine To.again (l.length - (i + 1)) (by omega) ⟨i + 1, ⟨(aset S.last y.c y.t), S.sent, (aset S.came y.key true)⟩, rfl, rfl, rfl, (by omega), (by rw [hI, VS.all_go hy (s' := ⟨(aset S.last y.c y.t), S.sent, (aset S.came y.key true)⟩) (by simp [VS.step, VS.lt, c50, c73, g33, g82])])⟩
        ·
          refine To.skip ?_
          refine To.blockN ?_
          refine To.blockN ?_
          refine To.thenN ?_
          refine To.reg ?_
          refine To.rd rfl rfl rfl (Rd.inc rfl rfl rfl (by omega)) ?_
          refine To.rd rfl rfl rfl (Rd.move rfl rfl) ?_
          refine To.nil ?_
          refine To.sub [(3, .map (some m16)), (4, .map (some m17)), (5, .map (some m18)), (19, .slice Al l.length cl), (20, .int .i64 ((l.length : Nat) : Int)), (21, .int .i64 ((i + 1 : Nat) : Int)), (22, .bool (decide (((i : Nat) : Int) < ((l.length : Nat) : Int)))), (7, .pointer (some ⟨b7, 0, none⟩)), (8, .int .i64 ((aget S.last y.c).getD 0)), (9, .bool ((aget S.last y.c).isSome)), (38, .bool false), (10, .pointer (some ⟨b10_2, 0, none⟩)), (11, .int .i64 y.rl), (49, .int .i64 y.rl), (50, .bool (decide (y.rl = 1))), (73, .bool (decide (y.rl = 2)))] ⟨rfl, rfl, rfl, rfl, rfl, rfl, rfl, rfl, rfl, rfl, rfl, rfl, rfl, rfl, rfl, rfl, trivial⟩ ?_
          refine To.thenN ?_
          refine To.sub [(3, .map (some m16)), (4, .map (some m17)), (5, .map (some m18)), (19, .slice Al l.length cl), (20, .int .i64 ((l.length : Nat) : Int)), (21, .int .i64 (((i + 1) : Nat) : Int))] ⟨rfl, rfl, rfl, rfl, rfl, rfl, trivial⟩ ?_
          refine To.only [2, 2, 2, 2] rfl ?_
          refine To.again (l.length - (i + 1)) (by omega) ⟨i + 1, ⟨(aset S.last y.c y.t), S.sent, S.came⟩, rfl, rfl, rfl, (by omega), (by rw [hI, VS.all_go hy (s' := ⟨(aset S.last y.c y.t), S.sent, S.came⟩) (by simp [VS.step, VS.lt, c50, c73, g33])])⟩
  ·
    refine To.exit ?_
    refine To.thenX ?_
    refine To.thenX ?_
    refine To.blockX ?_
    refine To.thenN ?_
    refine To.seq ?_
    refine To.reg ?_
    refine To.rd rfl rfl rfl (Rd.assign rfl rfl) ?_
    refine To.nil ?_
    refine To.thenN ?_
    refine To.ret ?_
    refine To.end1 (.inl rfl) Try.results28 rfl ?_
    rw [hI, List.drop_eq_nil_of_le (by omega)]; rfl
end Go.Proofs.Ytneimfacccgaeaa
