/- The law ExecEqual. Own text (walks printed by sx.py). -/
import Derived.Test.YtoehnbacbobhiaaDoorX19
import Derived.Test.YtoehnbacbobhiaaDoorSepc
namespace Go.Proofs.YtoehnbacbobhiaaDoor
open Go.RowKit Go.Flow Go.Mem Go.Sep
theorem of_len (l : List (Int × Int)) : (ofT l).length ≤ l.length := by rw [← (rof_eq l).1]; exact rof_len l
theorem stV_small {a : Sx} {w : Wx} {nv nt : Nat} (h : a.val = stV w nv nt) (hv : nv ≤ 1000) (ht : nt ≤ 16) : a.small := by
  unfold Sx.val stV at h
  simp only [Prod.mk.injEq] at h
  obtain ⟨h1, h2, h3⟩ := h
  refine ⟨by rw [h1, pad_len]; omega, ?_, fun x hx => ?_, ?_⟩
  · have := congrArg List.length h2
    rw [List.length_map, tabs_len] at this
    omega
  · have h4 : x.l ∈ a.tabs.map Tb.l := List.mem_map.2 ⟨x, hx, rfl⟩
    rw [h2] at h4
    obtain ⟨i, _, h5⟩ := List.mem_map.1 h4
    rw [← h5]
    refine Nat.le_trans (of_len _) ?_
    rw [List.length_take]
    omega
  · rw [h3]
    refine Nat.le_trans (of_len _) ?_
    rw [List.length_take]
    omega
theorem want_succ {a b : List Tb} {x y : Tb} {i : Nat} (hx : a[i]? = some x) (hy : b[i]? = some y) {p : Prop} [Decidable p] {h : p ∧ (a.map Tb.l).take i = (b.map Tb.l).take i} : decide (x.l = y.l) = decide (p ∧ (a.map Tb.l).take (i + 1) = (b.map Tb.l).take (i + 1)) := by
  have h1 : (a.map Tb.l)[i]? = some x.l := by rw [List.getElem?_map, hx]; rfl
  have h2 : (b.map Tb.l)[i]? = some y.l := by rw [List.getElem?_map, hy]; rfl
  rw [take_of_get h1, take_of_get h2, h.2]
  simp [h.1]
theorem oks_row0 {Γ : List Chunk} {e : TypeId} {size : Nat} {A : Option Addr} {cap : Nat} {α : Type} {enc : α → List Value} (i : Nat) (h : Γ[i]? = some (row e size A 0 cap [])) : ∀ w, oks Γ w → (ros enc A []).holds w := oks_row i h
def sx0 (A : Option Addr) : Sx := ⟨A, 0, [], none, 0, [], ⟨none, 0, []⟩⟩
theorem xeq00 (A : Option Addr) : Does Tryd.prog 10 [.agg #[.slice A 0 0, .slice none 0 0, .slice none 0 0], .agg #[.slice none 0 0, .slice none 0 0, .slice none 0 0]] [ros encI A [], ros Tb.cells none [], rosS encEn [], ros encEn none [], ros encI none [], ros Tb.cells none [], rosS encEn [], ros encEn none []] (fun v _ => v = .bool true) :=
  (xeq_fn (sx0 A) (sx0 none) ⟨by simp [sx0], by simp [sx0], fun _ h => by simp [sx0] at h, by simp [sx0]⟩).mono (fun v _ h => by rw [h]; rfl)
theorem oks_free {Γ : List Chunk} {α : Type} {enc : α → List Value} : ∀ w, oks Γ w → (ros enc none []).holds w := fun _ _ => .inl rfl
theorem oks_fam {Γ : List Chunk} {α : Type} {enc : α → List Value} : ∀ w, oks Γ w → (rosS enc []).holds w := fun _ _ p hp => by simp at hp
set_option maxHeartbeats 2000000 in
set_option maxRecDepth 100000 in
theorem equal_fn (wa wb : Wx) (hwa : wa.ok) (hwb : wb.ok) (n : Nat) (hn : n < 256) :
    Does Tryd.prog 4 [.agg #[.slice wa.Av wa.vars.length wa.qv, .slice wa.At wa.tabs.length wa.qt, .slice wa.Ad wa.disk.length wa.qd, .slice wa.Aa wa.args.length wa.qa, .int .i64 wa.now, .int .u8 ((wa.flags : Nat) : Int), .int .u8 ((wa.before : Nat) : Int), .slice wa.Af wa.fail.length wa.qf], .agg #[.slice wb.Av wb.vars.length wb.qv, .slice wb.At wb.tabs.length wb.qt, .slice wb.Ad wb.disk.length wb.qd, .slice wb.Aa wb.args.length wb.qa, .int .i64 wb.now, .int .u8 ((wb.flags : Nat) : Int), .int .u8 ((wb.before : Nat) : Int), .slice wb.Af wb.fail.length wb.qf], .int .u8 ((n : Nat) : Int)] [ros encI wa.Av wa.vars, ros encEn wa.At wa.tabs, ros encEn wa.Ad wa.disk, ros encI wa.Aa wa.args, ros encY wa.Af wa.fail, ros encI wb.Av wb.vars, ros encEn wb.At wb.tabs, ros encEn wb.Ad wb.disk, ros encI wb.Aa wb.args, ros encY wb.Af wb.fail, tabC] (fun v _ => v = .bool true) := by
  refine Does.enter Tryd.func4 rfl Tryd.ntmps4 rfl (fun w0 => ?_)
  refine To.seq ?_
  refine To.reg ?_
  refine To.boxed rfl rfl rfl rfl rfl rfl (fun b3 => ?_)
  refine To.boxed rfl rfl rfl rfl rfl rfl (fun b4 => ?_)
  refine To.rd rfl rfl rfl (Rd.assign rfl rfl) ?_
  refine To.nil ?_
  refine To.thenN ?_
  refine To.seq ?_
  refine To.reg ?_
  refine To.rd rfl rfl rfl (Rd.loadS (i := 1) rfl rfl r53 rfl box_whole rfl) ?_
  refine To.rd rfl rfl rfl (Rd.move rfl rfl) ?_
  refine To.rd rfl rfl rfl (Rd.remN (a := n) (b := 3) rfl rfl rfl (by omega)) ?_
  refine To.rd rfl rfl rfl (Rd.conv rfl rfl Tryd.underlying5 Tryd.underlying3 (IntWalk.i64_in _ (by omega))) ?_
  refine To.rd rfl rfl rfl (Rd.move rfl rfl) ?_
  refine To.rd rfl rfl rfl (Rd.quo8 (a := n) (b := 3) rfl rfl rfl (by omega) (by omega)) ?_
  refine To.rd rfl rfl rfl (Rd.remN (a := (n / 3)) (b := 3) rfl rfl rfl (by omega)) ?_
  refine To.rd rfl rfl rfl (Rd.conv rfl rfl Tryd.underlying5 Tryd.underlying3 (IntWalk.i64_in _ (by omega))) ?_
  refine To.call [2, 2, 2, 2, 2] rfl rfl rfl (Ent.fn rfl rfl ca7) rfl (make0_fn wa hwa (n % 3) (n / 3 % 3) (by omega) (by omega)) ?_
  rintro _ _ ⟨sa, ra, Ff1, qf1, Lf1, rfl, rfl, hvsa, hvra, hlf1⟩
  refine To.as [rows encI 2 1 sa.Av sa.qv sa.vars, rows Tb.cells 32 1 sa.At sa.qt sa.tabs, rosS encEn (sa.tabs.map Tb.ar), ros encEn sa.dk.A sa.dk.l, rows encI 2 1 ra.Av ra.qv ra.vars, rows Tb.cells 55 1 ra.At ra.qt ra.tabs, rosS encEn (ra.tabs.map Tb.ar), ros encEn ra.dk.A ra.dk.l, rows encI 3 1 Ff1 qf1 Lf1, box b4 [.slice wb.Av wb.vars.length wb.qv, .slice wb.At wb.tabs.length wb.qt, .slice wb.Ad wb.disk.length wb.qd, .slice wb.Aa wb.args.length wb.qa, .int .i64 wb.now, .int .u8 ((wb.flags : Nat) : Int), .int .u8 ((wb.before : Nat) : Int), .slice wb.Af wb.fail.length wb.qf] 53, box b3 [.slice wa.Av wa.vars.length wa.qv, .slice wa.At wa.tabs.length wa.qt, .slice wa.Ad wa.disk.length wa.qd, .slice wa.Aa wa.args.length wa.qa, .int .i64 wa.now, .int .u8 ((wa.flags : Nat) : Int), .int .u8 ((wa.before : Nat) : Int), .slice wa.Af wa.fail.length wa.qf] 53, ros encI wb.Av wb.vars, ros encEn wb.At wb.tabs, ros encEn wb.Ad wb.disk, ros encI wb.Aa wb.args, ros encY wb.Af wb.fail, tabC] rfl ?_
  refine To.rd rfl rfl rfl (Rd.move rfl rfl) ?_
  refine To.rd rfl rfl rfl (Rd.extract rfl rfl rfl) ?_
  refine To.rd rfl rfl rfl (Rd.extract rfl rfl rfl) ?_
  refine To.rd rfl rfl rfl (Rd.extract rfl rfl rfl) ?_
  refine To.rd rfl rfl rfl (Rd.extract rfl rfl rfl) ?_
  refine To.alloc rfl rfl rfl rfl z34 (fun b7 => ?_)
  refine To.alloc rfl rfl rfl rfl z57 (fun b8 => ?_)
  refine To.alloc rfl rfl rfl rfl z44 (fun b9 => ?_)
  refine To.alloc rfl rfl rfl rfl z58 (fun b10 => ?_)
  refine To.up rfl rfl (Up.storeS (i := 3) rfl rfl rfl r34 rfl rfl rfl (box_takesAll rfl)) ?_
  refine To.up rfl rfl (Up.storeS (i := 2) rfl rfl rfl r57 rfl rfl rfl (box_takesAll rfl)) ?_
  refine To.up rfl rfl (Up.storeS (i := 1) rfl rfl rfl r44 rfl rfl rfl (box_takesAll rfl)) ?_
  refine To.up rfl rfl (Up.storeS (i := 0) rfl rfl rfl r58 rfl rfl rfl (box_takesAll rfl)) ?_
  refine To.nil ?_
  refine To.sub [(0, .agg #[.slice wa.Av wa.vars.length wa.qv, .slice wa.At wa.tabs.length wa.qt, .slice wa.Ad wa.disk.length wa.qd, .slice wa.Aa wa.args.length wa.qa, .int .i64 wa.now, .int .u8 ((wa.flags : Nat) : Int), .int .u8 ((wa.before : Nat) : Int), .slice wa.Af wa.fail.length wa.qf]), (1, .agg #[.slice wb.Av wb.vars.length wb.qv, .slice wb.At wb.tabs.length wb.qt, .slice wb.Ad wb.disk.length wb.qd, .slice wb.Aa wb.args.length wb.qa, .int .i64 wb.now, .int .u8 ((wb.flags : Nat) : Int), .int .u8 ((wb.before : Nat) : Int), .slice wb.Af wb.fail.length wb.qf]), (2, .int .u8 ((n : Nat) : Int)), (3, .pointer (some ⟨b3, 0, none⟩)), (4, .pointer (some ⟨b4, 0, none⟩)), (6, .bool false), (7, .pointer (some ⟨b7, 0, none⟩)), (8, .pointer (some ⟨b8, 0, none⟩))] ⟨rfl, rfl, rfl, rfl, rfl, rfl, rfl, rfl, trivial⟩ ?_
  refine To.thenN ?_
  refine To.seq ?_
  refine To.reg ?_
  refine To.rd rfl rfl rfl (Rd.loadS (i := 13) rfl rfl r53 rfl box_whole rfl) ?_
  refine To.rd rfl rfl rfl (Rd.move rfl rfl) ?_
  refine To.rd rfl rfl rfl (Rd.remN (a := n) (b := 3) rfl rfl rfl (by omega)) ?_
  refine To.rd rfl rfl rfl (Rd.conv rfl rfl Tryd.underlying5 Tryd.underlying3 (IntWalk.i64_in _ (by omega))) ?_
  refine To.rd rfl rfl rfl (Rd.move rfl rfl) ?_
  refine To.rd rfl rfl rfl (Rd.quo8 (a := n) (b := 9) rfl rfl rfl (by omega) (by omega)) ?_
  refine To.rd rfl rfl rfl (Rd.remN (a := (n / 9)) (b := 3) rfl rfl rfl (by omega)) ?_
  refine To.rd rfl rfl rfl (Rd.conv rfl rfl Tryd.underlying5 Tryd.underlying3 (IntWalk.i64_in _ (by omega))) ?_
  refine To.call [15, 15, 15, 15, 15] rfl rfl rfl (Ent.fn rfl rfl ca7) rfl (make0_fn wb hwb (n % 3) (n / 9 % 3) (by omega) (by omega)) ?_
  rintro _ _ ⟨sb, rb, Ff2, qf2, Lf2, rfl, rfl, hvsb, hvrb, hlf2⟩
  refine To.as [rows encI 2 1 sb.Av sb.qv sb.vars, rows Tb.cells 32 1 sb.At sb.qt sb.tabs, rosS encEn (sb.tabs.map Tb.ar), ros encEn sb.dk.A sb.dk.l, rows encI 2 1 rb.Av rb.qv rb.vars, rows Tb.cells 55 1 rb.At rb.qt rb.tabs, rosS encEn (rb.tabs.map Tb.ar), ros encEn rb.dk.A rb.dk.l, rows encI 3 1 Ff2 qf2 Lf2, box b10 [.slice none 0 0, .int .i64 wa.now, .slice none 0 0, .int .i64 ((wa.before : Nat) : Int), .slice Ff1 Lf1.length qf1] 58, box b9 [.slice none 0 0, .int .i64 wa.now, .slice none 0 0, .int .i64 ((wa.before : Nat) : Int), .slice Ff1 Lf1.length qf1] 44, box b8 [.slice ra.Av ra.vars.length ra.qv, .slice ra.At ra.tabs.length ra.qt, .slice ra.dk.A ra.dk.l.length ra.dk.q] 57, box b7 [.slice sa.Av sa.vars.length sa.qv, .slice sa.At sa.tabs.length sa.qt, .slice sa.dk.A sa.dk.l.length sa.dk.q] 34, rows encI 2 1 sa.Av sa.qv sa.vars, rows Tb.cells 32 1 sa.At sa.qt sa.tabs, rosS encEn (sa.tabs.map Tb.ar), ros encEn sa.dk.A sa.dk.l, rows encI 2 1 ra.Av ra.qv ra.vars, rows Tb.cells 55 1 ra.At ra.qt ra.tabs, rosS encEn (ra.tabs.map Tb.ar), ros encEn ra.dk.A ra.dk.l, rows encI 3 1 Ff1 qf1 Lf1, box b4 [.slice wb.Av wb.vars.length wb.qv, .slice wb.At wb.tabs.length wb.qt, .slice wb.Ad wb.disk.length wb.qd, .slice wb.Aa wb.args.length wb.qa, .int .i64 wb.now, .int .u8 ((wb.flags : Nat) : Int), .int .u8 ((wb.before : Nat) : Int), .slice wb.Af wb.fail.length wb.qf] 53, box b3 [.slice wa.Av wa.vars.length wa.qv, .slice wa.At wa.tabs.length wa.qt, .slice wa.Ad wa.disk.length wa.qd, .slice wa.Aa wa.args.length wa.qa, .int .i64 wa.now, .int .u8 ((wa.flags : Nat) : Int), .int .u8 ((wa.before : Nat) : Int), .slice wa.Af wa.fail.length wa.qf] 53, tabC] rfl ?_
  refine To.rd rfl rfl rfl (Rd.move rfl rfl) ?_
  refine To.rd rfl rfl rfl (Rd.extract rfl rfl rfl) ?_
  refine To.rd rfl rfl rfl (Rd.extract rfl rfl rfl) ?_
  refine To.rd rfl rfl rfl (Rd.extract rfl rfl rfl) ?_
  refine To.rd rfl rfl rfl (Rd.extract rfl rfl rfl) ?_
  refine To.alloc rfl rfl rfl rfl z34 (fun b11 => ?_)
  refine To.alloc rfl rfl rfl rfl z57 (fun b12 => ?_)
  refine To.alloc rfl rfl rfl rfl z44 (fun b13 => ?_)
  refine To.alloc rfl rfl rfl rfl z58 (fun b14 => ?_)
  refine To.up rfl rfl (Up.storeS (i := 3) rfl rfl rfl r34 rfl rfl rfl (box_takesAll rfl)) ?_
  refine To.up rfl rfl (Up.storeS (i := 2) rfl rfl rfl r57 rfl rfl rfl (box_takesAll rfl)) ?_
  refine To.up rfl rfl (Up.storeS (i := 1) rfl rfl rfl r44 rfl rfl rfl (box_takesAll rfl)) ?_
  refine To.up rfl rfl (Up.storeS (i := 0) rfl rfl rfl r58 rfl rfl rfl (box_takesAll rfl)) ?_
  refine To.nil ?_
  refine To.sub [(0, .agg #[.slice wa.Av wa.vars.length wa.qv, .slice wa.At wa.tabs.length wa.qt, .slice wa.Ad wa.disk.length wa.qd, .slice wa.Aa wa.args.length wa.qa, .int .i64 wa.now, .int .u8 ((wa.flags : Nat) : Int), .int .u8 ((wa.before : Nat) : Int), .slice wa.Af wa.fail.length wa.qf]), (1, .agg #[.slice wb.Av wb.vars.length wb.qv, .slice wb.At wb.tabs.length wb.qt, .slice wb.Ad wb.disk.length wb.qd, .slice wb.Aa wb.args.length wb.qa, .int .i64 wb.now, .int .u8 ((wb.flags : Nat) : Int), .int .u8 ((wb.before : Nat) : Int), .slice wb.Af wb.fail.length wb.qf]), (2, .int .u8 ((n : Nat) : Int)), (3, .pointer (some ⟨b3, 0, none⟩)), (4, .pointer (some ⟨b4, 0, none⟩)), (6, .bool false), (7, .pointer (some ⟨b7, 0, none⟩)), (8, .pointer (some ⟨b8, 0, none⟩)), (11, .pointer (some ⟨b11, 0, none⟩)), (12, .pointer (some ⟨b12, 0, none⟩))] ⟨rfl, rfl, rfl, rfl, rfl, rfl, rfl, rfl, rfl, rfl, trivial⟩ ?_
  refine To.thenN ?_
  refine To.seq ?_
  have hsa := stV_small hvsa (by omega) (by omega)
  have hsb := stV_small hvsb (by omega) (by omega)
  obtain ⟨hra1, hra2, hra3, hra4⟩ := stV_small hvra (by omega) (by omega)
  refine To.reg ?_
  refine To.meet (T := Bool) (fun t => ([(7, .pointer (some ⟨b7, 0, none⟩)), (8, .pointer (some ⟨b8, 0, none⟩)), (11, .pointer (some ⟨b11, 0, none⟩)), (12, .pointer (some ⟨b12, 0, none⟩)), (15, .bool t)], [box b7 [.slice sa.Av sa.vars.length sa.qv, .slice sa.At sa.tabs.length sa.qt, .slice sa.dk.A sa.dk.l.length sa.dk.q] 34, box b8 [.slice ra.Av ra.vars.length ra.qv, .slice ra.At ra.tabs.length ra.qt, .slice ra.dk.A ra.dk.l.length ra.dk.q] 57, box b11 [.slice sb.Av sb.vars.length sb.qv, .slice sb.At sb.tabs.length sb.qt, .slice sb.dk.A sb.dk.l.length sb.dk.q] 34, box b12 [.slice rb.Av rb.vars.length rb.qv, .slice rb.At rb.tabs.length rb.qt, .slice rb.dk.A rb.dk.l.length rb.dk.q] 57, rows encI 2 1 sb.Av sb.qv sb.vars, rows Tb.cells 32 1 sb.At sb.qt sb.tabs, rosS encEn (sb.tabs.map Tb.ar), ros encEn sb.dk.A sb.dk.l, rows encI 2 1 rb.Av rb.qv rb.vars, rows Tb.cells 55 1 rb.At rb.qt rb.tabs, rosS encEn (rb.tabs.map Tb.ar), ros encEn rb.dk.A rb.dk.l, rows encI 2 1 sa.Av sa.qv sa.vars, rows Tb.cells 32 1 sa.At sa.qt sa.tabs, rosS encEn (sa.tabs.map Tb.ar), ros encEn sa.dk.A sa.dk.l, rows encI 2 1 ra.Av ra.qv ra.vars, rows Tb.cells 55 1 ra.At ra.qt ra.tabs, rosS encEn (ra.tabs.map Tb.ar), ros encEn ra.dk.A ra.dk.l, tabC])) (fun t => t = (decide ((ra.vars = rb.vars ∧ ra.tabs.length = rb.tabs.length ∧ ra.dk.l = rb.dk.l) ∧ (ra.tabs.map Tb.l).take 0 = (rb.tabs.map Tb.l).take 0))) ?_ (fun t ht => ?_)
  ·
    refine To.rd rfl rfl rfl (Rd.field rfl rfl fl57_0) ?_
    refine To.rd rfl rfl rfl (Rd.load (i := 15) rfl rfl c28 rfl (box_gives1 rfl)) ?_
    refine To.rd rfl rfl rfl (Rd.field rfl rfl fl57_0) ?_
    refine To.rd rfl rfl rfl (Rd.load (i := 2) rfl rfl c28 rfl (box_gives1 rfl)) ?_
    refine To.callV rfl rfl rfl (Ent.fn rfl rfl ca8) (sameArgs_fn ra.Av rb.Av ra.qv rb.qv ra.vars rb.vars hra1) rfl (oks_cons (oks_row 21 rfl) (oks_cons (oks_row 8 rfl) (oks_nil _))) ?_
    refine To.rdP rfl rfl rfl (Rd.move rfl rfl) (fun g50 => ?_) (fun g50 => ?_)
    ·
      refine To.rd rfl rfl rfl (Rd.field rfl rfl fl57_1) ?_
      refine To.rd rfl rfl rfl (Rd.load (i := 15) rfl rfl c54 rfl (box_gives1 rfl)) ?_
      refine To.rd rfl rfl rfl (Rd.len rfl rfl Tryd.underlying54) ?_
      refine To.rd rfl rfl rfl (Rd.field rfl rfl fl57_1) ?_
      refine To.rd rfl rfl rfl (Rd.load (i := 2) rfl rfl c54 rfl (box_gives1 rfl)) ?_
      refine To.rd rfl rfl rfl (Rd.len rfl rfl Tryd.underlying54) ?_
      refine To.rd rfl rfl rfl (Rd.eql rfl rfl rfl) ?_
      refine To.rd rfl rfl rfl (Rd.pickT rfl rfl rfl) ?_
      refine To.rdP rfl rfl rfl (Rd.move rfl rfl) (fun g59 => ?_) (fun g59 => ?_)
      ·
        refine To.rd rfl rfl rfl (Rd.field rfl rfl fl57_2) ?_
        refine To.rd rfl rfl rfl (Rd.load (i := 15) rfl rfl c55 rfl (box_gives1 rfl)) ?_
        refine To.rd rfl rfl rfl (Rd.field rfl rfl fl57_2) ?_
        refine To.rd rfl rfl rfl (Rd.load (i := 2) rfl rfl c55 rfl (box_gives1 rfl)) ?_
        refine To.callV rfl rfl rfl (Ent.fn rfl rfl ca9) (rsame_fn ra.dk.A rb.dk.A ra.dk.q rb.dk.q ra.dk.l rb.dk.l hra4) rfl (oks_cons (oks_at 24 rfl) (oks_cons (oks_at 11 rfl) (oks_nil _))) ?_
        refine To.rd rfl rfl rfl (Rd.pickT rfl rfl rfl) ?_
        refine To.rd rfl rfl rfl (Rd.assign rfl rfl) ?_
        refine To.nil (To.thenN ?_)
        refine To.del27 ?_
        refine To.del26 ?_
        refine To.del25 ?_
        refine To.del14 ?_
        refine To.del13 ?_
        refine To.del12 ?_
        refine To.del1 ?_
        refine To.del0 ?_
        refine To.up1 ?_
        refine To.up10 ?_
        refine To.up11 ?_
        refine To.here (decide (ra.dk.l = rb.dk.l)) (by (have e59 : ra.tabs.length = rb.tabs.length := (by omega)); simp_all) ⟨rfl, rfl, rfl, rfl, rfl, trivial⟩ rfl
      ·
        refine To.sk rfl rfl rfl ?_
        refine To.sk rfl rfl rfl ?_
        refine To.sk rfl rfl rfl ?_
        refine To.sk rfl rfl rfl ?_
        refine To.sk rfl rfl rfl ?_
        refine To.rd rfl rfl rfl (Rd.pickF rfl rfl rfl) ?_
        refine To.rd rfl rfl rfl (Rd.assign rfl rfl) ?_
        refine To.nil (To.thenN ?_)
        refine To.del27 ?_
        refine To.del26 ?_
        refine To.del25 ?_
        refine To.del14 ?_
        refine To.del13 ?_
        refine To.del12 ?_
        refine To.del1 ?_
        refine To.del0 ?_
        refine To.up1 ?_
        refine To.up10 ?_
        refine To.up11 ?_
        refine To.here false (by (have e59 : ¬ ra.tabs.length = rb.tabs.length := (by omega)); simp_all) ⟨rfl, rfl, rfl, rfl, rfl, trivial⟩ rfl
    ·
      refine To.sk rfl rfl rfl ?_
      refine To.sk rfl rfl rfl ?_
      refine To.sk rfl rfl rfl ?_
      refine To.sk rfl rfl rfl ?_
      refine To.sk rfl rfl rfl ?_
      refine To.sk rfl rfl rfl ?_
      refine To.sk rfl rfl rfl ?_
      refine To.rd rfl rfl rfl (Rd.pickF rfl rfl rfl) ?_
      refine To.rd rfl rfl rfl (Rd.move rfl rfl) ?_
      refine To.sk rfl rfl rfl ?_
      refine To.sk rfl rfl rfl ?_
      refine To.sk rfl rfl rfl ?_
      refine To.sk rfl rfl rfl ?_
      refine To.sk rfl rfl rfl ?_
      refine To.rd rfl rfl rfl (Rd.pickF rfl rfl rfl) ?_
      refine To.rd rfl rfl rfl (Rd.assign rfl rfl) ?_
      refine To.nil (To.thenN ?_)
      refine To.del27 ?_
      refine To.del26 ?_
      refine To.del25 ?_
      refine To.del14 ?_
      refine To.del13 ?_
      refine To.del12 ?_
      refine To.del1 ?_
      refine To.del0 ?_
      refine To.up1 ?_
      refine To.up10 ?_
      refine To.up11 ?_
      refine To.here false (by simp_all) ⟨rfl, rfl, rfl, rfl, rfl, trivial⟩ rfl
  subst ht
  show To _ [(7, .pointer (some ⟨b7, 0, none⟩)), (8, .pointer (some ⟨b8, 0, none⟩)), (11, .pointer (some ⟨b11, 0, none⟩)), (12, .pointer (some ⟨b12, 0, none⟩)), (15, .bool (decide ((ra.vars = rb.vars ∧ ra.tabs.length = rb.tabs.length ∧ ra.dk.l = rb.dk.l) ∧ (ra.tabs.map Tb.l).take 0 = (rb.tabs.map Tb.l).take 0)))] [box b7 [.slice sa.Av sa.vars.length sa.qv, .slice sa.At sa.tabs.length sa.qt, .slice sa.dk.A sa.dk.l.length sa.dk.q] 34, box b8 [.slice ra.Av ra.vars.length ra.qv, .slice ra.At ra.tabs.length ra.qt, .slice ra.dk.A ra.dk.l.length ra.dk.q] 57, box b11 [.slice sb.Av sb.vars.length sb.qv, .slice sb.At sb.tabs.length sb.qt, .slice sb.dk.A sb.dk.l.length sb.dk.q] 34, box b12 [.slice rb.Av rb.vars.length rb.qv, .slice rb.At rb.tabs.length rb.qt, .slice rb.dk.A rb.dk.l.length rb.dk.q] 57, rows encI 2 1 sb.Av sb.qv sb.vars, rows Tb.cells 32 1 sb.At sb.qt sb.tabs, rosS encEn (sb.tabs.map Tb.ar), ros encEn sb.dk.A sb.dk.l, rows encI 2 1 rb.Av rb.qv rb.vars, rows Tb.cells 55 1 rb.At rb.qt rb.tabs, rosS encEn (rb.tabs.map Tb.ar), ros encEn rb.dk.A rb.dk.l, rows encI 2 1 sa.Av sa.qv sa.vars, rows Tb.cells 32 1 sa.At sa.qt sa.tabs, rosS encEn (sa.tabs.map Tb.ar), ros encEn sa.dk.A sa.dk.l, rows encI 2 1 ra.Av ra.qv ra.vars, rows Tb.cells 55 1 ra.At ra.qt ra.tabs, rosS encEn (ra.tabs.map Tb.ar), ros encEn ra.dk.A ra.dk.l, tabC] _
  refine To.seq ?_
  refine To.seq ?_
  refine To.reg ?_
  refine To.rd rfl rfl rfl (Rd.assign rfl rfl) ?_
  refine To.nil ?_
  refine To.thenN ?_
  refine To.block ?_
  refine To.sub [(7, .pointer (some ⟨b7, 0, none⟩)), (8, .pointer (some ⟨b8, 0, none⟩)), (11, .pointer (some ⟨b11, 0, none⟩)), (12, .pointer (some ⟨b12, 0, none⟩)), (15, .bool (decide ((ra.vars = rb.vars ∧ ra.tabs.length = rb.tabs.length ∧ ra.dk.l = rb.dk.l) ∧ (ra.tabs.map Tb.l).take 0 = (rb.tabs.map Tb.l).take 0))), (16, .int .i64 ((0 : Nat) : Int))] ⟨rfl, rfl, rfl, rfl, rfl, rfl, trivial⟩ ?_
  refine To.loop (fun mz ρ Γ => ∃ (wt : Bool) (i : Nat), ρ = [(7, .pointer (some ⟨b7, 0, none⟩)), (8, .pointer (some ⟨b8, 0, none⟩)), (11, .pointer (some ⟨b11, 0, none⟩)), (12, .pointer (some ⟨b12, 0, none⟩)), (15, .bool wt), (16, .int .i64 ((i : Nat) : Int))] ∧ Γ = [box b7 [.slice sa.Av sa.vars.length sa.qv, .slice sa.At sa.tabs.length sa.qt, .slice sa.dk.A sa.dk.l.length sa.dk.q] 34, box b8 [.slice ra.Av ra.vars.length ra.qv, .slice ra.At ra.tabs.length ra.qt, .slice ra.dk.A ra.dk.l.length ra.dk.q] 57, box b11 [.slice sb.Av sb.vars.length sb.qv, .slice sb.At sb.tabs.length sb.qt, .slice sb.dk.A sb.dk.l.length sb.dk.q] 34, box b12 [.slice rb.Av rb.vars.length rb.qv, .slice rb.At rb.tabs.length rb.qt, .slice rb.dk.A rb.dk.l.length rb.dk.q] 57, rows encI 2 1 sb.Av sb.qv sb.vars, rows Tb.cells 32 1 sb.At sb.qt sb.tabs, rosS encEn (sb.tabs.map Tb.ar), ros encEn sb.dk.A sb.dk.l, rows encI 2 1 rb.Av rb.qv rb.vars, rows Tb.cells 55 1 rb.At rb.qt rb.tabs, rosS encEn (rb.tabs.map Tb.ar), ros encEn rb.dk.A rb.dk.l, rows encI 2 1 sa.Av sa.qv sa.vars, rows Tb.cells 32 1 sa.At sa.qt sa.tabs, rosS encEn (sa.tabs.map Tb.ar), ros encEn sa.dk.A sa.dk.l, rows encI 2 1 ra.Av ra.qv ra.vars, rows Tb.cells 55 1 ra.At ra.qt ra.tabs, rosS encEn (ra.tabs.map Tb.ar), ros encEn ra.dk.A ra.dk.l, tabC] ∧ mz = ra.tabs.length - i ∧ (wt = decide ((ra.vars = rb.vars ∧ ra.tabs.length = rb.tabs.length ∧ ra.dk.l = rb.dk.l) ∧ (ra.tabs.map Tb.l).take i = (rb.tabs.map Tb.l).take i)) ∧ (i ≤ ra.tabs.length)) (ra.tabs.length - 0) ⟨(decide ((ra.vars = rb.vars ∧ ra.tabs.length = rb.tabs.length ∧ ra.dk.l = rb.dk.l) ∧ (ra.tabs.map Tb.l).take 0 = (rb.tabs.map Tb.l).take 0)), 0, rfl, rfl, rfl, rfl, (Nat.zero_le _)⟩ ?_
  rintro mz _ _ ⟨wt, i, rfl, rfl, rfl, hw, hi⟩
  refine To.seq ?_
  refine To.seq ?_
  refine To.reg ?_
  refine To.rd rfl rfl rfl (Rd.move rfl rfl) ?_
  refine To.rdB rfl rfl rfl (Rd.move rfl rfl) (fun g67 => ?_) (fun g67 => ?_)
  ·
    refine To.rd rfl rfl rfl (Rd.move rfl rfl) ?_
    refine To.rd rfl rfl rfl (Rd.field rfl rfl fl57_1) ?_
    refine To.rd rfl rfl rfl (Rd.load (i := 1) rfl rfl c54 rfl (box_gives1 rfl)) ?_
    refine To.rd rfl rfl rfl (Rd.len rfl rfl Tryd.underlying54) ?_
    refine To.rd rfl rfl rfl (Rd.lss rfl rfl rfl) ?_
    refine To.rd rfl rfl rfl (Rd.pickT rfl rfl rfl) ?_
    refine To.nil ?_
    refine To.thenN ?_
    refine To.condP rfl (fun k73 => ?_) (fun k73 => ?_)
    ·
      refine To.skip ?_
      refine To.thenN ?_
      refine To.seq ?_
      refine To.block ?_
      have hww := of_decide_eq_true (hw.symm.trans g67)
      have hlt : i < ra.tabs.length := by omega
      have htl : ra.tabs.length = rb.tabs.length := hww.1.2.1
      obtain ⟨x, hx⟩ : ∃ z0, ra.tabs[i]? = some z0 := ⟨ra.tabs[i]'(by omega), List.getElem?_eq_getElem _⟩
      obtain ⟨y, hy⟩ : ∃ z0, rb.tabs[i]? = some z0 := ⟨rb.tabs[i]'(by omega), List.getElem?_eq_getElem _⟩
      refine To.flow [] [⟨0, [], 0⟩, ⟨2, [], 0⟩, ⟨5, [], 0⟩, ⟨7, [], 0⟩, ⟨1, [], 1⟩, ⟨3, [], 1⟩, ⟨4, [], 1⟩, ⟨6, [], 1⟩, ⟨8, [], 1⟩, ⟨9, [], 1⟩, ⟨10, [], 3⟩, ⟨11, [], 0⟩] mixed (by kernel_rfl) (oks_nil _) ?_
      refine FlowS.free rfl rfl rfl rfl (Rd.field rfl rfl fl57_1) ?_
      refine FlowS.free rfl rfl rfl rfl (Rd.move rfl rfl) ?_
      refine FlowS.free rfl rfl rfl rfl (Rd.field rfl rfl fl57_1) ?_
      refine FlowS.free rfl rfl rfl rfl (Rd.move rfl rfl) ?_
      refine FlowS.rd rfl rfl rfl rfl (Rd.load (i := 1) rfl rfl c54 rfl (box_gives1 rfl)) ?_
      refine FlowS.rd rfl rfl rfl rfl (Rd.indexRows (i := 17) (j := i) rfl rfl rfl s54 rfl hx) ?_
      refine FlowS.rd rfl rfl rfl rfl (Rd.load (i := 17) rfl rfl c55 rfl (gives_1 (rows_gives encTb hx) rfl)) ?_
      refine FlowS.rd rfl rfl rfl rfl (Rd.load (i := 3) rfl rfl c54 rfl (box_gives1 rfl)) ?_
      refine FlowS.rd rfl rfl rfl rfl (Rd.indexRows (i := 9) (j := i) rfl rfl rfl s54 rfl hy) ?_
      refine FlowS.rd rfl rfl rfl rfl (Rd.load (i := 9) rfl rfl c55 rfl (gives_1 (rows_gives encTb hy) rfl)) ?_
      refine FlowS.callQ rfl rfl rfl rfl (Ent.fn rfl rfl ca9) (rsame_fn x.A y.A x.q y.q x.l y.l (hra3 x (List.mem_of_getElem? hx))) rfl (oks_cons (oks_S 18 rfl (mem_at hx Tb.ar)) (oks_cons (oks_S 10 rfl (mem_at hy Tb.ar)) (oks_nil _))) ?_
      refine FlowS.free rfl rfl rfl rfl (Rd.assign rfl rfl) ?_
      refine FlowS.fin ?_
      refine To.as [box b7 [.slice sa.Av sa.vars.length sa.qv, .slice sa.At sa.tabs.length sa.qt, .slice sa.dk.A sa.dk.l.length sa.dk.q] 34, box b8 [.slice ra.Av ra.vars.length ra.qv, .slice ra.At ra.tabs.length ra.qt, .slice ra.dk.A ra.dk.l.length ra.dk.q] 57, box b11 [.slice sb.Av sb.vars.length sb.qv, .slice sb.At sb.tabs.length sb.qt, .slice sb.dk.A sb.dk.l.length sb.dk.q] 34, box b12 [.slice rb.Av rb.vars.length rb.qv, .slice rb.At rb.tabs.length rb.qt, .slice rb.dk.A rb.dk.l.length rb.dk.q] 57, rows encI 2 1 sb.Av sb.qv sb.vars, rows Tb.cells 32 1 sb.At sb.qt sb.tabs, rosS encEn (sb.tabs.map Tb.ar), ros encEn sb.dk.A sb.dk.l, rows encI 2 1 rb.Av rb.qv rb.vars, rows Tb.cells 55 1 rb.At rb.qt rb.tabs, rosS encEn (rb.tabs.map Tb.ar), ros encEn rb.dk.A rb.dk.l, rows encI 2 1 sa.Av sa.qv sa.vars, rows Tb.cells 32 1 sa.At sa.qt sa.tabs, rosS encEn (sa.tabs.map Tb.ar), ros encEn sa.dk.A sa.dk.l, rows encI 2 1 ra.Av ra.qv ra.vars, rows Tb.cells 55 1 ra.At ra.qt ra.tabs, rosS encEn (ra.tabs.map Tb.ar), ros encEn ra.dk.A ra.dk.l, tabC] rfl ?_
      refine To.sub [(7, .pointer (some ⟨b7, 0, none⟩)), (8, .pointer (some ⟨b8, 0, none⟩)), (11, .pointer (some ⟨b11, 0, none⟩)), (12, .pointer (some ⟨b12, 0, none⟩)), (15, .bool (decide (x.l = y.l))), (16, .int .i64 ((i : Nat) : Int)), (73, .bool (decide (((i : Nat) : Int) < ((ra.tabs.length : Nat) : Int))))] ⟨rfl, rfl, rfl, rfl, rfl, rfl, rfl, trivial⟩ ?_
      refine To.blockN ?_
      refine To.thenN ?_
      refine To.reg ?_
      refine To.rd rfl rfl rfl (Rd.move rfl rfl) ?_
      refine To.rd rfl rfl rfl (Rd.inc rfl rfl rfl (by omega)) ?_
      refine To.rd rfl rfl rfl (Rd.assign rfl rfl) ?_
      refine To.nil ?_
      refine To.thenN ?_
      refine To.sub [(7, .pointer (some ⟨b7, 0, none⟩)), (8, .pointer (some ⟨b8, 0, none⟩)), (11, .pointer (some ⟨b11, 0, none⟩)), (12, .pointer (some ⟨b12, 0, none⟩)), (15, .bool (decide (x.l = y.l))), (16, .int .i64 (((i + 1) : Nat) : Int))] ⟨rfl, rfl, rfl, rfl, rfl, rfl, trivial⟩ ?_
      refine To.again (ra.tabs.length - (i + 1)) (by omega) ⟨(decide (x.l = y.l)), i + 1, rfl, rfl, rfl, (want_succ hx hy (h := hww)), (by omega)⟩
    ·
      refine To.exit ?_
      refine To.thenX ?_
      refine To.thenX ?_
      refine To.blockX ?_
      refine To.thenN ?_
      refine To.seq ?_
      have hval : wt = decide (sa.val = sb.val) := by
        have hiff : sa.val = sb.val ↔ (ra.vars = rb.vars ∧ ra.tabs.length = rb.tabs.length ∧ ra.dk.l = rb.dk.l) ∧ (ra.tabs.map Tb.l).take i = (rb.tabs.map Tb.l).take i := by
          rw [hvsa.trans hvra.symm, hvsb.trans hvrb.symm]
          unfold Sx.val
          simp only [Prod.mk.injEq]
          constructor
          · rintro ⟨h1, h2, h3⟩
            exact ⟨⟨h1, by simpa using congrArg List.length h2, h3⟩, by rw [h2]⟩
          · intro hq
            have hwt : wt = true := hw.trans (decide_eq_true hq)
            first
              | (rw [hwt] at g67; cases g67; done)
              | exact ⟨hq.1.1, eq_len (by simpa using hq.1.2.1) (by simp only [List.length_map]; omega) hq.2, hq.1.2.2⟩
        rw [hw]
        exact decide_eq_decide.2 hiff.symm
      rw [hval]
      refine To.reg ?_
      refine To.callV rfl rfl rfl (Ent.fn rfl rfl ca6) (awake_fn) rfl (oks_cons (oks_at 20 rfl) (oks_nil _)) ?_
      refine To.rd rfl rfl rfl (Rd.move rfl rfl) ?_
      refine To.rd rfl rfl rfl (Rd.loadS (i := 0) rfl rfl r34 rfl box_whole rfl) ?_
      refine To.rd rfl rfl rfl (Rd.loadS (i := 2) rfl rfl r34 rfl box_whole rfl) ?_
      refine To.callV rfl rfl rfl (Ent.fn rfl rfl ca10) (xeq_fn sa sb hsa) rfl (oks_cons (oks_row 12 rfl) (oks_cons (oks_row 13 rfl) (oks_cons (oks_at 14 rfl) (oks_cons (oks_at 15 rfl) (oks_cons (oks_row 4 rfl) (oks_cons (oks_row 5 rfl) (oks_cons (oks_at 6 rfl) (oks_cons (oks_at 7 rfl) (oks_nil _))))))))) ?_
      refine To.rd rfl rfl rfl (Rd.move rfl rfl) ?_
      refine To.rd rfl rfl rfl (Rd.as (v' := .bool true) (congrArg Value.bool (beq_self_eq_true _)) (Rd.eqlB rfl Tryd.underlying4 rfl rfl)) ?_
      refine To.rd rfl rfl rfl (Rd.pickT rfl rfl rfl) ?_
      refine To.rd rfl rfl rfl (Rd.move rfl rfl) ?_
      refine To.rd rfl rfl rfl (Rd.loadS (i := 2) rfl rfl r34 rfl box_whole rfl) ?_
      refine To.rd rfl rfl rfl (Rd.loadS (i := 0) rfl rfl r34 rfl box_whole rfl) ?_
      refine To.callV rfl rfl rfl (Ent.fn rfl rfl ca10) ((xeq_fn sb sa hsb).mono (R' := fun v _ => v = .bool (decide (sa.val = sb.val))) (fun v _ h => by rw [h]; exact congrArg Value.bool (decide_eq_decide.2 ⟨Eq.symm, Eq.symm⟩))) rfl (oks_cons (oks_row 4 rfl) (oks_cons (oks_row 5 rfl) (oks_cons (oks_at 6 rfl) (oks_cons (oks_at 7 rfl) (oks_cons (oks_row 12 rfl) (oks_cons (oks_row 13 rfl) (oks_cons (oks_at 14 rfl) (oks_cons (oks_at 15 rfl) (oks_nil _))))))))) ?_
      refine To.rd rfl rfl rfl (Rd.move rfl rfl) ?_
      refine To.rd rfl rfl rfl (Rd.as (v' := .bool true) (congrArg Value.bool (beq_self_eq_true _)) (Rd.eqlB rfl Tryd.underlying4 rfl rfl)) ?_
      refine To.rd rfl rfl rfl (Rd.pickT rfl rfl rfl) ?_
      refine To.rd rfl rfl rfl (Rd.move rfl rfl) ?_
      refine To.rd rfl rfl rfl (Rd.loadS (i := 0) rfl rfl r34 rfl box_whole rfl) ?_
      refine To.rd rfl rfl rfl (Rd.loadS (i := 0) rfl rfl r34 rfl box_whole rfl) ?_
      refine To.callV rfl rfl rfl (Ent.fn rfl rfl ca10) ((xeq_fn sa sa hsa).mono (R' := fun v _ => v = .bool true) (fun v _ h => by rw [h]; exact congrArg Value.bool (decide_eq_true rfl))) rfl (oks_cons (oks_row 12 rfl) (oks_cons (oks_row 13 rfl) (oks_cons (oks_at 14 rfl) (oks_cons (oks_at 15 rfl) (oks_cons (oks_row 12 rfl) (oks_cons (oks_row 13 rfl) (oks_cons (oks_at 14 rfl) (oks_cons (oks_at 15 rfl) (oks_nil _))))))))) ?_
      refine To.rd rfl rfl rfl (Rd.pickT rfl rfl rfl) ?_
      refine To.rd rfl rfl rfl (Rd.move rfl rfl) ?_
      refine To.mk rfl rfl rfl (Mk.slice0 rfl s28) ?_
      rintro _ _ ⟨A108, rfl, rfl⟩
      refine To.as [row 2 1 A108 0 0 [], box b7 [.slice sa.Av sa.vars.length sa.qv, .slice sa.At sa.tabs.length sa.qt, .slice sa.dk.A sa.dk.l.length sa.dk.q] 34, box b8 [.slice ra.Av ra.vars.length ra.qv, .slice ra.At ra.tabs.length ra.qt, .slice ra.dk.A ra.dk.l.length ra.dk.q] 57, box b11 [.slice sb.Av sb.vars.length sb.qv, .slice sb.At sb.tabs.length sb.qt, .slice sb.dk.A sb.dk.l.length sb.dk.q] 34, box b12 [.slice rb.Av rb.vars.length rb.qv, .slice rb.At rb.tabs.length rb.qt, .slice rb.dk.A rb.dk.l.length rb.dk.q] 57, rows encI 2 1 sb.Av sb.qv sb.vars, rows Tb.cells 32 1 sb.At sb.qt sb.tabs, rosS encEn (sb.tabs.map Tb.ar), ros encEn sb.dk.A sb.dk.l, rows encI 2 1 rb.Av rb.qv rb.vars, rows Tb.cells 55 1 rb.At rb.qt rb.tabs, rosS encEn (rb.tabs.map Tb.ar), ros encEn rb.dk.A rb.dk.l, rows encI 2 1 sa.Av sa.qv sa.vars, rows Tb.cells 32 1 sa.At sa.qt sa.tabs, rosS encEn (sa.tabs.map Tb.ar), ros encEn sa.dk.A sa.dk.l, rows encI 2 1 ra.Av ra.qv ra.vars, rows Tb.cells 55 1 ra.At ra.qt ra.tabs, rosS encEn (ra.tabs.map Tb.ar), ros encEn ra.dk.A ra.dk.l, tabC] rfl ?_
      refine To.rd rfl rfl rfl (Rd.build (vs := [(0, .slice A108 0 0)]) (cells := [.slice A108 0 0, .slice none 0 0, .slice none 0 0]) rfl rfl rfl (by kernel_rfl)) ?_
      refine To.rd rfl rfl rfl (Rd.build (vs := []) (cells := [.slice none 0 0, .slice none 0 0, .slice none 0 0]) rfl rfl rfl (by kernel_rfl)) ?_
      refine To.callV rfl rfl rfl (Ent.fn rfl rfl ca10) (xeq00 A108) rfl (oks_cons (oks_row0 0 rfl) (oks_cons (oks_free) (oks_cons (oks_fam) (oks_cons (oks_free) (oks_cons (oks_free) (oks_cons (oks_free) (oks_cons (oks_fam) (oks_cons (oks_free) (oks_nil _))))))))) ?_
      refine To.rd rfl rfl rfl (Rd.pickT rfl rfl rfl) ?_
      refine To.rd rfl rfl rfl (Rd.assign rfl rfl) ?_
      refine To.nil ?_
      refine To.sub [(7, .pointer (some ⟨b7, 0, none⟩)), (8, .pointer (some ⟨b8, 0, none⟩)), (11, .pointer (some ⟨b11, 0, none⟩)), (12, .pointer (some ⟨b12, 0, none⟩)), (15, .bool (decide (sa.val = sb.val))), (16, .int .i64 ((i : Nat) : Int)), (73, .bool (decide (((i : Nat) : Int) < ((ra.tabs.length : Nat) : Int)))), (6, .bool true)] ⟨rfl, rfl, rfl, rfl, rfl, rfl, rfl, rfl, trivial⟩ ?_
      refine To.thenN ?_
      refine To.ret ?_
      refine To.del21 ?_
      refine To.del20 ?_
      refine To.del19 ?_
      refine To.del18 ?_
      refine To.del17 ?_
      refine To.del16 ?_
      refine To.del15 ?_
      refine To.del14 ?_
      refine To.del13 ?_
      refine To.del12 ?_
      refine To.del11 ?_
      refine To.del10 ?_
      refine To.del9 ?_
      refine To.del8 ?_
      refine To.del7 ?_
      refine To.del6 ?_
      refine To.del5 ?_
      refine To.del4 ?_
      refine To.del3 ?_
      refine To.del2 ?_
      refine To.del1 ?_
      refine To.del0 ?_
      refine To.end1 (.inl rfl) Tryd.results4 rfl ?_
      rfl
  ·
    refine To.sk rfl rfl rfl ?_
    refine To.sk rfl rfl rfl ?_
    refine To.sk rfl rfl rfl ?_
    refine To.sk rfl rfl rfl ?_
    refine To.sk rfl rfl rfl ?_
    refine To.rd rfl rfl rfl (Rd.pickF rfl rfl rfl) ?_
    refine To.nil ?_
    refine To.thenN ?_
    refine To.condF rfl ?_
    refine To.exit ?_
    refine To.thenX ?_
    refine To.thenX ?_
    refine To.blockX ?_
    refine To.thenN ?_
    refine To.seq ?_
    have hval : wt = decide (sa.val = sb.val) := by
      have hiff : sa.val = sb.val ↔ (ra.vars = rb.vars ∧ ra.tabs.length = rb.tabs.length ∧ ra.dk.l = rb.dk.l) ∧ (ra.tabs.map Tb.l).take i = (rb.tabs.map Tb.l).take i := by
        rw [hvsa.trans hvra.symm, hvsb.trans hvrb.symm]
        unfold Sx.val
        simp only [Prod.mk.injEq]
        constructor
        · rintro ⟨h1, h2, h3⟩
          exact ⟨⟨h1, by simpa using congrArg List.length h2, h3⟩, by rw [h2]⟩
        · intro hq
          have hwt : wt = true := hw.trans (decide_eq_true hq)
          first
            | (rw [hwt] at g67; cases g67; done)
            | exact ⟨hq.1.1, eq_len (by simpa using hq.1.2.1) (by simp only [List.length_map]; omega) hq.2, hq.1.2.2⟩
      rw [hw]
      exact decide_eq_decide.2 hiff.symm
    rw [hval]
    refine To.reg ?_
    refine To.callV rfl rfl rfl (Ent.fn rfl rfl ca6) (awake_fn) rfl (oks_cons (oks_at 20 rfl) (oks_nil _)) ?_
    refine To.rd rfl rfl rfl (Rd.move rfl rfl) ?_
    refine To.rd rfl rfl rfl (Rd.loadS (i := 0) rfl rfl r34 rfl box_whole rfl) ?_
    refine To.rd rfl rfl rfl (Rd.loadS (i := 2) rfl rfl r34 rfl box_whole rfl) ?_
    refine To.callV rfl rfl rfl (Ent.fn rfl rfl ca10) (xeq_fn sa sb hsa) rfl (oks_cons (oks_row 12 rfl) (oks_cons (oks_row 13 rfl) (oks_cons (oks_at 14 rfl) (oks_cons (oks_at 15 rfl) (oks_cons (oks_row 4 rfl) (oks_cons (oks_row 5 rfl) (oks_cons (oks_at 6 rfl) (oks_cons (oks_at 7 rfl) (oks_nil _))))))))) ?_
    refine To.rd rfl rfl rfl (Rd.move rfl rfl) ?_
    refine To.rd rfl rfl rfl (Rd.as (v' := .bool true) (congrArg Value.bool (beq_self_eq_true _)) (Rd.eqlB rfl Tryd.underlying4 rfl rfl)) ?_
    refine To.rd rfl rfl rfl (Rd.pickT rfl rfl rfl) ?_
    refine To.rd rfl rfl rfl (Rd.move rfl rfl) ?_
    refine To.rd rfl rfl rfl (Rd.loadS (i := 2) rfl rfl r34 rfl box_whole rfl) ?_
    refine To.rd rfl rfl rfl (Rd.loadS (i := 0) rfl rfl r34 rfl box_whole rfl) ?_
    refine To.callV rfl rfl rfl (Ent.fn rfl rfl ca10) ((xeq_fn sb sa hsb).mono (R' := fun v _ => v = .bool (decide (sa.val = sb.val))) (fun v _ h => by rw [h]; exact congrArg Value.bool (decide_eq_decide.2 ⟨Eq.symm, Eq.symm⟩))) rfl (oks_cons (oks_row 4 rfl) (oks_cons (oks_row 5 rfl) (oks_cons (oks_at 6 rfl) (oks_cons (oks_at 7 rfl) (oks_cons (oks_row 12 rfl) (oks_cons (oks_row 13 rfl) (oks_cons (oks_at 14 rfl) (oks_cons (oks_at 15 rfl) (oks_nil _))))))))) ?_
    refine To.rd rfl rfl rfl (Rd.move rfl rfl) ?_
    refine To.rd rfl rfl rfl (Rd.as (v' := .bool true) (congrArg Value.bool (beq_self_eq_true _)) (Rd.eqlB rfl Tryd.underlying4 rfl rfl)) ?_
    refine To.rd rfl rfl rfl (Rd.pickT rfl rfl rfl) ?_
    refine To.rd rfl rfl rfl (Rd.move rfl rfl) ?_
    refine To.rd rfl rfl rfl (Rd.loadS (i := 0) rfl rfl r34 rfl box_whole rfl) ?_
    refine To.rd rfl rfl rfl (Rd.loadS (i := 0) rfl rfl r34 rfl box_whole rfl) ?_
    refine To.callV rfl rfl rfl (Ent.fn rfl rfl ca10) ((xeq_fn sa sa hsa).mono (R' := fun v _ => v = .bool true) (fun v _ h => by rw [h]; exact congrArg Value.bool (decide_eq_true rfl))) rfl (oks_cons (oks_row 12 rfl) (oks_cons (oks_row 13 rfl) (oks_cons (oks_at 14 rfl) (oks_cons (oks_at 15 rfl) (oks_cons (oks_row 12 rfl) (oks_cons (oks_row 13 rfl) (oks_cons (oks_at 14 rfl) (oks_cons (oks_at 15 rfl) (oks_nil _))))))))) ?_
    refine To.rd rfl rfl rfl (Rd.pickT rfl rfl rfl) ?_
    refine To.rd rfl rfl rfl (Rd.move rfl rfl) ?_
    refine To.mk rfl rfl rfl (Mk.slice0 rfl s28) ?_
    rintro _ _ ⟨A108_2, rfl, rfl⟩
    refine To.as [row 2 1 A108_2 0 0 [], box b7 [.slice sa.Av sa.vars.length sa.qv, .slice sa.At sa.tabs.length sa.qt, .slice sa.dk.A sa.dk.l.length sa.dk.q] 34, box b8 [.slice ra.Av ra.vars.length ra.qv, .slice ra.At ra.tabs.length ra.qt, .slice ra.dk.A ra.dk.l.length ra.dk.q] 57, box b11 [.slice sb.Av sb.vars.length sb.qv, .slice sb.At sb.tabs.length sb.qt, .slice sb.dk.A sb.dk.l.length sb.dk.q] 34, box b12 [.slice rb.Av rb.vars.length rb.qv, .slice rb.At rb.tabs.length rb.qt, .slice rb.dk.A rb.dk.l.length rb.dk.q] 57, rows encI 2 1 sb.Av sb.qv sb.vars, rows Tb.cells 32 1 sb.At sb.qt sb.tabs, rosS encEn (sb.tabs.map Tb.ar), ros encEn sb.dk.A sb.dk.l, rows encI 2 1 rb.Av rb.qv rb.vars, rows Tb.cells 55 1 rb.At rb.qt rb.tabs, rosS encEn (rb.tabs.map Tb.ar), ros encEn rb.dk.A rb.dk.l, rows encI 2 1 sa.Av sa.qv sa.vars, rows Tb.cells 32 1 sa.At sa.qt sa.tabs, rosS encEn (sa.tabs.map Tb.ar), ros encEn sa.dk.A sa.dk.l, rows encI 2 1 ra.Av ra.qv ra.vars, rows Tb.cells 55 1 ra.At ra.qt ra.tabs, rosS encEn (ra.tabs.map Tb.ar), ros encEn ra.dk.A ra.dk.l, tabC] rfl ?_
    refine To.rd rfl rfl rfl (Rd.build (vs := [(0, .slice A108_2 0 0)]) (cells := [.slice A108_2 0 0, .slice none 0 0, .slice none 0 0]) rfl rfl rfl (by kernel_rfl)) ?_
    refine To.rd rfl rfl rfl (Rd.build (vs := []) (cells := [.slice none 0 0, .slice none 0 0, .slice none 0 0]) rfl rfl rfl (by kernel_rfl)) ?_
    refine To.callV rfl rfl rfl (Ent.fn rfl rfl ca10) (xeq00 A108_2) rfl (oks_cons (oks_row0 0 rfl) (oks_cons (oks_free) (oks_cons (oks_fam) (oks_cons (oks_free) (oks_cons (oks_free) (oks_cons (oks_free) (oks_cons (oks_fam) (oks_cons (oks_free) (oks_nil _))))))))) ?_
    refine To.rd rfl rfl rfl (Rd.pickT rfl rfl rfl) ?_
    refine To.rd rfl rfl rfl (Rd.assign rfl rfl) ?_
    refine To.nil ?_
    refine To.sub [(7, .pointer (some ⟨b7, 0, none⟩)), (8, .pointer (some ⟨b8, 0, none⟩)), (11, .pointer (some ⟨b11, 0, none⟩)), (12, .pointer (some ⟨b12, 0, none⟩)), (15, .bool (decide (sa.val = sb.val))), (16, .int .i64 ((i : Nat) : Int)), (73, .bool false), (6, .bool true)] ⟨rfl, rfl, rfl, rfl, rfl, rfl, rfl, rfl, trivial⟩ ?_
    refine To.thenN ?_
    refine To.ret ?_
    refine To.del21 ?_
    refine To.del20 ?_
    refine To.del19 ?_
    refine To.del18 ?_
    refine To.del17 ?_
    refine To.del16 ?_
    refine To.del15 ?_
    refine To.del14 ?_
    refine To.del13 ?_
    refine To.del12 ?_
    refine To.del11 ?_
    refine To.del10 ?_
    refine To.del9 ?_
    refine To.del8 ?_
    refine To.del7 ?_
    refine To.del6 ?_
    refine To.del5 ?_
    refine To.del4 ?_
    refine To.del3 ?_
    refine To.del2 ?_
    refine To.del1 ?_
    refine To.del0 ?_
    refine To.end1 (.inl rfl) Tryd.results4 rfl ?_
    rfl
end Go.Proofs.YtoehnbacbobhiaaDoor
