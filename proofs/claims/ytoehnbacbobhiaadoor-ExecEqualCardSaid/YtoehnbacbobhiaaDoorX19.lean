/- States out of worlds. Own text (walks printed by sx.py). -/
import Derived.Test.YtoehnbacbobhiaaDoorX18
import Derived.Test.YtoehnbacbobhiaaDoorSepup
namespace Go.Proofs.YtoehnbacbobhiaaDoor
open Go.RowKit Go.Flow Go.Mem Go.Sep
def encY (n : Nat) : List Value := [.int .u8 ((n : Nat) : Int)]
theorem encY_ok : Enc encY 1 := ⟨fun _ => rfl, fun x u hu => by simp [encY] at hu; subst hu; rfl⟩
/-- A world, and where it lies. -/
structure Wx where
  Av : Option Addr
  qv : Nat
  vars : List Int
  At : Option Addr
  qt : Nat
  tabs : List (Int × Int)
  Ad : Option Addr
  qd : Nat
  disk : List (Int × Int)
  Aa : Option Addr
  qa : Nat
  args : List Int
  now : Int
  flags : Nat
  before : Nat
  Af : Option Addr
  qf : Nat
  fail : List Nat
def Wx.cells (w : Wx) : List Value := [.slice w.Av w.vars.length w.qv, .slice w.At w.tabs.length w.qt, .slice w.Ad w.disk.length w.qd, .slice w.Aa w.args.length w.qa, .int .i64 w.now, .int .u8 ((w.flags : Nat) : Int), .int .u8 ((w.before : Nat) : Int), .slice w.Af w.fail.length w.qf]
structure Wx.ok (w : Wx) : Prop where
  qt : w.tabs.length ≤ w.qt
  qd : w.disk.length ≤ w.qd
  before : w.before < 256
def padV (l : List Int) (n : Nat) : List Int := (List.range n).map fun i => l.getD i 0
def tabsV (l : List (Int × Int)) (n : Nat) : List (List (Int × Int)) := (List.range n).map fun i => ofT (l.take (16 - i))
def stV (w : Wx) (nv nt : Nat) : List Int × List (List (Int × Int)) × List (Int × Int) := (padV w.vars nv, tabsV w.tabs nt, ofT (w.disk.take 16))
theorem pad_succ (l : List Int) (n : Nat) : padV l (n + 1) = padV l n ++ [l.getD n 0] := by simp [padV, List.range_succ]
theorem pad_len (l : List Int) (n : Nat) : (padV l n).length = n := by simp [padV]
theorem tabs_succ (l : List (Int × Int)) (n : Nat) : tabsV l (n + 1) = tabsV l n ++ [ofT (l.take (16 - n))] := by simp [tabsV, List.range_succ]
theorem tabs_len (l : List (Int × Int)) (n : Nat) : (tabsV l n).length = n := by simp [tabsV]
theorem fam_snoc {T : List Tb} {e : Tb} {Γ : List Chunk} (h : Γ[0]? = some (ros encEn e.A e.l)) : ∀ p ∈ (T ++ [e]).map Tb.ar, p ∈ T.map Tb.ar ∨ ros encEn p.1 p.2 ∈ Γ := fun p hp => by
  rw [List.map_append] at hp
  rcases List.mem_append.1 hp with h1 | h1
  · exact .inl h1
  · rw [List.mem_singleton.1 h1]; exact .inr (List.mem_of_getElem? h)
def failGo (b : Nat) : Int → List Nat → List Int
  | _, [] => []
  | last, x :: r => (max (last + 1) b + ((x % 4 : Nat) : Int)) :: failGo b (max (last + 1) b + ((x % 4 : Nat) : Int)) r
set_option maxHeartbeats 2000000 in
set_option maxRecDepth 100000 in
theorem make0_fn (w : Wx) (hw : w.ok) (nv nt : Nat) (hnv : nv ≤ 1000) (hnt : nt ≤ 16) :
    Does Tryd.prog 7 [.agg #[.slice w.Av w.vars.length w.qv, .slice w.At w.tabs.length w.qt, .slice w.Ad w.disk.length w.qd, .slice w.Aa w.args.length w.qa, .int .i64 w.now, .int .u8 ((w.flags : Nat) : Int), .int .u8 ((w.before : Nat) : Int), .slice w.Af w.fail.length w.qf], .int .i64 ((nv : Nat) : Int), .int .i64 ((nt : Nat) : Int), .int .i64 0, .int .i64 0] [ros encI w.Av w.vars, ros encEn w.At w.tabs, ros encEn w.Ad w.disk, ros encI w.Aa w.args, ros encY w.Af w.fail] (fun v Γ' => ∃ (a b : Sx) (Fa : Option Addr) (qf : Nat) (Fl : List Int), v = .tuple #[.agg a.cells.toArray, .agg b.cells.toArray, .agg #[.slice none 0 0, .int .i64 w.now, .slice none 0 0, .int .i64 ((w.before : Nat) : Int), .slice Fa Fl.length qf], .agg #[.slice none 0 0, .int .i64 w.now, .slice none 0 0, .int .i64 ((w.before : Nat) : Int), .slice Fa Fl.length qf]] ∧ Γ' = [rows encI 2 1 a.Av a.qv a.vars, rows Tb.cells 32 1 a.At a.qt a.tabs, rosS encEn (a.tabs.map Tb.ar), ros encEn a.dk.A a.dk.l, rows encI 2 1 b.Av b.qv b.vars, rows Tb.cells 55 1 b.At b.qt b.tabs, rosS encEn (b.tabs.map Tb.ar), ros encEn b.dk.A b.dk.l, rows encI 3 1 Fa qf Fl] ∧ a.val = stV w nv nt ∧ b.val = stV w nv nt ∧ Fl.length ≤ 8) := by
  refine Does.enter Tryd.func7 rfl Tryd.ntmps7 rfl (fun w0 => ?_)
  refine To.seq ?_
  refine To.reg ?_
  refine To.boxed rfl rfl rfl rfl rfl rfl (fun b5 => ?_)
  refine To.alloc rfl rfl rfl rfl z34 (fun b10 => ?_)
  refine To.alloc rfl rfl rfl rfl z57 (fun b11 => ?_)
  refine To.alloc rfl rfl rfl rfl z44 (fun b12 => ?_)
  refine To.alloc rfl rfl rfl rfl z58 (fun b13 => ?_)
  refine To.nil ?_
  refine To.thenN ?_
  refine To.seq ?_
  refine To.reg ?_
  refine To.rd rfl rfl rfl (Rd.build (vs := []) (cells := [.slice none 0 0, .slice none 0 0, .slice none 0 0]) rfl rfl rfl (by kernel_rfl)) ?_
  refine To.rd rfl rfl rfl (Rd.build (vs := []) (cells := [.slice none 0 0, .slice none 0 0, .slice none 0 0]) rfl rfl rfl (by kernel_rfl)) ?_
  refine To.alloc rfl rfl rfl rfl z34 (fun b14 => ?_)
  refine To.alloc rfl rfl rfl rfl z57 (fun b15 => ?_)
  refine To.up rfl rfl (Up.storeS (i := 1) rfl rfl rfl r34 rfl rfl rfl (box_takesAll rfl)) ?_
  refine To.up rfl rfl (Up.storeS (i := 0) rfl rfl rfl r57 rfl rfl rfl (box_takesAll rfl)) ?_
  refine To.nil ?_
  refine To.thenN ?_
  refine To.seq ?_
  refine To.seq ?_
  refine To.reg ?_
  refine To.rd rfl rfl rfl (Rd.move rfl rfl) ?_
  refine To.rd rfl rfl rfl (Rd.move rfl rfl) ?_
  refine To.nil ?_
  refine To.thenN ?_
  refine To.block ?_
  refine To.nilRow (encI) 2 1 ?_
  refine To.sub [(5, .pointer (some ⟨b5, 0, none⟩)), (10, .pointer (some ⟨b10, 0, none⟩)), (11, .pointer (some ⟨b11, 0, none⟩)), (12, .pointer (some ⟨b12, 0, none⟩)), (13, .pointer (some ⟨b13, 0, none⟩)), (14, .pointer (some ⟨b14, 0, none⟩)), (15, .pointer (some ⟨b15, 0, none⟩)), (2, .int .i64 ((nt : Nat) : Int)), (3, .int .i64 0), (4, .int .i64 0), (28, .int .i64 ((nv : Nat) : Int)), (29, .int .i64 ((0 : Nat) : Int))] ⟨rfl, rfl, rfl, rfl, rfl, rfl, rfl, rfl, rfl, rfl, rfl, rfl, trivial⟩ ?_
  refine To.up1 ?_
  refine To.up2 ?_
  refine To.up12 ?_
  refine To.up12 ?_
  refine To.up12 ?_
  refine To.up12 ?_
  refine To.up12 ?_
  refine To.up8 ?_
  refine To.up9 ?_
  refine To.up10 ?_
  refine To.up11 ?_
  refine To.up12 ?_
  refine To.loop (fun mz ρ Γ => ∃ (Ao : Option Addr) (qo : Nat) (O : List Int) (i : Nat), ρ = [(5, .pointer (some ⟨b5, 0, none⟩)), (10, .pointer (some ⟨b10, 0, none⟩)), (11, .pointer (some ⟨b11, 0, none⟩)), (12, .pointer (some ⟨b12, 0, none⟩)), (13, .pointer (some ⟨b13, 0, none⟩)), (14, .pointer (some ⟨b14, 0, none⟩)), (15, .pointer (some ⟨b15, 0, none⟩)), (2, .int .i64 ((nt : Nat) : Int)), (3, .int .i64 0), (4, .int .i64 0), (28, .int .i64 ((nv : Nat) : Int)), (29, .int .i64 ((i : Nat) : Int))] ∧ Γ = [box b5 [.slice w.Av w.vars.length w.qv, .slice w.At w.tabs.length w.qt, .slice w.Ad w.disk.length w.qd, .slice w.Aa w.args.length w.qa, .int .i64 w.now, .int .u8 ((w.flags : Nat) : Int), .int .u8 ((w.before : Nat) : Int), .slice w.Af w.fail.length w.qf] 53, box b10 [.slice none 0 0, .slice none 0 0, .slice none 0 0] 34, box b11 [.slice none 0 0, .slice none 0 0, .slice none 0 0] 57, box b12 [.slice none 0 0, .int .i64 0, .slice none 0 0, .int .i64 0, .slice none 0 0] 44, box b13 [.slice none 0 0, .int .i64 0, .slice none 0 0, .int .i64 0, .slice none 0 0] 58, ros encI w.Av w.vars, ros encEn w.At w.tabs, ros encEn w.Ad w.disk, ros encI w.Aa w.args, ros encY w.Af w.fail, box b14 [.slice Ao O.length qo, .slice none 0 0, .slice none 0 0] 34, box b15 [.slice none 0 0, .slice none 0 0, .slice none 0 0] 57, rows encI 2 1 Ao qo O] ∧ mz = nv - i ∧ (i ≤ nv) ∧ (O = padV w.vars i)) (nv - 0) ⟨none, 0, ([] : List Int), 0, rfl, rfl, rfl, (Nat.zero_le _), rfl⟩ ?_
  rintro mz _ _ ⟨Ao, qo, O, i, rfl, rfl, rfl, hi, hO⟩
  have hOl : O.length = i := by rw [hO, pad_len]
  refine To.seq ?_
  refine To.reg ?_
  refine To.rd rfl rfl rfl (Rd.lss rfl rfl rfl) ?_
  refine To.nil ?_
  refine To.thenN ?_
  refine To.seq ?_
  refine To.condP rfl (fun k30 => ?_) (fun k30 => ?_)
  ·
    refine To.skip ?_
    refine To.thenN ?_
    refine To.seq ?_
    refine To.block ?_
    refine To.seq ?_
    refine To.reg ?_
    refine To.rd rfl rfl rfl (Rd.move rfl rfl) ?_
    refine To.rd rfl rfl rfl (Rd.assign rfl rfl) ?_
    refine To.nil ?_
    refine To.thenN ?_
    refine To.seq ?_
    refine To.reg ?_
    refine To.rd rfl rfl rfl (Rd.assign rfl rfl) ?_
    refine To.nil ?_
    refine To.thenN ?_
    refine To.seq ?_
    refine To.seq ?_
    refine To.reg ?_
    refine To.rd rfl rfl rfl (Rd.move rfl rfl) ?_
    refine To.rd rfl rfl rfl (Rd.field rfl rfl fl53_0) ?_
    refine To.rd rfl rfl rfl (Rd.load (i := 0) rfl rfl c28 rfl (box_gives1 rfl)) ?_
    refine To.rd rfl rfl rfl (Rd.len rfl rfl Tryd.underlying28) ?_
    refine To.rd rfl rfl rfl (Rd.lss rfl rfl rfl) ?_
    refine To.nil ?_
    refine To.thenN ?_
    refine To.condP rfl (fun k36 => ?_) (fun k36 => ?_)
    ·
      obtain ⟨y, hy⟩ : ∃ z0, w.vars[i]? = some z0 := ⟨w.vars[i]'(by omega), List.getElem?_eq_getElem _⟩
      refine To.reg ?_
      refine To.rd rfl rfl rfl (Rd.field rfl rfl fl53_0) ?_
      refine To.rd rfl rfl rfl (Rd.load (i := 0) rfl rfl c28 rfl (box_gives1 rfl)) ?_
      refine To.rd rfl rfl rfl (Rd.move rfl rfl) ?_
      refine To.rd rfl rfl rfl (Rd.indexRos encI_ok (i := 5) (j := i) rfl rfl rfl s28 rfl hy) ?_
      refine To.rd rfl rfl rfl (Rd.load (i := 5) rfl rfl c2 rfl (gives_1 (ros_gives encI_ok hy) rfl)) ?_
      refine To.rd rfl rfl rfl (Rd.assign rfl rfl) ?_
      refine To.nil ?_
      refine To.thenN ?_
      refine To.reg ?_
      refine To.rd rfl rfl rfl (Rd.field rfl rfl fl34_0) ?_
      refine To.rd rfl rfl rfl (Rd.load (i := 10) rfl rfl c28 rfl (box_gives1 rfl)) ?_
      refine To.rd rfl rfl rfl (Rd.move rfl rfl) ?_
      refine To.mk rfl rfl rfl (Mk.sliceN (us := [.int .i64 y]) rfl s28 rfl rfl rfl rfl rfl rfl) ?_
      rintro _ _ ⟨b45, rfl, rfl⟩
      refine To.as [row 2 1 (some ⟨b45, 0, none⟩) 1 1 [.int .i64 y], box b5 [.slice w.Av w.vars.length w.qv, .slice w.At w.tabs.length w.qt, .slice w.Ad w.disk.length w.qd, .slice w.Aa w.args.length w.qa, .int .i64 w.now, .int .u8 ((w.flags : Nat) : Int), .int .u8 ((w.before : Nat) : Int), .slice w.Af w.fail.length w.qf] 53, box b10 [.slice none 0 0, .slice none 0 0, .slice none 0 0] 34, box b11 [.slice none 0 0, .slice none 0 0, .slice none 0 0] 57, box b12 [.slice none 0 0, .int .i64 0, .slice none 0 0, .int .i64 0, .slice none 0 0] 44, box b13 [.slice none 0 0, .int .i64 0, .slice none 0 0, .int .i64 0, .slice none 0 0] 58, ros encI w.Av w.vars, ros encEn w.At w.tabs, ros encEn w.Ad w.disk, ros encI w.Aa w.args, ros encY w.Af w.fail, box b14 [.slice Ao O.length qo, .slice none 0 0, .slice none 0 0] 34, box b15 [.slice none 0 0, .slice none 0 0, .slice none 0 0] 57, rows encI 2 1 Ao qo O] rfl ?_
      refine To.ge rfl rfl rfl (Ge.append1 encI_ok (i := 13) (j := 0) (el := y) rfl s28 rfl rfl rfl rfl rfl (by first | omega | (simp only [List.length_append, List.length_cons, List.length_nil]; omega)) (by first | omega | (simp only [List.length_append, List.length_cons, List.length_nil]; omega))) ?_
      rintro _ _ ⟨A46, q46, rfl, rfl⟩
      refine To.as [row 2 1 (some ⟨b45, 0, none⟩) 1 1 [.int .i64 y], box b5 [.slice w.Av w.vars.length w.qv, .slice w.At w.tabs.length w.qt, .slice w.Ad w.disk.length w.qd, .slice w.Aa w.args.length w.qa, .int .i64 w.now, .int .u8 ((w.flags : Nat) : Int), .int .u8 ((w.before : Nat) : Int), .slice w.Af w.fail.length w.qf] 53, box b10 [.slice none 0 0, .slice none 0 0, .slice none 0 0] 34, box b11 [.slice none 0 0, .slice none 0 0, .slice none 0 0] 57, box b12 [.slice none 0 0, .int .i64 0, .slice none 0 0, .int .i64 0, .slice none 0 0] 44, box b13 [.slice none 0 0, .int .i64 0, .slice none 0 0, .int .i64 0, .slice none 0 0] 58, ros encI w.Av w.vars, ros encEn w.At w.tabs, ros encEn w.Ad w.disk, ros encI w.Aa w.args, ros encY w.Af w.fail, box b14 [.slice Ao O.length qo, .slice none 0 0, .slice none 0 0] 34, box b15 [.slice none 0 0, .slice none 0 0, .slice none 0 0] 57, rows encI 2 1 A46 q46 (O ++ [y])] rfl ?_
      refine To.rd rfl rfl rfl (Rd.field rfl rfl fl34_0) ?_
      refine To.up rfl rfl (Up.store (i := 11) rfl rfl rfl c28 rfl rfl (box_takes1 rfl)) ?_
      refine To.nil ?_
      refine To.sub [(5, .pointer (some ⟨b5, 0, none⟩)), (10, .pointer (some ⟨b10, 0, none⟩)), (11, .pointer (some ⟨b11, 0, none⟩)), (12, .pointer (some ⟨b12, 0, none⟩)), (13, .pointer (some ⟨b13, 0, none⟩)), (14, .pointer (some ⟨b14, 0, none⟩)), (15, .pointer (some ⟨b15, 0, none⟩)), (2, .int .i64 ((nt : Nat) : Int)), (3, .int .i64 0), (4, .int .i64 0), (28, .int .i64 ((nv : Nat) : Int)), (29, .int .i64 ((i : Nat) : Int)), (30, .bool (decide (((i : Nat) : Int) < ((nv : Nat) : Int)))), (16, .int .i64 ((i : Nat) : Int)), (17, .int .i64 y), (36, .bool (decide (((i : Nat) : Int) < ((w.vars.length : Nat) : Int))))] ⟨rfl, rfl, rfl, rfl, rfl, rfl, rfl, rfl, rfl, rfl, rfl, rfl, rfl, rfl, rfl, rfl, trivial⟩ ?_
      refine To.blockN ?_
      refine To.thenN ?_
      refine To.reg ?_
      refine To.rd rfl rfl rfl (Rd.inc rfl rfl rfl (by omega)) ?_
      refine To.rd rfl rfl rfl (Rd.move rfl rfl) ?_
      refine To.nil ?_
      refine To.thenN ?_
      refine To.sub [(5, .pointer (some ⟨b5, 0, none⟩)), (10, .pointer (some ⟨b10, 0, none⟩)), (11, .pointer (some ⟨b11, 0, none⟩)), (12, .pointer (some ⟨b12, 0, none⟩)), (13, .pointer (some ⟨b13, 0, none⟩)), (14, .pointer (some ⟨b14, 0, none⟩)), (15, .pointer (some ⟨b15, 0, none⟩)), (2, .int .i64 ((nt : Nat) : Int)), (3, .int .i64 0), (4, .int .i64 0), (28, .int .i64 ((nv : Nat) : Int)), (29, .int .i64 (((i + 1) : Nat) : Int))] ⟨rfl, rfl, rfl, rfl, rfl, rfl, rfl, rfl, rfl, rfl, rfl, rfl, trivial⟩ ?_
      refine To.del0 ?_
      refine To.again (nv - (i + 1)) (by omega) ⟨A46, q46, (O ++ [y]), i + 1, rfl, rfl, rfl, (by omega), (by rw [pad_succ, ← hO, List.getD_eq_getElem?_getD, hy]; rfl)⟩
    ·
      refine To.skip ?_
      refine To.thenN ?_
      refine To.reg ?_
      refine To.rd rfl rfl rfl (Rd.field rfl rfl fl34_0) ?_
      refine To.rd rfl rfl rfl (Rd.load (i := 10) rfl rfl c28 rfl (box_gives1 rfl)) ?_
      refine To.rd rfl rfl rfl (Rd.move rfl rfl) ?_
      refine To.mk rfl rfl rfl (Mk.sliceN (us := [.int .i64 0]) rfl s28 rfl rfl rfl rfl rfl rfl) ?_
      rintro _ _ ⟨b45_2, rfl, rfl⟩
      refine To.as [row 2 1 (some ⟨b45_2, 0, none⟩) 1 1 [.int .i64 0], box b5 [.slice w.Av w.vars.length w.qv, .slice w.At w.tabs.length w.qt, .slice w.Ad w.disk.length w.qd, .slice w.Aa w.args.length w.qa, .int .i64 w.now, .int .u8 ((w.flags : Nat) : Int), .int .u8 ((w.before : Nat) : Int), .slice w.Af w.fail.length w.qf] 53, box b10 [.slice none 0 0, .slice none 0 0, .slice none 0 0] 34, box b11 [.slice none 0 0, .slice none 0 0, .slice none 0 0] 57, box b12 [.slice none 0 0, .int .i64 0, .slice none 0 0, .int .i64 0, .slice none 0 0] 44, box b13 [.slice none 0 0, .int .i64 0, .slice none 0 0, .int .i64 0, .slice none 0 0] 58, ros encI w.Av w.vars, ros encEn w.At w.tabs, ros encEn w.Ad w.disk, ros encI w.Aa w.args, ros encY w.Af w.fail, box b14 [.slice Ao O.length qo, .slice none 0 0, .slice none 0 0] 34, box b15 [.slice none 0 0, .slice none 0 0, .slice none 0 0] 57, rows encI 2 1 Ao qo O] rfl ?_
      refine To.ge rfl rfl rfl (Ge.append1 encI_ok (i := 13) (j := 0) (el := 0) rfl s28 rfl rfl rfl rfl rfl (by first | omega | (simp only [List.length_append, List.length_cons, List.length_nil]; omega)) (by first | omega | (simp only [List.length_append, List.length_cons, List.length_nil]; omega))) ?_
      rintro _ _ ⟨A46_2, q46_2, rfl, rfl⟩
      refine To.as [row 2 1 (some ⟨b45_2, 0, none⟩) 1 1 [.int .i64 0], box b5 [.slice w.Av w.vars.length w.qv, .slice w.At w.tabs.length w.qt, .slice w.Ad w.disk.length w.qd, .slice w.Aa w.args.length w.qa, .int .i64 w.now, .int .u8 ((w.flags : Nat) : Int), .int .u8 ((w.before : Nat) : Int), .slice w.Af w.fail.length w.qf] 53, box b10 [.slice none 0 0, .slice none 0 0, .slice none 0 0] 34, box b11 [.slice none 0 0, .slice none 0 0, .slice none 0 0] 57, box b12 [.slice none 0 0, .int .i64 0, .slice none 0 0, .int .i64 0, .slice none 0 0] 44, box b13 [.slice none 0 0, .int .i64 0, .slice none 0 0, .int .i64 0, .slice none 0 0] 58, ros encI w.Av w.vars, ros encEn w.At w.tabs, ros encEn w.Ad w.disk, ros encI w.Aa w.args, ros encY w.Af w.fail, box b14 [.slice Ao O.length qo, .slice none 0 0, .slice none 0 0] 34, box b15 [.slice none 0 0, .slice none 0 0, .slice none 0 0] 57, rows encI 2 1 A46_2 q46_2 (O ++ [0])] rfl ?_
      refine To.rd rfl rfl rfl (Rd.field rfl rfl fl34_0) ?_
      refine To.up rfl rfl (Up.store (i := 11) rfl rfl rfl c28 rfl rfl (box_takes1 rfl)) ?_
      refine To.nil ?_
      refine To.blockN ?_
      refine To.thenN ?_
      refine To.reg ?_
      refine To.rd rfl rfl rfl (Rd.inc rfl rfl rfl (by omega)) ?_
      refine To.rd rfl rfl rfl (Rd.move rfl rfl) ?_
      refine To.nil ?_
      refine To.thenN ?_
      refine To.sub [(5, .pointer (some ⟨b5, 0, none⟩)), (10, .pointer (some ⟨b10, 0, none⟩)), (11, .pointer (some ⟨b11, 0, none⟩)), (12, .pointer (some ⟨b12, 0, none⟩)), (13, .pointer (some ⟨b13, 0, none⟩)), (14, .pointer (some ⟨b14, 0, none⟩)), (15, .pointer (some ⟨b15, 0, none⟩)), (2, .int .i64 ((nt : Nat) : Int)), (3, .int .i64 0), (4, .int .i64 0), (28, .int .i64 ((nv : Nat) : Int)), (29, .int .i64 (((i + 1) : Nat) : Int))] ⟨rfl, rfl, rfl, rfl, rfl, rfl, rfl, rfl, rfl, rfl, rfl, rfl, trivial⟩ ?_
      refine To.del0 ?_
      refine To.again (nv - (i + 1)) (by omega) ⟨A46_2, q46_2, (O ++ [0]), i + 1, rfl, rfl, rfl, (by omega), (by rw [pad_succ, ← hO, List.getD_eq_getElem?_getD, List.getElem?_eq_none (by omega)]; rfl)⟩
  ·
    refine To.exit ?_
    refine To.thenX ?_
    refine To.thenX ?_
    refine To.blockX ?_
    refine To.thenN ?_
    refine To.seq ?_
    obtain rfl : i = nv := by omega
    refine To.sub [(5, .pointer (some ⟨b5, 0, none⟩)), (10, .pointer (some ⟨b10, 0, none⟩)), (11, .pointer (some ⟨b11, 0, none⟩)), (12, .pointer (some ⟨b12, 0, none⟩)), (13, .pointer (some ⟨b13, 0, none⟩)), (14, .pointer (some ⟨b14, 0, none⟩)), (15, .pointer (some ⟨b15, 0, none⟩)), (2, .int .i64 ((nt : Nat) : Int)), (3, .int .i64 0), (4, .int .i64 0)] ⟨rfl, rfl, rfl, rfl, rfl, rfl, rfl, rfl, rfl, rfl, trivial⟩ ?_
    refine To.nilRow (encI) 2 1 ?_
    refine To.reg ?_
    refine To.rd rfl rfl rfl (Rd.field rfl rfl fl57_0) ?_
    refine To.rd rfl rfl rfl (Rd.load (i := 12) rfl rfl c28 rfl (box_gives1 rfl)) ?_
    refine To.rd rfl rfl rfl (Rd.field rfl rfl fl34_0) ?_
    refine To.rd rfl rfl rfl (Rd.load (i := 11) rfl rfl c28 rfl (box_gives1 rfl)) ?_
    refine To.ge rfl rfl rfl (Ge.appendL encI_ok (i := 0) (m := O) rfl s28 rfl rfl rfl (src_row (i := 13) rfl) (by first | omega | (simp only [List.length_append, List.length_cons, List.length_nil]; omega)) (by first | omega | (simp only [List.length_append, List.length_cons, List.length_nil]; omega))) ?_
    rintro _ _ ⟨A53, q53, rfl, rfl⟩
    refine To.as [rows encI 2 1 A53 q53 (([] : List Int) ++ O), box b5 [.slice w.Av w.vars.length w.qv, .slice w.At w.tabs.length w.qt, .slice w.Ad w.disk.length w.qd, .slice w.Aa w.args.length w.qa, .int .i64 w.now, .int .u8 ((w.flags : Nat) : Int), .int .u8 ((w.before : Nat) : Int), .slice w.Af w.fail.length w.qf] 53, box b10 [.slice none 0 0, .slice none 0 0, .slice none 0 0] 34, box b11 [.slice none 0 0, .slice none 0 0, .slice none 0 0] 57, box b12 [.slice none 0 0, .int .i64 0, .slice none 0 0, .int .i64 0, .slice none 0 0] 44, box b13 [.slice none 0 0, .int .i64 0, .slice none 0 0, .int .i64 0, .slice none 0 0] 58, ros encI w.Av w.vars, ros encEn w.At w.tabs, ros encEn w.Ad w.disk, ros encI w.Aa w.args, ros encY w.Af w.fail, box b14 [.slice Ao O.length qo, .slice none 0 0, .slice none 0 0] 34, box b15 [.slice none 0 0, .slice none 0 0, .slice none 0 0] 57, rows encI 2 1 Ao qo O] rfl ?_
    refine To.rd rfl rfl rfl (Rd.field rfl rfl fl57_0) ?_
    refine To.up rfl rfl (Up.store (i := 12) rfl rfl rfl c28 rfl rfl (box_takes1 rfl)) ?_
    refine To.nil ?_
    refine To.thenN ?_
    refine To.seq ?_
    refine To.seq ?_
    refine To.reg ?_
    refine To.rd rfl rfl rfl (Rd.move rfl rfl) ?_
    refine To.rd rfl rfl rfl (Rd.move rfl rfl) ?_
    refine To.nil ?_
    refine To.thenN ?_
    refine To.block ?_
    refine To.nilRow (Tb.cells) 32 1 ?_
    refine To.nilS (enc := encEn) ?_
    refine To.nilRow (Tb.cells) 55 1 ?_
    refine To.nilS (enc := encEn) ?_
    refine To.sub [(5, .pointer (some ⟨b5, 0, none⟩)), (10, .pointer (some ⟨b10, 0, none⟩)), (11, .pointer (some ⟨b11, 0, none⟩)), (12, .pointer (some ⟨b12, 0, none⟩)), (13, .pointer (some ⟨b13, 0, none⟩)), (14, .pointer (some ⟨b14, 0, none⟩)), (15, .pointer (some ⟨b15, 0, none⟩)), (3, .int .i64 0), (4, .int .i64 0), (55, .int .i64 ((nt : Nat) : Int)), (56, .int .i64 ((0 : Nat) : Int))] ⟨rfl, rfl, rfl, rfl, rfl, rfl, rfl, rfl, rfl, rfl, rfl, trivial⟩ ?_
    refine To.up1 ?_
    refine To.up2 ?_
    refine To.up3 ?_
    refine To.up4 ?_
    refine To.up17 ?_
    refine To.up17 ?_
    refine To.up17 ?_
    refine To.up17 ?_
    refine To.up17 ?_
    refine To.up17 ?_
    refine To.up17 ?_
    refine To.up17 ?_
    refine To.up17 ?_
    refine To.up17 ?_
    refine To.up17 ?_
    refine To.up17 ?_
    refine To.up17 ?_
    refine To.loop (fun mz ρ Γ => ∃ (Ta : Option Addr) (qa : Nat) (T : List Tb) (Tr : Option Addr) (qr : Nat) (R : List Tb) (i : Nat), ρ = [(5, .pointer (some ⟨b5, 0, none⟩)), (10, .pointer (some ⟨b10, 0, none⟩)), (11, .pointer (some ⟨b11, 0, none⟩)), (12, .pointer (some ⟨b12, 0, none⟩)), (13, .pointer (some ⟨b13, 0, none⟩)), (14, .pointer (some ⟨b14, 0, none⟩)), (15, .pointer (some ⟨b15, 0, none⟩)), (3, .int .i64 0), (4, .int .i64 0), (55, .int .i64 ((nt : Nat) : Int)), (56, .int .i64 ((i : Nat) : Int))] ∧ Γ = [box b5 [.slice w.Av w.vars.length w.qv, .slice w.At w.tabs.length w.qt, .slice w.Ad w.disk.length w.qd, .slice w.Aa w.args.length w.qa, .int .i64 w.now, .int .u8 ((w.flags : Nat) : Int), .int .u8 ((w.before : Nat) : Int), .slice w.Af w.fail.length w.qf] 53, box b10 [.slice none 0 0, .slice none 0 0, .slice none 0 0] 34, box b11 [.slice none 0 0, .slice none 0 0, .slice none 0 0] 57, box b12 [.slice none 0 0, .int .i64 0, .slice none 0 0, .int .i64 0, .slice none 0 0] 44, box b13 [.slice none 0 0, .int .i64 0, .slice none 0 0, .int .i64 0, .slice none 0 0] 58, ros encI w.Av w.vars, ros encEn w.At w.tabs, ros encEn w.Ad w.disk, ros encI w.Aa w.args, ros encY w.Af w.fail, box b14 [.slice Ao O.length qo, .slice Ta T.length qa, .slice none 0 0] 34, box b15 [.slice A53 O.length q53, .slice Tr R.length qr, .slice none 0 0] 57, rows encI 2 1 Ao qo O, rows encI 2 1 A53 q53 O, rows Tb.cells 32 1 Ta qa T, rosS encEn (T.map Tb.ar), rows Tb.cells 55 1 Tr qr R, rosS encEn (R.map Tb.ar)] ∧ mz = nt - i ∧ (i ≤ nt) ∧ (T.map Tb.l = tabsV w.tabs i) ∧ (R.map Tb.l = tabsV w.tabs i)) (nt - 0) ⟨none, 0, ([] : List Tb), none, 0, ([] : List Tb), 0, rfl, rfl, rfl, (Nat.zero_le _), rfl, rfl⟩ ?_
    rintro mz _ _ ⟨Ta, qa, T, Tr, qr, R, i, rfl, rfl, rfl, hi, hT, hR⟩
    have hTl : T.length = i := by have := congrArg List.length hT; rw [List.length_map, tabs_len] at this; exact this
    have hRl : R.length = i := by have := congrArg List.length hR; rw [List.length_map, tabs_len] at this; exact this
    refine To.seq ?_
    refine To.reg ?_
    refine To.rd rfl rfl rfl (Rd.lss rfl rfl rfl) ?_
    refine To.nil ?_
    refine To.thenN ?_
    refine To.seq ?_
    refine To.condP rfl (fun k57 => ?_) (fun k57 => ?_)
    ·
      refine To.skip ?_
      refine To.thenN ?_
      refine To.seq ?_
      refine To.block ?_
      refine To.seq ?_
      refine To.reg ?_
      refine To.rd rfl rfl rfl (Rd.move rfl rfl) ?_
      refine To.rd rfl rfl rfl (Rd.assign rfl rfl) ?_
      refine To.nil ?_
      refine To.thenN ?_
      refine To.seq ?_
      refine To.reg ?_
      refine To.rd rfl rfl rfl (Rd.field rfl rfl fl53_1) ?_
      refine To.rd rfl rfl rfl (Rd.load (i := 0) rfl rfl c50 rfl (box_gives1 rfl)) ?_
      refine To.rd rfl rfl rfl (Rd.move rfl rfl) ?_
      refine To.rd rfl rfl rfl (Rd.as (v' := .int .i64 ((16 - i : Nat) : Int)) (congrArg (Value.int .i64) (by omega)) (Rd.sub64 rfl rfl rfl (by omega))) ?_
      refine To.callV rfl rfl rfl (Ent.fn rfl rfl ca18) (pairs_fn w.At w.qt (16 - i) w.tabs hw.qt) rfl (oks_nil _) ?_
      refine To.rd rfl rfl rfl (Rd.assign rfl rfl) ?_
      refine To.nil ?_
      refine To.thenN ?_
      refine To.seq ?_
      have htk : (w.tabs.take (16 - i)).length ≤ 16 := by rw [List.length_take]; omega
      refine To.take (16 - i) 6 rfl ?_
      refine To.flow [] [⟨0, [], 0⟩, ⟨2, [], 0⟩, ⟨3, [], 4⟩, ⟨1, [], 1⟩, ⟨4, [3], 2⟩, ⟨5, [3, 4], 5⟩, ⟨6, [], 0⟩, ⟨7, [], 5⟩] mixed (by kernel_rfl) (oks_nil _) ?_
      refine FlowS.free rfl rfl rfl rfl (Rd.field rfl rfl fl34_1) ?_
      refine FlowS.free rfl rfl rfl rfl (Rd.move rfl rfl) ?_
      refine FlowS.callM rfl rfl rfl rfl rfl (Ent.fn rfl rfl ca19) (tof_fn w.At w.qt (w.tabs.take (16 - i)) (by omega)) rfl (oks_cons (oks_at 0 rfl) (oks_nil _)) ?_
      rintro _ _ ⟨Bo, qo_, rfl, rfl⟩
      refine ⟨rfl, ?_⟩
      refine FlowS.rd rfl rfl rfl rfl (Rd.load (i := 11) rfl rfl c29 rfl (box_gives1 rfl)) ?_
      refine FlowS.mk rfl rfl rfl rfl rfl (Mk.sliceN (us := [.slice Bo ((ofT (w.tabs.take (16 - i))).length) qo_]) rfl s29 rfl rfl rfl rfl rfl rfl) ?_
      rintro _ _ ⟨b68, rfl, rfl⟩
      refine FlowS.ge rfl rfl rfl rfl (Ge.append1 encTb (i := 17) (j := 0) (el := (⟨Bo, qo_, (ofT (w.tabs.take (16 - i)))⟩ : Tb)) rfl s29 rfl rfl rfl rfl rfl (by first | omega | (simp only [List.length_append, List.length_cons, List.length_nil]; omega)) (by first | omega | (simp only [List.length_append, List.length_cons, List.length_nil]; omega))) ?_
      rintro _ _ ⟨A69, q69, rfl, rfl⟩
      refine ⟨oks_nil _, ?_⟩
      refine FlowS.free rfl rfl rfl rfl (Rd.field rfl rfl fl34_1) ?_
      refine FlowS.up (Γ' := [row 32 1 (some ⟨b68, 0, none⟩) 1 1 [.slice Bo ((ofT (w.tabs.take (16 - i))).length) qo_], rows encEn 89 2 Bo qo_ (ofT (w.tabs.take (16 - i))), ros encEn w.At (w.tabs.take (16 - i)), box b5 [.slice w.Av w.vars.length w.qv, .slice w.At w.tabs.length w.qt, .slice w.Ad w.disk.length w.qd, .slice w.Aa w.args.length w.qa, .int .i64 w.now, .int .u8 ((w.flags : Nat) : Int), .int .u8 ((w.before : Nat) : Int), .slice w.Af w.fail.length w.qf] 53, box b10 [.slice none 0 0, .slice none 0 0, .slice none 0 0] 34, box b11 [.slice none 0 0, .slice none 0 0, .slice none 0 0] 57, box b12 [.slice none 0 0, .int .i64 0, .slice none 0 0, .int .i64 0, .slice none 0 0] 44, box b13 [.slice none 0 0, .int .i64 0, .slice none 0 0, .int .i64 0, .slice none 0 0] 58, ros encI w.Av w.vars, ros encEn w.At w.tabs, ros encEn w.Ad w.disk, ros encI w.Aa w.args, ros encY w.Af w.fail, box b14 [.slice Ao O.length qo, .slice A69 ((T ++ [(⟨Bo, qo_, (ofT (w.tabs.take (16 - i)))⟩ : Tb)]).length) q69, .slice none 0 0] 34, box b15 [.slice A53 O.length q53, .slice Tr R.length qr, .slice none 0 0] 57, rows encI 2 1 Ao qo O, rows encI 2 1 A53 q53 O, rows Tb.cells 32 1 A69 q69 (T ++ [(⟨Bo, qo_, (ofT (w.tabs.take (16 - i)))⟩ : Tb)]), rosS encEn (T.map Tb.ar), rows Tb.cells 55 1 Tr qr R, rosS encEn (R.map Tb.ar)]) rfl rfl rfl (Up.store (i := 13) rfl rfl rfl c29 rfl rfl (box_takes1 rfl)) (oks_nil _) ?_
      refine FlowS.fin ?_
      refine To.as [row 32 1 (some ⟨b68, 0, none⟩) 1 1 [.slice Bo ((ofT (w.tabs.take (16 - i))).length) qo_], rows encEn 89 2 Bo qo_ (ofT (w.tabs.take (16 - i))), ros encEn w.At (w.tabs.take (16 - i)), box b5 [.slice w.Av w.vars.length w.qv, .slice w.At w.tabs.length w.qt, .slice w.Ad w.disk.length w.qd, .slice w.Aa w.args.length w.qa, .int .i64 w.now, .int .u8 ((w.flags : Nat) : Int), .int .u8 ((w.before : Nat) : Int), .slice w.Af w.fail.length w.qf] 53, box b10 [.slice none 0 0, .slice none 0 0, .slice none 0 0] 34, box b11 [.slice none 0 0, .slice none 0 0, .slice none 0 0] 57, box b12 [.slice none 0 0, .int .i64 0, .slice none 0 0, .int .i64 0, .slice none 0 0] 44, box b13 [.slice none 0 0, .int .i64 0, .slice none 0 0, .int .i64 0, .slice none 0 0] 58, ros encI w.Av w.vars, ros encEn w.At w.tabs, ros encEn w.Ad w.disk, ros encI w.Aa w.args, ros encY w.Af w.fail, box b14 [.slice Ao O.length qo, .slice A69 ((T ++ [(⟨Bo, qo_, (ofT (w.tabs.take (16 - i)))⟩ : Tb)]).length) q69, .slice none 0 0] 34, box b15 [.slice A53 O.length q53, .slice Tr R.length qr, .slice none 0 0] 57, rows encI 2 1 Ao qo O, rows encI 2 1 A53 q53 O, rows Tb.cells 32 1 A69 q69 (T ++ [(⟨Bo, qo_, (ofT (w.tabs.take (16 - i)))⟩ : Tb)]), rosS encEn (T.map Tb.ar), rows Tb.cells 55 1 Tr qr R, rosS encEn (R.map Tb.ar)] rfl ?_
      refine To.sub [(5, .pointer (some ⟨b5, 0, none⟩)), (10, .pointer (some ⟨b10, 0, none⟩)), (11, .pointer (some ⟨b11, 0, none⟩)), (12, .pointer (some ⟨b12, 0, none⟩)), (13, .pointer (some ⟨b13, 0, none⟩)), (14, .pointer (some ⟨b14, 0, none⟩)), (15, .pointer (some ⟨b15, 0, none⟩)), (3, .int .i64 0), (4, .int .i64 0), (55, .int .i64 ((nt : Nat) : Int)), (56, .int .i64 ((i : Nat) : Int)), (57, .bool (decide (((i : Nat) : Int) < ((nt : Nat) : Int)))), (18, .int .i64 ((i : Nat) : Int)), (19, .slice w.At ((w.tabs.take (16 - i)).length) w.qt)] ⟨rfl, rfl, rfl, rfl, rfl, rfl, rfl, rfl, rfl, rfl, rfl, rfl, rfl, rfl, trivial⟩ ?_
      refine To.thenN ?_
      refine To.up1 ?_
      refine To.layRow ?_
      refine To.famS ((T ++ [(⟨Bo, qo_, (ofT (w.tabs.take (16 - i)))⟩ : Tb)]).map Tb.ar) 18 rfl (fam_snoc rfl) ?_
      refine To.flow [] [⟨0, [], 0⟩, ⟨2, [], 0⟩, ⟨3, [], 4⟩, ⟨1, [], 1⟩, ⟨4, [3], 2⟩, ⟨5, [3, 4], 5⟩, ⟨6, [], 0⟩, ⟨7, [], 5⟩] mixed (by kernel_rfl) (oks_nil _) ?_
      refine FlowS.free rfl rfl rfl rfl (Rd.field rfl rfl fl57_1) ?_
      refine FlowS.free rfl rfl rfl rfl (Rd.move rfl rfl) ?_
      refine FlowS.callM rfl rfl rfl rfl rfl (Ent.fn rfl rfl ca20) (rof_fn w.At w.qt (w.tabs.take (16 - i)) (by omega)) rfl (oks_cons (oks_at 3 rfl) (oks_nil _)) ?_
      rintro _ _ ⟨Br, qr_, rfl, rfl⟩
      refine ⟨rfl, ?_⟩
      refine FlowS.rd rfl rfl rfl rfl (Rd.load (i := 15) rfl rfl c54 rfl (box_gives1 rfl)) ?_
      refine FlowS.mk rfl rfl rfl rfl rfl (Mk.sliceN (us := [.slice Br ((rofT (w.tabs.take (16 - i))).length) qr_]) rfl s54 rfl rfl rfl rfl rfl rfl) ?_
      rintro _ _ ⟨b75, rfl, rfl⟩
      refine FlowS.ge rfl rfl rfl rfl (Ge.append1 encTb (i := 22) (j := 0) (el := (⟨Br, qr_, (rofT (w.tabs.take (16 - i)))⟩ : Tb)) rfl s54 rfl rfl rfl rfl rfl (by first | omega | (simp only [List.length_append, List.length_cons, List.length_nil]; omega)) (by first | omega | (simp only [List.length_append, List.length_cons, List.length_nil]; omega))) ?_
      rintro _ _ ⟨A76, q76, rfl, rfl⟩
      refine ⟨oks_nil _, ?_⟩
      refine FlowS.free rfl rfl rfl rfl (Rd.field rfl rfl fl57_1) ?_
      refine FlowS.up (Γ' := [row 55 1 (some ⟨b75, 0, none⟩) 1 1 [.slice Br ((rofT (w.tabs.take (16 - i))).length) qr_], rows encEn 77 2 Br qr_ (rofT (w.tabs.take (16 - i))), rosS encEn ((T ++ [(⟨Bo, qo_, (ofT (w.tabs.take (16 - i)))⟩ : Tb)]).map Tb.ar), ros encEn Bo (ofT (w.tabs.take (16 - i))), row 32 1 (some ⟨b68, 0, none⟩) 1 1 [.slice Bo ((ofT (w.tabs.take (16 - i))).length) qo_], ros encEn w.At (w.tabs.take (16 - i)), box b5 [.slice w.Av w.vars.length w.qv, .slice w.At w.tabs.length w.qt, .slice w.Ad w.disk.length w.qd, .slice w.Aa w.args.length w.qa, .int .i64 w.now, .int .u8 ((w.flags : Nat) : Int), .int .u8 ((w.before : Nat) : Int), .slice w.Af w.fail.length w.qf] 53, box b10 [.slice none 0 0, .slice none 0 0, .slice none 0 0] 34, box b11 [.slice none 0 0, .slice none 0 0, .slice none 0 0] 57, box b12 [.slice none 0 0, .int .i64 0, .slice none 0 0, .int .i64 0, .slice none 0 0] 44, box b13 [.slice none 0 0, .int .i64 0, .slice none 0 0, .int .i64 0, .slice none 0 0] 58, ros encI w.Av w.vars, ros encEn w.At w.tabs, ros encEn w.Ad w.disk, ros encI w.Aa w.args, ros encY w.Af w.fail, box b14 [.slice Ao O.length qo, .slice A69 ((T ++ [(⟨Bo, qo_, (ofT (w.tabs.take (16 - i)))⟩ : Tb)]).length) q69, .slice none 0 0] 34, box b15 [.slice A53 O.length q53, .slice A76 ((R ++ [(⟨Br, qr_, (rofT (w.tabs.take (16 - i)))⟩ : Tb)]).length) q76, .slice none 0 0] 57, rows encI 2 1 Ao qo O, rows encI 2 1 A53 q53 O, rows Tb.cells 32 1 A69 q69 (T ++ [(⟨Bo, qo_, (ofT (w.tabs.take (16 - i)))⟩ : Tb)]), rosS encEn (T.map Tb.ar), rows Tb.cells 55 1 A76 q76 (R ++ [(⟨Br, qr_, (rofT (w.tabs.take (16 - i)))⟩ : Tb)]), rosS encEn (R.map Tb.ar)]) rfl rfl rfl (Up.store (i := 17) rfl rfl rfl c54 rfl rfl (box_takes1 rfl)) (oks_nil _) ?_
      refine FlowS.fin ?_
      refine To.as [row 55 1 (some ⟨b75, 0, none⟩) 1 1 [.slice Br ((rofT (w.tabs.take (16 - i))).length) qr_], rows encEn 77 2 Br qr_ (rofT (w.tabs.take (16 - i))), rosS encEn ((T ++ [(⟨Bo, qo_, (ofT (w.tabs.take (16 - i)))⟩ : Tb)]).map Tb.ar), ros encEn Bo (ofT (w.tabs.take (16 - i))), row 32 1 (some ⟨b68, 0, none⟩) 1 1 [.slice Bo ((ofT (w.tabs.take (16 - i))).length) qo_], ros encEn w.At (w.tabs.take (16 - i)), box b5 [.slice w.Av w.vars.length w.qv, .slice w.At w.tabs.length w.qt, .slice w.Ad w.disk.length w.qd, .slice w.Aa w.args.length w.qa, .int .i64 w.now, .int .u8 ((w.flags : Nat) : Int), .int .u8 ((w.before : Nat) : Int), .slice w.Af w.fail.length w.qf] 53, box b10 [.slice none 0 0, .slice none 0 0, .slice none 0 0] 34, box b11 [.slice none 0 0, .slice none 0 0, .slice none 0 0] 57, box b12 [.slice none 0 0, .int .i64 0, .slice none 0 0, .int .i64 0, .slice none 0 0] 44, box b13 [.slice none 0 0, .int .i64 0, .slice none 0 0, .int .i64 0, .slice none 0 0] 58, ros encI w.Av w.vars, ros encEn w.At w.tabs, ros encEn w.Ad w.disk, ros encI w.Aa w.args, ros encY w.Af w.fail, box b14 [.slice Ao O.length qo, .slice A69 ((T ++ [(⟨Bo, qo_, (ofT (w.tabs.take (16 - i)))⟩ : Tb)]).length) q69, .slice none 0 0] 34, box b15 [.slice A53 O.length q53, .slice A76 ((R ++ [(⟨Br, qr_, (rofT (w.tabs.take (16 - i)))⟩ : Tb)]).length) q76, .slice none 0 0] 57, rows encI 2 1 Ao qo O, rows encI 2 1 A53 q53 O, rows Tb.cells 32 1 A69 q69 (T ++ [(⟨Bo, qo_, (ofT (w.tabs.take (16 - i)))⟩ : Tb)]), rosS encEn (T.map Tb.ar), rows Tb.cells 55 1 A76 q76 (R ++ [(⟨Br, qr_, (rofT (w.tabs.take (16 - i)))⟩ : Tb)]), rosS encEn (R.map Tb.ar)] rfl ?_
      refine To.blockN ?_
      refine To.thenN ?_
      refine To.up1 ?_
      refine To.layRow ?_
      refine To.famS ((R ++ [(⟨Br, qr_, (rofT (w.tabs.take (16 - i)))⟩ : Tb)]).map Tb.ar) 23 rfl (fam_snoc rfl) ?_
      refine To.reg ?_
      refine To.rd rfl rfl rfl (Rd.inc rfl rfl rfl (by omega)) ?_
      refine To.rd rfl rfl rfl (Rd.move rfl rfl) ?_
      refine To.nil ?_
      refine To.thenN ?_
      refine To.sub [(5, .pointer (some ⟨b5, 0, none⟩)), (10, .pointer (some ⟨b10, 0, none⟩)), (11, .pointer (some ⟨b11, 0, none⟩)), (12, .pointer (some ⟨b12, 0, none⟩)), (13, .pointer (some ⟨b13, 0, none⟩)), (14, .pointer (some ⟨b14, 0, none⟩)), (15, .pointer (some ⟨b15, 0, none⟩)), (3, .int .i64 0), (4, .int .i64 0), (55, .int .i64 ((nt : Nat) : Int)), (56, .int .i64 (((i + 1) : Nat) : Int))] ⟨rfl, rfl, rfl, rfl, rfl, rfl, rfl, rfl, rfl, rfl, rfl, trivial⟩ ?_
      refine To.del24 ?_
      refine To.del22 ?_
      refine To.del6 ?_
      refine To.del5 ?_
      refine To.del4 ?_
      refine To.del2 ?_
      refine To.del1 ?_
      refine To.up17 ?_
      refine To.up2 ?_
      refine To.up17 ?_
      refine To.up17 ?_
      refine To.up17 ?_
      refine To.up17 ?_
      refine To.up17 ?_
      refine To.up17 ?_
      refine To.up17 ?_
      refine To.up17 ?_
      refine To.up17 ?_
      refine To.up17 ?_
      refine To.up17 ?_
      refine To.up17 ?_
      refine To.up17 ?_
      refine To.up17 ?_
      refine To.up17 ?_
      refine To.again (nt - (i + 1)) (by omega) ⟨A69, q69, (T ++ [(⟨Bo, qo_, (ofT (w.tabs.take (16 - i)))⟩ : Tb)]), A76, q76, (R ++ [(⟨Br, qr_, (rofT (w.tabs.take (16 - i)))⟩ : Tb)]), i + 1, rfl, rfl, rfl, (by omega), (by rw [List.map_append, hT, tabs_succ]; rfl), (by rw [List.map_append, hR, tabs_succ, ← (rof_eq _).1]; rfl)⟩
    ·
      refine To.exit ?_
      refine To.thenX ?_
      refine To.thenX ?_
      refine To.blockX ?_
      refine To.thenN ?_
      refine To.seq ?_
      have hbf := hw.before
      have hin : i = nt := by omega
      have hdk : (w.disk.take 16).length ≤ 16 := by rw [List.length_take]; omega
      refine To.take 16 7 rfl ?_
      refine To.flow [box b5 [.slice w.Av w.vars.length w.qv, .slice w.At w.tabs.length w.qt, .slice w.Ad w.disk.length w.qd, .slice w.Aa w.args.length w.qa, .int .i64 w.now, .int .u8 ((w.flags : Nat) : Int), .int .u8 ((w.before : Nat) : Int), .slice w.Af w.fail.length w.qf] 53] [⟨0, [], 0⟩, ⟨1, [], 0⟩, ⟨4, [], 0⟩, ⟨5, [], 0⟩, ⟨2, [], 3⟩, ⟨3, [], 4⟩, ⟨8, [3], 0⟩, ⟨6, [3], 3⟩, ⟨7, [3], 4⟩, ⟨9, [3, 7], 5⟩, ⟨10, [], 0⟩, ⟨11, [], 5⟩] mixed (by kernel_rfl) (oks_cons (oks_at 1 rfl) (oks_nil _)) ?_
      refine FlowS.free rfl rfl rfl rfl (Rd.field rfl rfl fl53_2) ?_
      refine FlowS.free rfl rfl rfl rfl (Rd.load (i := 0) rfl rfl c50 rfl (box_gives1 rfl)) ?_
      refine FlowS.free rfl rfl rfl rfl (Rd.field rfl rfl fl53_2) ?_
      refine FlowS.free rfl rfl rfl rfl (Rd.load (i := 0) rfl rfl c50 rfl (box_gives1 rfl)) ?_
      refine FlowS.callQ rfl rfl rfl rfl (Ent.fn rfl rfl ca18) (pairs_fn w.Ad w.qd 16 w.disk hw.qd) rfl (oks_nil _) ?_
      refine FlowS.callM rfl rfl rfl rfl rfl (Ent.fn rfl rfl ca19) (tof_fn w.Ad w.qd (w.disk.take 16) (by omega)) rfl (oks_cons (oks_at 0 rfl) (oks_nil _)) ?_
      rintro _ _ ⟨Bo_2, qo__2, rfl, rfl⟩
      refine ⟨rfl, ?_⟩
      refine FlowS.free rfl rfl rfl rfl (Rd.field rfl rfl fl34_2) ?_
      refine FlowS.callQ rfl rfl rfl rfl (Ent.fn rfl rfl ca18) (pairs_fn w.Ad w.qd 16 w.disk hw.qd) rfl (oks_nil _) ?_
      refine FlowS.callM rfl rfl rfl rfl rfl (Ent.fn rfl rfl ca20) (rof_fn w.Ad w.qd (w.disk.take 16) (by omega)) rfl (oks_cons (oks_at 1 rfl) (oks_nil _)) ?_
      rintro _ _ ⟨Br_2, qr__2, rfl, rfl⟩
      refine ⟨rfl, ?_⟩
      refine FlowS.up (Γ' := [rows encEn 77 2 Br_2 qr__2 (rofT (w.disk.take 16)), rows encEn 89 2 Bo_2 qo__2 (ofT (w.disk.take 16)), ros encEn w.Ad (w.disk.take 16), box b5 [.slice w.Av w.vars.length w.qv, .slice w.At w.tabs.length w.qt, .slice w.Ad w.disk.length w.qd, .slice w.Aa w.args.length w.qa, .int .i64 w.now, .int .u8 ((w.flags : Nat) : Int), .int .u8 ((w.before : Nat) : Int), .slice w.Af w.fail.length w.qf] 53, box b10 [.slice none 0 0, .slice none 0 0, .slice none 0 0] 34, box b11 [.slice none 0 0, .slice none 0 0, .slice none 0 0] 57, box b12 [.slice none 0 0, .int .i64 0, .slice none 0 0, .int .i64 0, .slice none 0 0] 44, box b13 [.slice none 0 0, .int .i64 0, .slice none 0 0, .int .i64 0, .slice none 0 0] 58, ros encI w.Av w.vars, ros encEn w.At w.tabs, ros encEn w.Ad w.disk, ros encI w.Aa w.args, ros encY w.Af w.fail, box b14 [.slice Ao O.length qo, .slice Ta T.length qa, .slice Bo_2 ((ofT (w.disk.take 16)).length) qo__2] 34, box b15 [.slice A53 O.length q53, .slice Tr R.length qr, .slice none 0 0] 57, rows encI 2 1 Ao qo O, rows encI 2 1 A53 q53 O, rows Tb.cells 32 1 Ta qa T, rosS encEn (T.map Tb.ar), rows Tb.cells 55 1 Tr qr R, rosS encEn (R.map Tb.ar)]) rfl rfl rfl (Up.storeS (i := 13) rfl rfl rfl r32 rfl rfl rfl (box_takes (ds := [.slice Ao O.length qo, .slice Ta T.length qa, .slice Bo_2 ((ofT (w.disk.take 16)).length) qo__2]) rfl rfl)) (oks_cons (oks_at 3 rfl) (oks_nil _)) ?_
      refine FlowS.free rfl rfl rfl rfl (Rd.field rfl rfl fl57_2) ?_
      refine FlowS.up (Γ' := [rows encEn 77 2 Br_2 qr__2 (rofT (w.disk.take 16)), rows encEn 89 2 Bo_2 qo__2 (ofT (w.disk.take 16)), ros encEn w.Ad (w.disk.take 16), box b5 [.slice w.Av w.vars.length w.qv, .slice w.At w.tabs.length w.qt, .slice w.Ad w.disk.length w.qd, .slice w.Aa w.args.length w.qa, .int .i64 w.now, .int .u8 ((w.flags : Nat) : Int), .int .u8 ((w.before : Nat) : Int), .slice w.Af w.fail.length w.qf] 53, box b10 [.slice none 0 0, .slice none 0 0, .slice none 0 0] 34, box b11 [.slice none 0 0, .slice none 0 0, .slice none 0 0] 57, box b12 [.slice none 0 0, .int .i64 0, .slice none 0 0, .int .i64 0, .slice none 0 0] 44, box b13 [.slice none 0 0, .int .i64 0, .slice none 0 0, .int .i64 0, .slice none 0 0] 58, ros encI w.Av w.vars, ros encEn w.At w.tabs, ros encEn w.Ad w.disk, ros encI w.Aa w.args, ros encY w.Af w.fail, box b14 [.slice Ao O.length qo, .slice Ta T.length qa, .slice Bo_2 ((ofT (w.disk.take 16)).length) qo__2] 34, box b15 [.slice A53 O.length q53, .slice Tr R.length qr, .slice Br_2 ((rofT (w.disk.take 16)).length) qr__2] 57, rows encI 2 1 Ao qo O, rows encI 2 1 A53 q53 O, rows Tb.cells 32 1 Ta qa T, rosS encEn (T.map Tb.ar), rows Tb.cells 55 1 Tr qr R, rosS encEn (R.map Tb.ar)]) rfl rfl rfl (Up.store (i := 14) rfl rfl rfl c55 rfl rfl (box_takes1 rfl)) (oks_cons (oks_at 3 rfl) (oks_nil _)) ?_
      refine FlowS.fin ?_
      refine To.as [rows encEn 77 2 Br_2 qr__2 (rofT (w.disk.take 16)), rows encEn 89 2 Bo_2 qo__2 (ofT (w.disk.take 16)), ros encEn w.Ad (w.disk.take 16), box b5 [.slice w.Av w.vars.length w.qv, .slice w.At w.tabs.length w.qt, .slice w.Ad w.disk.length w.qd, .slice w.Aa w.args.length w.qa, .int .i64 w.now, .int .u8 ((w.flags : Nat) : Int), .int .u8 ((w.before : Nat) : Int), .slice w.Af w.fail.length w.qf] 53, box b10 [.slice none 0 0, .slice none 0 0, .slice none 0 0] 34, box b11 [.slice none 0 0, .slice none 0 0, .slice none 0 0] 57, box b12 [.slice none 0 0, .int .i64 0, .slice none 0 0, .int .i64 0, .slice none 0 0] 44, box b13 [.slice none 0 0, .int .i64 0, .slice none 0 0, .int .i64 0, .slice none 0 0] 58, ros encI w.Av w.vars, ros encEn w.At w.tabs, ros encEn w.Ad w.disk, ros encI w.Aa w.args, ros encY w.Af w.fail, box b14 [.slice Ao O.length qo, .slice Ta T.length qa, .slice Bo_2 ((ofT (w.disk.take 16)).length) qo__2] 34, box b15 [.slice A53 O.length q53, .slice Tr R.length qr, .slice Br_2 ((rofT (w.disk.take 16)).length) qr__2] 57, rows encI 2 1 Ao qo O, rows encI 2 1 A53 q53 O, rows Tb.cells 32 1 Ta qa T, rosS encEn (T.map Tb.ar), rows Tb.cells 55 1 Tr qr R, rosS encEn (R.map Tb.ar)] rfl ?_
      refine To.thenN ?_
      refine To.seq ?_
      refine To.up1 ?_
      refine To.layRow ?_
      refine To.up1 ?_
      refine To.layRow ?_
      refine To.reg ?_
      refine To.rd rfl rfl rfl (Rd.field rfl rfl fl53_4) ?_
      refine To.rd rfl rfl rfl (Rd.load (i := 3) rfl rfl c2 rfl (box_gives1 rfl)) ?_
      refine To.rd rfl rfl rfl (Rd.field rfl rfl fl53_6) ?_
      refine To.rd rfl rfl rfl (Rd.load (i := 3) rfl rfl c5 rfl (box_gives1 rfl)) ?_
      refine To.rd rfl rfl rfl (Rd.conv rfl rfl Tryd.underlying5 Tryd.underlying3 (IntWalk.i64_in _ (by omega))) ?_
      refine To.rd rfl rfl rfl (Rd.build (vs := [(1, .int .i64 w.now), (3, .int .i64 ((w.before : Nat) : Int))]) (cells := [.slice none 0 0, .int .i64 w.now, .slice none 0 0, .int .i64 ((w.before : Nat) : Int), .slice none 0 0]) rfl rfl rfl (by kernel_rfl)) ?_
      refine To.alloc rfl rfl rfl rfl z44 (fun b20 => ?_)
      refine To.up rfl rfl (Up.storeS (i := 0) rfl rfl rfl r44 rfl rfl rfl (box_takesAll rfl)) ?_
      refine To.nil ?_
      refine To.sub [(5, .pointer (some ⟨b5, 0, none⟩)), (10, .pointer (some ⟨b10, 0, none⟩)), (11, .pointer (some ⟨b11, 0, none⟩)), (12, .pointer (some ⟨b12, 0, none⟩)), (13, .pointer (some ⟨b13, 0, none⟩)), (14, .pointer (some ⟨b14, 0, none⟩)), (15, .pointer (some ⟨b15, 0, none⟩)), (3, .int .i64 0), (4, .int .i64 0), (55, .int .i64 ((nt : Nat) : Int)), (56, .int .i64 ((i : Nat) : Int)), (57, .bool (decide (((i : Nat) : Int) < ((nt : Nat) : Int)))), (20, .pointer (some ⟨b20, 0, none⟩))] ⟨rfl, rfl, rfl, rfl, rfl, rfl, rfl, rfl, rfl, rfl, rfl, rfl, rfl, trivial⟩ ?_
      refine To.thenN ?_
      refine To.seq ?_
      refine To.seq ?_
      refine To.reg ?_
      refine To.rd rfl rfl rfl (Rd.move rfl rfl) ?_
      refine To.rd rfl rfl rfl (Rd.move rfl rfl) ?_
      refine To.nil ?_
      refine To.thenN ?_
      refine To.block ?_
      refine To.rounds 1 ?_
      refine To.roundS ?_
      refine To.seq ?_
      refine To.reg ?_
      refine To.rd rfl rfl rfl (Rd.lss rfl rfl rfl) ?_
      refine To.nil ?_
      refine To.thenN ?_
      refine To.seq ?_
      refine To.condF rfl ?_
      refine To.exit ?_
      refine To.thenX ?_
      refine To.thenX ?_
      refine To.blockX ?_
      refine To.thenN ?_
      refine To.seq ?_
      refine To.seq ?_
      refine To.reg ?_
      refine To.rd rfl rfl rfl (Rd.move rfl rfl) ?_
      refine To.rd rfl rfl rfl (Rd.move rfl rfl) ?_
      refine To.nil ?_
      refine To.thenN ?_
      refine To.block ?_
      refine To.rounds 1 ?_
      refine To.roundS ?_
      refine To.seq ?_
      refine To.reg ?_
      refine To.rd rfl rfl rfl (Rd.lss rfl rfl rfl) ?_
      refine To.nil ?_
      refine To.thenN ?_
      refine To.seq ?_
      refine To.condF rfl ?_
      refine To.exit ?_
      refine To.thenX ?_
      refine To.thenX ?_
      refine To.blockX ?_
      refine To.thenN ?_
      refine To.seq ?_
      refine To.reg ?_
      refine To.rd rfl rfl rfl (Rd.assign rfl rfl) ?_
      refine To.nil ?_
      refine To.thenN ?_
      refine To.seq ?_
      refine To.seq ?_
      refine To.reg ?_
      refine To.rd rfl rfl rfl (Rd.assign rfl rfl) ?_
      refine To.nil ?_
      refine To.thenN ?_
      refine To.block ?_
      refine To.nilRow (encI) 3 1 ?_
      refine To.sub [(5, .pointer (some ⟨b5, 0, none⟩)), (10, .pointer (some ⟨b10, 0, none⟩)), (11, .pointer (some ⟨b11, 0, none⟩)), (12, .pointer (some ⟨b12, 0, none⟩)), (13, .pointer (some ⟨b13, 0, none⟩)), (14, .pointer (some ⟨b14, 0, none⟩)), (15, .pointer (some ⟨b15, 0, none⟩)), (20, .pointer (some ⟨b20, 0, none⟩)), (24, .int .i64 (-1)), (25, .int .i64 ((0 : Nat) : Int))] ⟨rfl, rfl, rfl, rfl, rfl, rfl, rfl, rfl, rfl, rfl, trivial⟩ ?_
      refine To.del4 ?_
      refine To.up1 ?_
      refine To.loop (fun mz ρ Γ => ∃ (Fa : Option Addr) (qf : Nat) (Fl : List Int) (la : Int) (k : Nat), ρ = [(5, .pointer (some ⟨b5, 0, none⟩)), (10, .pointer (some ⟨b10, 0, none⟩)), (11, .pointer (some ⟨b11, 0, none⟩)), (12, .pointer (some ⟨b12, 0, none⟩)), (13, .pointer (some ⟨b13, 0, none⟩)), (14, .pointer (some ⟨b14, 0, none⟩)), (15, .pointer (some ⟨b15, 0, none⟩)), (20, .pointer (some ⟨b20, 0, none⟩)), (24, .int .i64 la), (25, .int .i64 ((k : Nat) : Int))] ∧ Γ = [box b20 [.slice none 0 0, .int .i64 w.now, .slice none 0 0, .int .i64 ((w.before : Nat) : Int), .slice Fa Fl.length qf] 44, rows encI 3 1 Fa qf Fl, ros encEn Br_2 (rofT (w.disk.take 16)), ros encEn Bo_2 (ofT (w.disk.take 16)), box b5 [.slice w.Av w.vars.length w.qv, .slice w.At w.tabs.length w.qt, .slice w.Ad w.disk.length w.qd, .slice w.Aa w.args.length w.qa, .int .i64 w.now, .int .u8 ((w.flags : Nat) : Int), .int .u8 ((w.before : Nat) : Int), .slice w.Af w.fail.length w.qf] 53, box b10 [.slice none 0 0, .slice none 0 0, .slice none 0 0] 34, box b11 [.slice none 0 0, .slice none 0 0, .slice none 0 0] 57, box b12 [.slice none 0 0, .int .i64 0, .slice none 0 0, .int .i64 0, .slice none 0 0] 44, box b13 [.slice none 0 0, .int .i64 0, .slice none 0 0, .int .i64 0, .slice none 0 0] 58, ros encI w.Av w.vars, ros encEn w.At w.tabs, ros encEn w.Ad w.disk, ros encI w.Aa w.args, ros encY w.Af w.fail, box b14 [.slice Ao O.length qo, .slice Ta T.length qa, .slice Bo_2 ((ofT (w.disk.take 16)).length) qo__2] 34, box b15 [.slice A53 O.length q53, .slice Tr R.length qr, .slice Br_2 ((rofT (w.disk.take 16)).length) qr__2] 57, rows encI 2 1 Ao qo O, rows encI 2 1 A53 q53 O, rows Tb.cells 32 1 Ta qa T, rosS encEn (T.map Tb.ar), rows Tb.cells 55 1 Tr qr R, rosS encEn (R.map Tb.ar)] ∧ mz = 8 - k ∧ (k ≤ 8) ∧ (Fl.length = k) ∧ (-1 ≤ la ∧ la ≤ 256 + 4 * k)) (8 - 0) ⟨none, 0, ([] : List Int), (-1), 0, rfl, rfl, rfl, (Nat.zero_le _), rfl, (by omega)⟩ ?_
      rintro mz _ _ ⟨Fa, qf, Fl, la, k, rfl, rfl, rfl, hk8, hFl, hla⟩
      refine To.seq ?_
      refine To.seq ?_
      refine To.reg ?_
      refine To.rd rfl rfl rfl (Rd.move rfl rfl) ?_
      refine To.rd rfl rfl rfl (Rd.field rfl rfl fl53_7) ?_
      refine To.rd rfl rfl rfl (Rd.load (i := 4) rfl rfl c51 rfl (box_gives1 rfl)) ?_
      refine To.rd rfl rfl rfl (Rd.len rfl rfl Tryd.underlying51) ?_
      refine To.rd rfl rfl rfl (Rd.lss rfl rfl rfl) ?_
      refine To.rdP rfl rfl rfl (Rd.move rfl rfl) (fun g138 => ?_) (fun g138 => ?_)
      ·
        refine To.rd rfl rfl rfl (Rd.move rfl rfl) ?_
        refine To.rd rfl rfl rfl (Rd.lss rfl rfl rfl) ?_
        refine To.rd rfl rfl rfl (Rd.pickT rfl rfl rfl) ?_
        refine To.nil ?_
        refine To.thenN ?_
        refine To.condP rfl (fun k141 => ?_) (fun k141 => ?_)
        ·
          refine To.skip ?_
          refine To.thenN ?_
          refine To.seq ?_
          refine To.block ?_
          refine To.seq ?_
          obtain ⟨y, hy⟩ : ∃ z0, w.fail[k]? = some z0 := ⟨w.fail[k]'(by omega), List.getElem?_eq_getElem _⟩
          have hym : y % 4 < 4 := Nat.mod_lt _ (by decide)
          refine To.flow [box b5 [.slice w.Av w.vars.length w.qv, .slice w.At w.tabs.length w.qt, .slice w.Ad w.disk.length w.qd, .slice w.Aa w.args.length w.qa, .int .i64 w.now, .int .u8 ((w.flags : Nat) : Int), .int .u8 ((w.before : Nat) : Int), .slice w.Af w.fail.length w.qf] 53] [⟨0, [], 0⟩, ⟨1, [], 0⟩, ⟨2, [], 0⟩, ⟨6, [], 0⟩, ⟨8, [], 0⟩, ⟨3, [], 1⟩, ⟨4, [], 0⟩, ⟨5, [], 0⟩, ⟨7, [], 1⟩, ⟨9, [], 1⟩, ⟨10, [], 1⟩, ⟨11, [], 0⟩, ⟨12, [], 0⟩, ⟨13, [], 0⟩, ⟨14, [], 0⟩] mixed (by kernel_rfl) (oks_cons (oks_at 4 rfl) (oks_nil _)) ?_
          refine FlowS.free rfl rfl rfl rfl (Rd.move rfl rfl) ?_
          refine FlowS.free rfl rfl rfl rfl (Rd.add64 rfl rfl rfl (by omega)) ?_
          refine FlowS.free rfl rfl rfl rfl (Rd.field rfl rfl fl53_6) ?_
          refine FlowS.free rfl rfl rfl rfl (Rd.field rfl rfl fl53_7) ?_
          refine FlowS.free rfl rfl rfl rfl (Rd.move rfl rfl) ?_
          refine FlowS.rd rfl rfl rfl rfl (Rd.load (i := 4) rfl rfl c5 rfl (box_gives1 rfl)) ?_
          refine FlowS.free rfl rfl rfl rfl (Rd.conv rfl rfl Tryd.underlying5 Tryd.underlying3 (IntWalk.i64_in _ (by omega))) ?_
          refine FlowS.free rfl rfl rfl rfl (Rd.max rfl rfl rfl) ?_
          refine FlowS.rd rfl rfl rfl rfl (Rd.load (i := 4) rfl rfl c51 rfl (box_gives1 rfl)) ?_
          refine FlowS.rd rfl rfl rfl rfl (Rd.indexRos encY_ok (i := 13) (j := k) rfl rfl rfl s51 rfl hy) ?_
          refine FlowS.rd rfl rfl rfl rfl (Rd.load (i := 13) rfl rfl c5 rfl (gives_1 (ros_gives encY_ok hy) rfl)) ?_
          refine FlowS.free rfl rfl rfl rfl (Rd.remN (a := y) (b := 4) rfl rfl rfl (by omega)) ?_
          refine FlowS.free rfl rfl rfl rfl (Rd.conv rfl rfl Tryd.underlying5 Tryd.underlying3 (IntWalk.i64_in _ (by omega))) ?_
          refine FlowS.free rfl rfl rfl rfl (Rd.add64 rfl rfl rfl (by omega)) ?_
          refine FlowS.free rfl rfl rfl rfl (Rd.assign rfl rfl) ?_
          refine FlowS.fin ?_
          refine To.as [box b20 [.slice none 0 0, .int .i64 w.now, .slice none 0 0, .int .i64 ((w.before : Nat) : Int), .slice Fa Fl.length qf] 44, rows encI 3 1 Fa qf Fl, ros encEn Br_2 (rofT (w.disk.take 16)), ros encEn Bo_2 (ofT (w.disk.take 16)), box b5 [.slice w.Av w.vars.length w.qv, .slice w.At w.tabs.length w.qt, .slice w.Ad w.disk.length w.qd, .slice w.Aa w.args.length w.qa, .int .i64 w.now, .int .u8 ((w.flags : Nat) : Int), .int .u8 ((w.before : Nat) : Int), .slice w.Af w.fail.length w.qf] 53, box b10 [.slice none 0 0, .slice none 0 0, .slice none 0 0] 34, box b11 [.slice none 0 0, .slice none 0 0, .slice none 0 0] 57, box b12 [.slice none 0 0, .int .i64 0, .slice none 0 0, .int .i64 0, .slice none 0 0] 44, box b13 [.slice none 0 0, .int .i64 0, .slice none 0 0, .int .i64 0, .slice none 0 0] 58, ros encI w.Av w.vars, ros encEn w.At w.tabs, ros encEn w.Ad w.disk, ros encI w.Aa w.args, ros encY w.Af w.fail, box b14 [.slice Ao O.length qo, .slice Ta T.length qa, .slice Bo_2 ((ofT (w.disk.take 16)).length) qo__2] 34, box b15 [.slice A53 O.length q53, .slice Tr R.length qr, .slice Br_2 ((rofT (w.disk.take 16)).length) qr__2] 57, rows encI 2 1 Ao qo O, rows encI 2 1 A53 q53 O, rows Tb.cells 32 1 Ta qa T, rosS encEn (T.map Tb.ar), rows Tb.cells 55 1 Tr qr R, rosS encEn (R.map Tb.ar)] rfl ?_
          refine To.sub [(5, .pointer (some ⟨b5, 0, none⟩)), (10, .pointer (some ⟨b10, 0, none⟩)), (11, .pointer (some ⟨b11, 0, none⟩)), (12, .pointer (some ⟨b12, 0, none⟩)), (13, .pointer (some ⟨b13, 0, none⟩)), (14, .pointer (some ⟨b14, 0, none⟩)), (15, .pointer (some ⟨b15, 0, none⟩)), (20, .pointer (some ⟨b20, 0, none⟩)), (24, .int .i64 ((max (la + 1) ((w.before : Nat) : Int)) + ((y % 4 : Nat) : Int))), (25, .int .i64 ((k : Nat) : Int)), (141, .bool (decide (((k : Nat) : Int) < 8)))] ⟨rfl, rfl, rfl, rfl, rfl, rfl, rfl, rfl, rfl, rfl, rfl, trivial⟩ ?_
          refine To.thenN ?_
          refine To.reg ?_
          refine To.rd rfl rfl rfl (Rd.field rfl rfl fl44_4) ?_
          refine To.rd rfl rfl rfl (Rd.load (i := 0) rfl rfl c42 rfl (box_gives1 rfl)) ?_
          refine To.rd rfl rfl rfl (Rd.move rfl rfl) ?_
          refine To.mk rfl rfl rfl (Mk.sliceN (us := [.int .i64 ((max (la + 1) ((w.before : Nat) : Int)) + ((y % 4 : Nat) : Int))]) rfl s42 rfl rfl rfl rfl rfl rfl) ?_
          rintro _ _ ⟨b161, rfl, rfl⟩
          refine To.as [row 3 1 (some ⟨b161, 0, none⟩) 1 1 [.int .i64 ((max (la + 1) ((w.before : Nat) : Int)) + ((y % 4 : Nat) : Int))], box b20 [.slice none 0 0, .int .i64 w.now, .slice none 0 0, .int .i64 ((w.before : Nat) : Int), .slice Fa Fl.length qf] 44, rows encI 3 1 Fa qf Fl, ros encEn Br_2 (rofT (w.disk.take 16)), ros encEn Bo_2 (ofT (w.disk.take 16)), box b5 [.slice w.Av w.vars.length w.qv, .slice w.At w.tabs.length w.qt, .slice w.Ad w.disk.length w.qd, .slice w.Aa w.args.length w.qa, .int .i64 w.now, .int .u8 ((w.flags : Nat) : Int), .int .u8 ((w.before : Nat) : Int), .slice w.Af w.fail.length w.qf] 53, box b10 [.slice none 0 0, .slice none 0 0, .slice none 0 0] 34, box b11 [.slice none 0 0, .slice none 0 0, .slice none 0 0] 57, box b12 [.slice none 0 0, .int .i64 0, .slice none 0 0, .int .i64 0, .slice none 0 0] 44, box b13 [.slice none 0 0, .int .i64 0, .slice none 0 0, .int .i64 0, .slice none 0 0] 58, ros encI w.Av w.vars, ros encEn w.At w.tabs, ros encEn w.Ad w.disk, ros encI w.Aa w.args, ros encY w.Af w.fail, box b14 [.slice Ao O.length qo, .slice Ta T.length qa, .slice Bo_2 ((ofT (w.disk.take 16)).length) qo__2] 34, box b15 [.slice A53 O.length q53, .slice Tr R.length qr, .slice Br_2 ((rofT (w.disk.take 16)).length) qr__2] 57, rows encI 2 1 Ao qo O, rows encI 2 1 A53 q53 O, rows Tb.cells 32 1 Ta qa T, rosS encEn (T.map Tb.ar), rows Tb.cells 55 1 Tr qr R, rosS encEn (R.map Tb.ar)] rfl ?_
          refine To.ge rfl rfl rfl (Ge.append1 encI_ok (i := 2) (j := 0) (el := (max (la + 1) ((w.before : Nat) : Int)) + ((y % 4 : Nat) : Int)) rfl s42 rfl rfl rfl rfl rfl (by first | omega | (simp only [List.length_append, List.length_cons, List.length_nil]; omega)) (by first | omega | (simp only [List.length_append, List.length_cons, List.length_nil]; omega))) ?_
          rintro _ _ ⟨A162, q162, rfl, rfl⟩
          refine To.as [row 3 1 (some ⟨b161, 0, none⟩) 1 1 [.int .i64 ((max (la + 1) ((w.before : Nat) : Int)) + ((y % 4 : Nat) : Int))], box b20 [.slice none 0 0, .int .i64 w.now, .slice none 0 0, .int .i64 ((w.before : Nat) : Int), .slice Fa Fl.length qf] 44, rows encI 3 1 A162 q162 (Fl ++ [(max (la + 1) ((w.before : Nat) : Int)) + ((y % 4 : Nat) : Int)]), ros encEn Br_2 (rofT (w.disk.take 16)), ros encEn Bo_2 (ofT (w.disk.take 16)), box b5 [.slice w.Av w.vars.length w.qv, .slice w.At w.tabs.length w.qt, .slice w.Ad w.disk.length w.qd, .slice w.Aa w.args.length w.qa, .int .i64 w.now, .int .u8 ((w.flags : Nat) : Int), .int .u8 ((w.before : Nat) : Int), .slice w.Af w.fail.length w.qf] 53, box b10 [.slice none 0 0, .slice none 0 0, .slice none 0 0] 34, box b11 [.slice none 0 0, .slice none 0 0, .slice none 0 0] 57, box b12 [.slice none 0 0, .int .i64 0, .slice none 0 0, .int .i64 0, .slice none 0 0] 44, box b13 [.slice none 0 0, .int .i64 0, .slice none 0 0, .int .i64 0, .slice none 0 0] 58, ros encI w.Av w.vars, ros encEn w.At w.tabs, ros encEn w.Ad w.disk, ros encI w.Aa w.args, ros encY w.Af w.fail, box b14 [.slice Ao O.length qo, .slice Ta T.length qa, .slice Bo_2 ((ofT (w.disk.take 16)).length) qo__2] 34, box b15 [.slice A53 O.length q53, .slice Tr R.length qr, .slice Br_2 ((rofT (w.disk.take 16)).length) qr__2] 57, rows encI 2 1 Ao qo O, rows encI 2 1 A53 q53 O, rows Tb.cells 32 1 Ta qa T, rosS encEn (T.map Tb.ar), rows Tb.cells 55 1 Tr qr R, rosS encEn (R.map Tb.ar)] rfl ?_
          refine To.rd rfl rfl rfl (Rd.field rfl rfl fl44_4) ?_
          refine To.up rfl rfl (Up.store (i := 1) rfl rfl rfl c42 rfl rfl (box_takes1 rfl)) ?_
          refine To.nil ?_
          refine To.blockN ?_
          refine To.thenN ?_
          refine To.reg ?_
          refine To.rd rfl rfl rfl (Rd.move rfl rfl) ?_
          refine To.rd rfl rfl rfl (Rd.inc rfl rfl rfl (by omega)) ?_
          refine To.rd rfl rfl rfl (Rd.assign rfl rfl) ?_
          refine To.nil ?_
          refine To.thenN ?_
          refine To.sub [(5, .pointer (some ⟨b5, 0, none⟩)), (10, .pointer (some ⟨b10, 0, none⟩)), (11, .pointer (some ⟨b11, 0, none⟩)), (12, .pointer (some ⟨b12, 0, none⟩)), (13, .pointer (some ⟨b13, 0, none⟩)), (14, .pointer (some ⟨b14, 0, none⟩)), (15, .pointer (some ⟨b15, 0, none⟩)), (20, .pointer (some ⟨b20, 0, none⟩)), (24, .int .i64 ((max (la + 1) ((w.before : Nat) : Int)) + ((y % 4 : Nat) : Int))), (25, .int .i64 (((k + 1) : Nat) : Int))] ⟨rfl, rfl, rfl, rfl, rfl, rfl, rfl, rfl, rfl, rfl, trivial⟩ ?_
          refine To.del0 ?_
          refine To.again (8 - (k + 1)) (by omega) ⟨A162, q162, (Fl ++ [(max (la + 1) ((w.before : Nat) : Int)) + ((y % 4 : Nat) : Int)]), (max (la + 1) ((w.before : Nat) : Int)) + ((y % 4 : Nat) : Int), k + 1, rfl, rfl, rfl, (by omega), (by rw [List.length_append, hFl]; rfl), (by omega)⟩
        ·
          refine To.exit ?_
          refine To.thenX ?_
          refine To.thenX ?_
          refine To.blockX ?_
          refine To.thenN ?_
          refine To.seq ?_
          refine To.flow [box b14 [.slice Ao O.length qo, .slice Ta T.length qa, .slice Bo_2 ((ofT (w.disk.take 16)).length) qo__2] 34, box b15 [.slice A53 O.length q53, .slice Tr R.length qr, .slice Br_2 ((rofT (w.disk.take 16)).length) qr__2] 57, box b20 [.slice none 0 0, .int .i64 w.now, .slice none 0 0, .int .i64 ((w.before : Nat) : Int), .slice Fa Fl.length qf] 44] [⟨0, [], 0⟩, ⟨1, [], 0⟩, ⟨2, [], 0⟩, ⟨3, [], 0⟩, ⟨4, [], 0⟩, ⟨5, [], 0⟩, ⟨6, [], 0⟩, ⟨7, [], 0⟩, ⟨8, [], 0⟩, ⟨9, [], 0⟩, ⟨10, [], 0⟩, ⟨11, [], 0⟩, ⟨12, [], 0⟩, ⟨13, [], 0⟩, ⟨14, [], 5⟩, ⟨15, [], 5⟩, ⟨16, [], 5⟩, ⟨17, [], 5⟩] mixed (by kernel_rfl) (oks_cons (oks_at 14 rfl) (oks_cons (oks_at 15 rfl) (oks_cons (oks_at 0 rfl) (oks_nil _)))) ?_
          refine FlowS.free rfl rfl rfl rfl (Rd.loadS (i := 0) rfl rfl r34 rfl box_whole rfl) ?_
          refine FlowS.free rfl rfl rfl rfl (Rd.loadS (i := 1) rfl rfl r57 rfl box_whole rfl) ?_
          refine FlowS.free rfl rfl rfl rfl (Rd.loadS (i := 2) rfl rfl r44 rfl box_whole rfl) ?_
          refine FlowS.free rfl rfl rfl rfl (Rd.field rfl rfl fl44_0) ?_
          refine FlowS.free rfl rfl rfl rfl (Rd.load (i := 2) rfl rfl c28 rfl (box_gives1 rfl)) ?_
          refine FlowS.free rfl rfl rfl rfl (Rd.field rfl rfl fl44_1) ?_
          refine FlowS.free rfl rfl rfl rfl (Rd.load (i := 2) rfl rfl c2 rfl (box_gives1 rfl)) ?_
          refine FlowS.free rfl rfl rfl rfl (Rd.field rfl rfl fl44_2) ?_
          refine FlowS.free rfl rfl rfl rfl (Rd.load (i := 2) rfl rfl c41 rfl (box_gives1 rfl)) ?_
          refine FlowS.free rfl rfl rfl rfl (Rd.field rfl rfl fl44_3) ?_
          refine FlowS.free rfl rfl rfl rfl (Rd.load (i := 2) rfl rfl c3 rfl (box_gives1 rfl)) ?_
          refine FlowS.free rfl rfl rfl rfl (Rd.field rfl rfl fl44_4) ?_
          refine FlowS.free rfl rfl rfl rfl (Rd.load (i := 2) rfl rfl c42 rfl (box_gives1 rfl)) ?_
          refine FlowS.free rfl rfl rfl rfl (Rd.build (vs := [(0, .slice none 0 0), (1, .int .i64 w.now), (2, .slice none 0 0), (3, .int .i64 ((w.before : Nat) : Int)), (4, .slice Fa Fl.length qf)]) (cells := [.slice none 0 0, .int .i64 w.now, .slice none 0 0, .int .i64 ((w.before : Nat) : Int), .slice Fa Fl.length qf]) rfl rfl rfl (by kernel_rfl)) ?_
          refine FlowS.up (Γ' := [box b20 [.slice none 0 0, .int .i64 w.now, .slice none 0 0, .int .i64 ((w.before : Nat) : Int), .slice Fa Fl.length qf] 44, rows encI 3 1 Fa qf Fl, ros encEn Br_2 (rofT (w.disk.take 16)), ros encEn Bo_2 (ofT (w.disk.take 16)), box b5 [.slice w.Av w.vars.length w.qv, .slice w.At w.tabs.length w.qt, .slice w.Ad w.disk.length w.qd, .slice w.Aa w.args.length w.qa, .int .i64 w.now, .int .u8 ((w.flags : Nat) : Int), .int .u8 ((w.before : Nat) : Int), .slice w.Af w.fail.length w.qf] 53, box b10 [.slice Ao O.length qo, .slice Ta T.length qa, .slice Bo_2 ((ofT (w.disk.take 16)).length) qo__2] 34, box b11 [.slice none 0 0, .slice none 0 0, .slice none 0 0] 57, box b12 [.slice none 0 0, .int .i64 0, .slice none 0 0, .int .i64 0, .slice none 0 0] 44, box b13 [.slice none 0 0, .int .i64 0, .slice none 0 0, .int .i64 0, .slice none 0 0] 58, ros encI w.Av w.vars, ros encEn w.At w.tabs, ros encEn w.Ad w.disk, ros encI w.Aa w.args, ros encY w.Af w.fail, box b14 [.slice Ao O.length qo, .slice Ta T.length qa, .slice Bo_2 ((ofT (w.disk.take 16)).length) qo__2] 34, box b15 [.slice A53 O.length q53, .slice Tr R.length qr, .slice Br_2 ((rofT (w.disk.take 16)).length) qr__2] 57, rows encI 2 1 Ao qo O, rows encI 2 1 A53 q53 O, rows Tb.cells 32 1 Ta qa T, rosS encEn (T.map Tb.ar), rows Tb.cells 55 1 Tr qr R, rosS encEn (R.map Tb.ar)]) rfl rfl rfl (Up.storeS (i := 5) rfl rfl rfl r34 rfl rfl rfl (box_takesAll rfl)) (oks_cons (oks_at 14 rfl) (oks_cons (oks_at 15 rfl) (oks_cons (oks_at 0 rfl) (oks_nil _)))) ?_
          refine FlowS.up (Γ' := [box b20 [.slice none 0 0, .int .i64 w.now, .slice none 0 0, .int .i64 ((w.before : Nat) : Int), .slice Fa Fl.length qf] 44, rows encI 3 1 Fa qf Fl, ros encEn Br_2 (rofT (w.disk.take 16)), ros encEn Bo_2 (ofT (w.disk.take 16)), box b5 [.slice w.Av w.vars.length w.qv, .slice w.At w.tabs.length w.qt, .slice w.Ad w.disk.length w.qd, .slice w.Aa w.args.length w.qa, .int .i64 w.now, .int .u8 ((w.flags : Nat) : Int), .int .u8 ((w.before : Nat) : Int), .slice w.Af w.fail.length w.qf] 53, box b10 [.slice Ao O.length qo, .slice Ta T.length qa, .slice Bo_2 ((ofT (w.disk.take 16)).length) qo__2] 34, box b11 [.slice A53 O.length q53, .slice Tr R.length qr, .slice Br_2 ((rofT (w.disk.take 16)).length) qr__2] 57, box b12 [.slice none 0 0, .int .i64 0, .slice none 0 0, .int .i64 0, .slice none 0 0] 44, box b13 [.slice none 0 0, .int .i64 0, .slice none 0 0, .int .i64 0, .slice none 0 0] 58, ros encI w.Av w.vars, ros encEn w.At w.tabs, ros encEn w.Ad w.disk, ros encI w.Aa w.args, ros encY w.Af w.fail, box b14 [.slice Ao O.length qo, .slice Ta T.length qa, .slice Bo_2 ((ofT (w.disk.take 16)).length) qo__2] 34, box b15 [.slice A53 O.length q53, .slice Tr R.length qr, .slice Br_2 ((rofT (w.disk.take 16)).length) qr__2] 57, rows encI 2 1 Ao qo O, rows encI 2 1 A53 q53 O, rows Tb.cells 32 1 Ta qa T, rosS encEn (T.map Tb.ar), rows Tb.cells 55 1 Tr qr R, rosS encEn (R.map Tb.ar)]) rfl rfl rfl (Up.storeS (i := 6) rfl rfl rfl r57 rfl rfl rfl (box_takesAll rfl)) (oks_cons (oks_at 14 rfl) (oks_cons (oks_at 15 rfl) (oks_cons (oks_at 0 rfl) (oks_nil _)))) ?_
          refine FlowS.up (Γ' := [box b20 [.slice none 0 0, .int .i64 w.now, .slice none 0 0, .int .i64 ((w.before : Nat) : Int), .slice Fa Fl.length qf] 44, rows encI 3 1 Fa qf Fl, ros encEn Br_2 (rofT (w.disk.take 16)), ros encEn Bo_2 (ofT (w.disk.take 16)), box b5 [.slice w.Av w.vars.length w.qv, .slice w.At w.tabs.length w.qt, .slice w.Ad w.disk.length w.qd, .slice w.Aa w.args.length w.qa, .int .i64 w.now, .int .u8 ((w.flags : Nat) : Int), .int .u8 ((w.before : Nat) : Int), .slice w.Af w.fail.length w.qf] 53, box b10 [.slice Ao O.length qo, .slice Ta T.length qa, .slice Bo_2 ((ofT (w.disk.take 16)).length) qo__2] 34, box b11 [.slice A53 O.length q53, .slice Tr R.length qr, .slice Br_2 ((rofT (w.disk.take 16)).length) qr__2] 57, box b12 [.slice none 0 0, .int .i64 w.now, .slice none 0 0, .int .i64 ((w.before : Nat) : Int), .slice Fa Fl.length qf] 44, box b13 [.slice none 0 0, .int .i64 0, .slice none 0 0, .int .i64 0, .slice none 0 0] 58, ros encI w.Av w.vars, ros encEn w.At w.tabs, ros encEn w.Ad w.disk, ros encI w.Aa w.args, ros encY w.Af w.fail, box b14 [.slice Ao O.length qo, .slice Ta T.length qa, .slice Bo_2 ((ofT (w.disk.take 16)).length) qo__2] 34, box b15 [.slice A53 O.length q53, .slice Tr R.length qr, .slice Br_2 ((rofT (w.disk.take 16)).length) qr__2] 57, rows encI 2 1 Ao qo O, rows encI 2 1 A53 q53 O, rows Tb.cells 32 1 Ta qa T, rosS encEn (T.map Tb.ar), rows Tb.cells 55 1 Tr qr R, rosS encEn (R.map Tb.ar)]) rfl rfl rfl (Up.storeS (i := 7) rfl rfl rfl r44 rfl rfl rfl (box_takesAll rfl)) (oks_cons (oks_at 14 rfl) (oks_cons (oks_at 15 rfl) (oks_cons (oks_at 0 rfl) (oks_nil _)))) ?_
          refine FlowS.up (Γ' := [box b20 [.slice none 0 0, .int .i64 w.now, .slice none 0 0, .int .i64 ((w.before : Nat) : Int), .slice Fa Fl.length qf] 44, rows encI 3 1 Fa qf Fl, ros encEn Br_2 (rofT (w.disk.take 16)), ros encEn Bo_2 (ofT (w.disk.take 16)), box b5 [.slice w.Av w.vars.length w.qv, .slice w.At w.tabs.length w.qt, .slice w.Ad w.disk.length w.qd, .slice w.Aa w.args.length w.qa, .int .i64 w.now, .int .u8 ((w.flags : Nat) : Int), .int .u8 ((w.before : Nat) : Int), .slice w.Af w.fail.length w.qf] 53, box b10 [.slice Ao O.length qo, .slice Ta T.length qa, .slice Bo_2 ((ofT (w.disk.take 16)).length) qo__2] 34, box b11 [.slice A53 O.length q53, .slice Tr R.length qr, .slice Br_2 ((rofT (w.disk.take 16)).length) qr__2] 57, box b12 [.slice none 0 0, .int .i64 w.now, .slice none 0 0, .int .i64 ((w.before : Nat) : Int), .slice Fa Fl.length qf] 44, box b13 [.slice none 0 0, .int .i64 w.now, .slice none 0 0, .int .i64 ((w.before : Nat) : Int), .slice Fa Fl.length qf] 58, ros encI w.Av w.vars, ros encEn w.At w.tabs, ros encEn w.Ad w.disk, ros encI w.Aa w.args, ros encY w.Af w.fail, box b14 [.slice Ao O.length qo, .slice Ta T.length qa, .slice Bo_2 ((ofT (w.disk.take 16)).length) qo__2] 34, box b15 [.slice A53 O.length q53, .slice Tr R.length qr, .slice Br_2 ((rofT (w.disk.take 16)).length) qr__2] 57, rows encI 2 1 Ao qo O, rows encI 2 1 A53 q53 O, rows Tb.cells 32 1 Ta qa T, rosS encEn (T.map Tb.ar), rows Tb.cells 55 1 Tr qr R, rosS encEn (R.map Tb.ar)]) rfl rfl rfl (Up.storeS (i := 8) rfl rfl rfl r58 rfl rfl rfl (box_takesAll rfl)) (oks_cons (oks_at 14 rfl) (oks_cons (oks_at 15 rfl) (oks_cons (oks_at 0 rfl) (oks_nil _)))) ?_
          refine FlowS.fin ?_
          refine To.as [box b20 [.slice none 0 0, .int .i64 w.now, .slice none 0 0, .int .i64 ((w.before : Nat) : Int), .slice Fa Fl.length qf] 44, rows encI 3 1 Fa qf Fl, ros encEn Br_2 (rofT (w.disk.take 16)), ros encEn Bo_2 (ofT (w.disk.take 16)), box b5 [.slice w.Av w.vars.length w.qv, .slice w.At w.tabs.length w.qt, .slice w.Ad w.disk.length w.qd, .slice w.Aa w.args.length w.qa, .int .i64 w.now, .int .u8 ((w.flags : Nat) : Int), .int .u8 ((w.before : Nat) : Int), .slice w.Af w.fail.length w.qf] 53, box b10 [.slice Ao O.length qo, .slice Ta T.length qa, .slice Bo_2 ((ofT (w.disk.take 16)).length) qo__2] 34, box b11 [.slice A53 O.length q53, .slice Tr R.length qr, .slice Br_2 ((rofT (w.disk.take 16)).length) qr__2] 57, box b12 [.slice none 0 0, .int .i64 w.now, .slice none 0 0, .int .i64 ((w.before : Nat) : Int), .slice Fa Fl.length qf] 44, box b13 [.slice none 0 0, .int .i64 w.now, .slice none 0 0, .int .i64 ((w.before : Nat) : Int), .slice Fa Fl.length qf] 58, ros encI w.Av w.vars, ros encEn w.At w.tabs, ros encEn w.Ad w.disk, ros encI w.Aa w.args, ros encY w.Af w.fail, box b14 [.slice Ao O.length qo, .slice Ta T.length qa, .slice Bo_2 ((ofT (w.disk.take 16)).length) qo__2] 34, box b15 [.slice A53 O.length q53, .slice Tr R.length qr, .slice Br_2 ((rofT (w.disk.take 16)).length) qr__2] 57, rows encI 2 1 Ao qo O, rows encI 2 1 A53 q53 O, rows Tb.cells 32 1 Ta qa T, rosS encEn (T.map Tb.ar), rows Tb.cells 55 1 Tr qr R, rosS encEn (R.map Tb.ar)] rfl ?_
          refine To.sub [(5, .pointer (some ⟨b5, 0, none⟩)), (10, .pointer (some ⟨b10, 0, none⟩)), (11, .pointer (some ⟨b11, 0, none⟩)), (12, .pointer (some ⟨b12, 0, none⟩)), (13, .pointer (some ⟨b13, 0, none⟩)), (14, .pointer (some ⟨b14, 0, none⟩)), (15, .pointer (some ⟨b15, 0, none⟩)), (20, .pointer (some ⟨b20, 0, none⟩)), (24, .int .i64 la), (25, .int .i64 ((k : Nat) : Int)), (141, .bool (decide (((k : Nat) : Int) < 8)))] ⟨rfl, rfl, rfl, rfl, rfl, rfl, rfl, rfl, rfl, rfl, rfl, trivial⟩ ?_
          refine To.thenN ?_
          refine To.ret ?_
          have hFl8 : Fl.length ≤ 8 := by omega
          refine To.endC4 (i1 := 5) (i2 := 6) (i3 := 7) (i4 := 8) [16, 17, 17, 3, 15, 15, 15, 2, 1] rfl (.inl rfl) Tryd.results7 rfl rfl r34 rfl rfl rfl r57 rfl rfl rfl r44 rfl rfl rfl r58 rfl ?_
          exact ⟨⟨Ao, qo, O, Ta, qa, T, ⟨Bo_2, qo__2, (ofT (w.disk.take 16))⟩⟩, ⟨A53, q53, O, Tr, qr, R, ⟨Br_2, qr__2, (rofT (w.disk.take 16))⟩⟩, Fa, qf, Fl, rfl, rfl, by unfold Sx.val stV; rw [hT, hO, hin], by unfold Sx.val stV; rw [hR, hO, hin, ← (rof_eq (w.disk.take 16)).1], hFl8⟩
      ·
        refine To.sk rfl rfl rfl ?_
        refine To.sk rfl rfl rfl ?_
        refine To.rd rfl rfl rfl (Rd.pickF rfl rfl rfl) ?_
        refine To.nil ?_
        refine To.thenN ?_
        refine To.condF rfl ?_
        refine To.exit ?_
        refine To.thenX ?_
        refine To.thenX ?_
        refine To.blockX ?_
        refine To.thenN ?_
        refine To.seq ?_
        refine To.flow [box b14 [.slice Ao O.length qo, .slice Ta T.length qa, .slice Bo_2 ((ofT (w.disk.take 16)).length) qo__2] 34, box b15 [.slice A53 O.length q53, .slice Tr R.length qr, .slice Br_2 ((rofT (w.disk.take 16)).length) qr__2] 57, box b20 [.slice none 0 0, .int .i64 w.now, .slice none 0 0, .int .i64 ((w.before : Nat) : Int), .slice Fa Fl.length qf] 44] [⟨0, [], 0⟩, ⟨1, [], 0⟩, ⟨2, [], 0⟩, ⟨3, [], 0⟩, ⟨4, [], 0⟩, ⟨5, [], 0⟩, ⟨6, [], 0⟩, ⟨7, [], 0⟩, ⟨8, [], 0⟩, ⟨9, [], 0⟩, ⟨10, [], 0⟩, ⟨11, [], 0⟩, ⟨12, [], 0⟩, ⟨13, [], 0⟩, ⟨14, [], 5⟩, ⟨15, [], 5⟩, ⟨16, [], 5⟩, ⟨17, [], 5⟩] mixed (by kernel_rfl) (oks_cons (oks_at 14 rfl) (oks_cons (oks_at 15 rfl) (oks_cons (oks_at 0 rfl) (oks_nil _)))) ?_
        refine FlowS.free rfl rfl rfl rfl (Rd.loadS (i := 0) rfl rfl r34 rfl box_whole rfl) ?_
        refine FlowS.free rfl rfl rfl rfl (Rd.loadS (i := 1) rfl rfl r57 rfl box_whole rfl) ?_
        refine FlowS.free rfl rfl rfl rfl (Rd.loadS (i := 2) rfl rfl r44 rfl box_whole rfl) ?_
        refine FlowS.free rfl rfl rfl rfl (Rd.field rfl rfl fl44_0) ?_
        refine FlowS.free rfl rfl rfl rfl (Rd.load (i := 2) rfl rfl c28 rfl (box_gives1 rfl)) ?_
        refine FlowS.free rfl rfl rfl rfl (Rd.field rfl rfl fl44_1) ?_
        refine FlowS.free rfl rfl rfl rfl (Rd.load (i := 2) rfl rfl c2 rfl (box_gives1 rfl)) ?_
        refine FlowS.free rfl rfl rfl rfl (Rd.field rfl rfl fl44_2) ?_
        refine FlowS.free rfl rfl rfl rfl (Rd.load (i := 2) rfl rfl c41 rfl (box_gives1 rfl)) ?_
        refine FlowS.free rfl rfl rfl rfl (Rd.field rfl rfl fl44_3) ?_
        refine FlowS.free rfl rfl rfl rfl (Rd.load (i := 2) rfl rfl c3 rfl (box_gives1 rfl)) ?_
        refine FlowS.free rfl rfl rfl rfl (Rd.field rfl rfl fl44_4) ?_
        refine FlowS.free rfl rfl rfl rfl (Rd.load (i := 2) rfl rfl c42 rfl (box_gives1 rfl)) ?_
        refine FlowS.free rfl rfl rfl rfl (Rd.build (vs := [(0, .slice none 0 0), (1, .int .i64 w.now), (2, .slice none 0 0), (3, .int .i64 ((w.before : Nat) : Int)), (4, .slice Fa Fl.length qf)]) (cells := [.slice none 0 0, .int .i64 w.now, .slice none 0 0, .int .i64 ((w.before : Nat) : Int), .slice Fa Fl.length qf]) rfl rfl rfl (by kernel_rfl)) ?_
        refine FlowS.up (Γ' := [box b20 [.slice none 0 0, .int .i64 w.now, .slice none 0 0, .int .i64 ((w.before : Nat) : Int), .slice Fa Fl.length qf] 44, rows encI 3 1 Fa qf Fl, ros encEn Br_2 (rofT (w.disk.take 16)), ros encEn Bo_2 (ofT (w.disk.take 16)), box b5 [.slice w.Av w.vars.length w.qv, .slice w.At w.tabs.length w.qt, .slice w.Ad w.disk.length w.qd, .slice w.Aa w.args.length w.qa, .int .i64 w.now, .int .u8 ((w.flags : Nat) : Int), .int .u8 ((w.before : Nat) : Int), .slice w.Af w.fail.length w.qf] 53, box b10 [.slice Ao O.length qo, .slice Ta T.length qa, .slice Bo_2 ((ofT (w.disk.take 16)).length) qo__2] 34, box b11 [.slice none 0 0, .slice none 0 0, .slice none 0 0] 57, box b12 [.slice none 0 0, .int .i64 0, .slice none 0 0, .int .i64 0, .slice none 0 0] 44, box b13 [.slice none 0 0, .int .i64 0, .slice none 0 0, .int .i64 0, .slice none 0 0] 58, ros encI w.Av w.vars, ros encEn w.At w.tabs, ros encEn w.Ad w.disk, ros encI w.Aa w.args, ros encY w.Af w.fail, box b14 [.slice Ao O.length qo, .slice Ta T.length qa, .slice Bo_2 ((ofT (w.disk.take 16)).length) qo__2] 34, box b15 [.slice A53 O.length q53, .slice Tr R.length qr, .slice Br_2 ((rofT (w.disk.take 16)).length) qr__2] 57, rows encI 2 1 Ao qo O, rows encI 2 1 A53 q53 O, rows Tb.cells 32 1 Ta qa T, rosS encEn (T.map Tb.ar), rows Tb.cells 55 1 Tr qr R, rosS encEn (R.map Tb.ar)]) rfl rfl rfl (Up.storeS (i := 5) rfl rfl rfl r34 rfl rfl rfl (box_takesAll rfl)) (oks_cons (oks_at 14 rfl) (oks_cons (oks_at 15 rfl) (oks_cons (oks_at 0 rfl) (oks_nil _)))) ?_
        refine FlowS.up (Γ' := [box b20 [.slice none 0 0, .int .i64 w.now, .slice none 0 0, .int .i64 ((w.before : Nat) : Int), .slice Fa Fl.length qf] 44, rows encI 3 1 Fa qf Fl, ros encEn Br_2 (rofT (w.disk.take 16)), ros encEn Bo_2 (ofT (w.disk.take 16)), box b5 [.slice w.Av w.vars.length w.qv, .slice w.At w.tabs.length w.qt, .slice w.Ad w.disk.length w.qd, .slice w.Aa w.args.length w.qa, .int .i64 w.now, .int .u8 ((w.flags : Nat) : Int), .int .u8 ((w.before : Nat) : Int), .slice w.Af w.fail.length w.qf] 53, box b10 [.slice Ao O.length qo, .slice Ta T.length qa, .slice Bo_2 ((ofT (w.disk.take 16)).length) qo__2] 34, box b11 [.slice A53 O.length q53, .slice Tr R.length qr, .slice Br_2 ((rofT (w.disk.take 16)).length) qr__2] 57, box b12 [.slice none 0 0, .int .i64 0, .slice none 0 0, .int .i64 0, .slice none 0 0] 44, box b13 [.slice none 0 0, .int .i64 0, .slice none 0 0, .int .i64 0, .slice none 0 0] 58, ros encI w.Av w.vars, ros encEn w.At w.tabs, ros encEn w.Ad w.disk, ros encI w.Aa w.args, ros encY w.Af w.fail, box b14 [.slice Ao O.length qo, .slice Ta T.length qa, .slice Bo_2 ((ofT (w.disk.take 16)).length) qo__2] 34, box b15 [.slice A53 O.length q53, .slice Tr R.length qr, .slice Br_2 ((rofT (w.disk.take 16)).length) qr__2] 57, rows encI 2 1 Ao qo O, rows encI 2 1 A53 q53 O, rows Tb.cells 32 1 Ta qa T, rosS encEn (T.map Tb.ar), rows Tb.cells 55 1 Tr qr R, rosS encEn (R.map Tb.ar)]) rfl rfl rfl (Up.storeS (i := 6) rfl rfl rfl r57 rfl rfl rfl (box_takesAll rfl)) (oks_cons (oks_at 14 rfl) (oks_cons (oks_at 15 rfl) (oks_cons (oks_at 0 rfl) (oks_nil _)))) ?_
        refine FlowS.up (Γ' := [box b20 [.slice none 0 0, .int .i64 w.now, .slice none 0 0, .int .i64 ((w.before : Nat) : Int), .slice Fa Fl.length qf] 44, rows encI 3 1 Fa qf Fl, ros encEn Br_2 (rofT (w.disk.take 16)), ros encEn Bo_2 (ofT (w.disk.take 16)), box b5 [.slice w.Av w.vars.length w.qv, .slice w.At w.tabs.length w.qt, .slice w.Ad w.disk.length w.qd, .slice w.Aa w.args.length w.qa, .int .i64 w.now, .int .u8 ((w.flags : Nat) : Int), .int .u8 ((w.before : Nat) : Int), .slice w.Af w.fail.length w.qf] 53, box b10 [.slice Ao O.length qo, .slice Ta T.length qa, .slice Bo_2 ((ofT (w.disk.take 16)).length) qo__2] 34, box b11 [.slice A53 O.length q53, .slice Tr R.length qr, .slice Br_2 ((rofT (w.disk.take 16)).length) qr__2] 57, box b12 [.slice none 0 0, .int .i64 w.now, .slice none 0 0, .int .i64 ((w.before : Nat) : Int), .slice Fa Fl.length qf] 44, box b13 [.slice none 0 0, .int .i64 0, .slice none 0 0, .int .i64 0, .slice none 0 0] 58, ros encI w.Av w.vars, ros encEn w.At w.tabs, ros encEn w.Ad w.disk, ros encI w.Aa w.args, ros encY w.Af w.fail, box b14 [.slice Ao O.length qo, .slice Ta T.length qa, .slice Bo_2 ((ofT (w.disk.take 16)).length) qo__2] 34, box b15 [.slice A53 O.length q53, .slice Tr R.length qr, .slice Br_2 ((rofT (w.disk.take 16)).length) qr__2] 57, rows encI 2 1 Ao qo O, rows encI 2 1 A53 q53 O, rows Tb.cells 32 1 Ta qa T, rosS encEn (T.map Tb.ar), rows Tb.cells 55 1 Tr qr R, rosS encEn (R.map Tb.ar)]) rfl rfl rfl (Up.storeS (i := 7) rfl rfl rfl r44 rfl rfl rfl (box_takesAll rfl)) (oks_cons (oks_at 14 rfl) (oks_cons (oks_at 15 rfl) (oks_cons (oks_at 0 rfl) (oks_nil _)))) ?_
        refine FlowS.up (Γ' := [box b20 [.slice none 0 0, .int .i64 w.now, .slice none 0 0, .int .i64 ((w.before : Nat) : Int), .slice Fa Fl.length qf] 44, rows encI 3 1 Fa qf Fl, ros encEn Br_2 (rofT (w.disk.take 16)), ros encEn Bo_2 (ofT (w.disk.take 16)), box b5 [.slice w.Av w.vars.length w.qv, .slice w.At w.tabs.length w.qt, .slice w.Ad w.disk.length w.qd, .slice w.Aa w.args.length w.qa, .int .i64 w.now, .int .u8 ((w.flags : Nat) : Int), .int .u8 ((w.before : Nat) : Int), .slice w.Af w.fail.length w.qf] 53, box b10 [.slice Ao O.length qo, .slice Ta T.length qa, .slice Bo_2 ((ofT (w.disk.take 16)).length) qo__2] 34, box b11 [.slice A53 O.length q53, .slice Tr R.length qr, .slice Br_2 ((rofT (w.disk.take 16)).length) qr__2] 57, box b12 [.slice none 0 0, .int .i64 w.now, .slice none 0 0, .int .i64 ((w.before : Nat) : Int), .slice Fa Fl.length qf] 44, box b13 [.slice none 0 0, .int .i64 w.now, .slice none 0 0, .int .i64 ((w.before : Nat) : Int), .slice Fa Fl.length qf] 58, ros encI w.Av w.vars, ros encEn w.At w.tabs, ros encEn w.Ad w.disk, ros encI w.Aa w.args, ros encY w.Af w.fail, box b14 [.slice Ao O.length qo, .slice Ta T.length qa, .slice Bo_2 ((ofT (w.disk.take 16)).length) qo__2] 34, box b15 [.slice A53 O.length q53, .slice Tr R.length qr, .slice Br_2 ((rofT (w.disk.take 16)).length) qr__2] 57, rows encI 2 1 Ao qo O, rows encI 2 1 A53 q53 O, rows Tb.cells 32 1 Ta qa T, rosS encEn (T.map Tb.ar), rows Tb.cells 55 1 Tr qr R, rosS encEn (R.map Tb.ar)]) rfl rfl rfl (Up.storeS (i := 8) rfl rfl rfl r58 rfl rfl rfl (box_takesAll rfl)) (oks_cons (oks_at 14 rfl) (oks_cons (oks_at 15 rfl) (oks_cons (oks_at 0 rfl) (oks_nil _)))) ?_
        refine FlowS.fin ?_
        refine To.as [box b20 [.slice none 0 0, .int .i64 w.now, .slice none 0 0, .int .i64 ((w.before : Nat) : Int), .slice Fa Fl.length qf] 44, rows encI 3 1 Fa qf Fl, ros encEn Br_2 (rofT (w.disk.take 16)), ros encEn Bo_2 (ofT (w.disk.take 16)), box b5 [.slice w.Av w.vars.length w.qv, .slice w.At w.tabs.length w.qt, .slice w.Ad w.disk.length w.qd, .slice w.Aa w.args.length w.qa, .int .i64 w.now, .int .u8 ((w.flags : Nat) : Int), .int .u8 ((w.before : Nat) : Int), .slice w.Af w.fail.length w.qf] 53, box b10 [.slice Ao O.length qo, .slice Ta T.length qa, .slice Bo_2 ((ofT (w.disk.take 16)).length) qo__2] 34, box b11 [.slice A53 O.length q53, .slice Tr R.length qr, .slice Br_2 ((rofT (w.disk.take 16)).length) qr__2] 57, box b12 [.slice none 0 0, .int .i64 w.now, .slice none 0 0, .int .i64 ((w.before : Nat) : Int), .slice Fa Fl.length qf] 44, box b13 [.slice none 0 0, .int .i64 w.now, .slice none 0 0, .int .i64 ((w.before : Nat) : Int), .slice Fa Fl.length qf] 58, ros encI w.Av w.vars, ros encEn w.At w.tabs, ros encEn w.Ad w.disk, ros encI w.Aa w.args, ros encY w.Af w.fail, box b14 [.slice Ao O.length qo, .slice Ta T.length qa, .slice Bo_2 ((ofT (w.disk.take 16)).length) qo__2] 34, box b15 [.slice A53 O.length q53, .slice Tr R.length qr, .slice Br_2 ((rofT (w.disk.take 16)).length) qr__2] 57, rows encI 2 1 Ao qo O, rows encI 2 1 A53 q53 O, rows Tb.cells 32 1 Ta qa T, rosS encEn (T.map Tb.ar), rows Tb.cells 55 1 Tr qr R, rosS encEn (R.map Tb.ar)] rfl ?_
        refine To.sub [(5, .pointer (some ⟨b5, 0, none⟩)), (10, .pointer (some ⟨b10, 0, none⟩)), (11, .pointer (some ⟨b11, 0, none⟩)), (12, .pointer (some ⟨b12, 0, none⟩)), (13, .pointer (some ⟨b13, 0, none⟩)), (14, .pointer (some ⟨b14, 0, none⟩)), (15, .pointer (some ⟨b15, 0, none⟩)), (20, .pointer (some ⟨b20, 0, none⟩)), (24, .int .i64 la), (25, .int .i64 ((k : Nat) : Int)), (141, .bool false)] ⟨rfl, rfl, rfl, rfl, rfl, rfl, rfl, rfl, rfl, rfl, rfl, trivial⟩ ?_
        refine To.thenN ?_
        refine To.ret ?_
        have hFl8 : Fl.length ≤ 8 := by omega
        refine To.endC4 (i1 := 5) (i2 := 6) (i3 := 7) (i4 := 8) [16, 17, 17, 3, 15, 15, 15, 2, 1] rfl (.inl rfl) Tryd.results7 rfl rfl r34 rfl rfl rfl r57 rfl rfl rfl r44 rfl rfl rfl r58 rfl ?_
        exact ⟨⟨Ao, qo, O, Ta, qa, T, ⟨Bo_2, qo__2, (ofT (w.disk.take 16))⟩⟩, ⟨A53, q53, O, Tr, qr, R, ⟨Br_2, qr__2, (rofT (w.disk.take 16))⟩⟩, Fa, qf, Fl, rfl, rfl, by unfold Sx.val stV; rw [hT, hO, hin], by unfold Sx.val stV; rw [hR, hO, hin, ← (rof_eq (w.disk.take 16)).1], hFl8⟩
end Go.Proofs.YtoehnbacbobhiaaDoor
