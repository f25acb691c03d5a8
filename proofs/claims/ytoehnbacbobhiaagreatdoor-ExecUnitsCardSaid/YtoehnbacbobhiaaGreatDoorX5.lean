/- A step of the machine (but for tables, sends and the disk). Own text (walks printed by sx.py). -/
import Derived.Test.YtoehnbacbobhiaaGreatDoorL1
import Derived.Test.YtoehnbacbobhiaaGreatDoorX4
set_option linter.unusedVariables false
set_option linter.unusedSimpArgs false
namespace Go.Proofs.YtoehnbacbobhiaaGreatDoor
open Go.RowKit Go.Flow Go.Mem Go.Sep
structure EfV where
  k : Int
  to : Int
  h : Int
  d : Int
  key : Int
  v : Int
  f : Bool
  args : List Int
deriving DecidableEq
def Ef.val (e : Ef) : EfV := ⟨e.k, e.to, e.h, e.d, e.key, e.v, e.f, e.args⟩
structure Dv where
  vars : List Int
  tabs : List (List (Int × Int))
  disk : List (Int × Int)
  effs : List EfV
  cost : Int
  stack : List Int
  next : Int
  sends : Int
  disks : Int
  fault : Bool
deriving DecidableEq
def Dm.val (d : Dm) : Dv := ⟨d.vars, d.tabs.map Tb.l, d.dk.l, d.effs.map Ef.val, d.cost, d.stack, d.next, d.sends, d.disks, d.fault⟩
def getT (l : List (Int × Int)) (k : Int) : Option Int := (l.find? fun e => decide (e.1 = k)).map Prod.snd
def putT : List (Int × Int) → Int → Int → List (Int × Int)
  | [], k, v => [(k, v)]
  | e :: r, k, v => if e.1 < k then e :: putT r k v else if e.1 = k then (k, v) :: r else (k, v) :: e :: r
def delT (l : List (Int × Int)) (k : Int) : List (Int × Int) := l.filter fun e => decide (e.1 ≠ k)
def putR (l : List (Int × Int)) (k v : Int) : List (Int × Int) := if (getT l k).isSome = true ∨ l.length < 16 then putT l k v else l
def sendV (i : Ins) (d : Dv) : Dv :=
  if d.sends = 8 then { d with fault := true } else
  let m := d.stack.length - i.n.toNat
  if (i.op : Int) = 31 then { d with sends := d.sends + 1, stack := (d.stack.take m).dropLast, effs := d.effs ++ [⟨2, i.a, i.b, (d.stack.take m).getLastD 0, 0, 0, false, d.stack.drop m⟩] }
  else { d with sends := d.sends + 1, stack := d.stack.take m, effs := d.effs ++ [⟨1, i.a, i.b, 0, 0, 0, false, d.stack.drop m⟩] }
def diskV (s : Sm) (i : Ins) (d : Dv) : Dv :=
  let bad := decide (s.dsk + d.disks ∈ s.fail)
  if (i.op : Int) = 32 then
    let v := d.stack.getLastD 0
    let k := d.stack.dropLast.getLastD 0
    { d with disks := d.disks + 1, stack := d.stack.dropLast.dropLast, next := if bad = true then i.b else d.next, disk := if bad = true then d.disk else putR d.disk k v, effs := d.effs ++ [⟨3, 0, 0, 0, k, v, bad, []⟩] }
  else
    let k := d.stack.getLastD 0
    let v := (getT d.disk k).getD 0
    if bad = true then { d with disks := d.disks + 1, stack := d.stack.dropLast, next := i.b, effs := d.effs ++ [⟨4, 0, 0, 0, k, 0, true, []⟩] }
    else { d with disks := d.disks + 1, stack := d.stack.dropLast, vars := d.vars.set i.a.toNat v, effs := d.effs ++ [⟨4, 0, 0, 0, k, v, false, []⟩] }
def tableV (i : Ins) (d : Dv) : Dv :=
  let t := d.tabs.getD i.a.toNat []
  if (i.op : Int) = 6 then { d with stack := d.stack.dropLast ++ [(getT t (d.stack.getLastD 0)).getD 0] } else
  if (i.op : Int) = 7 then { d with stack := d.stack.dropLast ++ [tru (getT t (d.stack.getLastD 0)).isSome] } else
  if (i.op : Int) = 8 then { d with stack := d.stack ++ [(t.length : Int)] } else
  if (i.op : Int) = 25 then { d with stack := d.stack.dropLast.dropLast, tabs := d.tabs.set i.a.toNat (putR t (d.stack.dropLast.getLastD 0) (d.stack.getLastD 0)) } else
  { d with stack := d.stack.dropLast, tabs := d.tabs.set i.a.toNat (delT t (d.stack.getLastD 0)) }
def stepV (s : Sm) (i : Ins) (d : Dv) : Dv :=
  if (i.op : Int) = 1 then { d with stack := d.stack ++ [i.n] } else
  if (i.op : Int) = 2 then { d with stack := d.stack ++ [d.vars.getD i.a.toNat 0] } else
  if (i.op : Int) = 3 then { d with stack := d.stack ++ [s.args.getD i.a.toNat 0] } else
  if (i.op : Int) = 4 then { d with stack := d.stack ++ [tru (s.flags.getD i.a.toNat false)] } else
  if (i.op : Int) = 5 then { d with stack := d.stack ++ [s.now] } else
  if (i.op : Int) = 9 ∨ (i.op : Int) = 10 then { d with stack := d.stack.dropLast ++ [unV i.op (d.stack.getLastD 0)] } else
  if (i.op : Int) = 24 then { d with stack := d.stack.dropLast, vars := d.vars.set i.a.toNat (d.stack.getLastD 0) } else
  if (i.op : Int) = 27 then { d with next := i.a } else
  if (i.op : Int) = 28 then { d with stack := d.stack.dropLast, next := if d.stack.getLastD 0 = 0 then i.a else d.next } else
  if (i.op : Int) = 29 then { d with fault := decide (d.cost = 200), cost := min (d.cost + 1) 200 } else
  if (i.op : Int) = 30 ∨ (i.op : Int) = 31 then sendV i d else
  if (i.op : Int) = 32 ∨ (i.op : Int) = 33 then diskV s i d else
  if (i.op : Int) = 34 then { d with next := s.code.length } else
  if (i.op : Int) = 6 ∨ (i.op : Int) = 7 ∨ (i.op : Int) = 8 ∨ (i.op : Int) = 25 ∨ (i.op : Int) = 26 then tableV i d else
  { d with stack := d.stack.dropLast.dropLast ++ [binV i.op (d.stack.dropLast.getLastD 0) (d.stack.getLastD 0)] }
def Dm.keeps (d' d : Dm) : Prop := d'.At = d.At ∧ d'.qt = d.qt ∧ d'.tabs = d.tabs ∧ d'.dk = d.dk ∧ d'.Ae = d.Ae ∧ d'.qe = d.qe ∧ d'.effs = d.effs
structure Fit (s : Sm) (i : Ins) (d : Dv) : Prop where
  var : (i.op : Int) = 2 ∨ (i.op : Int) = 24 ∨ (i.op : Int) = 33 → 0 ≤ i.a ∧ i.a < d.vars.length
  par : (i.op : Int) = 3 → 0 ≤ i.a ∧ i.a < s.args.length
  flag : (i.op : Int) = 4 → 0 ≤ i.a ∧ i.a < s.flags.length
  tab : (i.op : Int) = 6 ∨ (i.op : Int) = 7 ∨ (i.op : Int) = 8 ∨ (i.op : Int) = 25 ∨ (i.op : Int) = 26 → 0 ≤ i.a ∧ i.a < d.tabs.length
  sends : (i.op : Int) = 30 ∨ (i.op : Int) = 31 → 0 ≤ i.n ∧ i.n ≤ 4
  ops : 1 ≤ (i.op : Int) ∧ (i.op : Int) ≤ 34
  pops : popsN i ≤ d.stack.length
  height : d.stack.length ≤ 4001
  cost : 0 ≤ d.cost ∧ d.cost ≤ 200
theorem pops_of (i : Ins) : ((i.op : Int) = 9 ∨ (i.op : Int) = 10 ∨ (i.op : Int) = 24 ∨ (i.op : Int) = 28 ∨ (i.op : Int) = 6 ∨ (i.op : Int) = 7 ∨ (i.op : Int) = 26 ∨ (i.op : Int) = 33 → popsN i = 1) ∧ ((11 ≤ (i.op : Int) ∧ (i.op : Int) ≤ 23) ∨ (i.op : Int) = 25 ∨ (i.op : Int) = 32 → popsN i = 2) ∧ ((i.op : Int) = 30 → popsN i = i.n) ∧ ((i.op : Int) = 31 → popsN i = 1 + i.n) := by
  have key : ∀ o : Nat, o < 35 → ((o = 9 ∨ o = 10 ∨ o = 24 ∨ o = 28 ∨ o = 6 ∨ o = 7 ∨ o = 26 ∨ o = 33 → (rowOf o).pops = 1) ∧ ((11 ≤ o ∧ o ≤ 23) ∨ o = 25 ∨ o = 32 → (rowOf o).pops = 2)) ∧ (o = 30 → (rowOf o).pops = 0) ∧ (o = 31 → (rowOf o).pops = 1) := by decide
  have h := key i.op
  unfold popsN
  refine ⟨fun h1 => ?_, fun h1 => ?_, fun h1 => ?_, fun h1 => ?_⟩
  · rw [if_neg (by omega)]; exact ((h (by omega)).1.1 (by omega))
  · rw [if_neg (by omega)]; exact ((h (by omega)).1.2 (by omega))
  · rw [if_pos (by omega), (h (by omega)).2.1 (by omega)]; omega
  · rw [if_pos (by omega), (h (by omega)).2.2 (by omega)]
theorem oks_boxP {Γ : List Chunk} {b : Nat} {cs us : List Value} {t : TypeId} (i n : Nat) (h : Γ[i]? = some (box b cs t)) (hu : cs.take n = us) : ∀ w, oks Γ w → (ro (some ⟨b, 0, none⟩) us).holds w := fun w hw => by
  rw [← hu]
  exact .inr ⟨b, 0, rfl, range_take (range_of_whole (hw _ (List.mem_of_getElem? h)))⟩
set_option maxHeartbeats 2000000 in
set_option maxRecDepth 100000 in
theorem step0_fn (b : Nat) (s : Sm) (d : Dm) (x : Ins) (hf : Fit s x d.val) (hop : ((x.op : Nat) : Int) ≠ 6 ∧ ((x.op : Nat) : Int) ≠ 7 ∧ ((x.op : Nat) : Int) ≠ 8 ∧ ((x.op : Nat) : Int) ≠ 25 ∧ ((x.op : Nat) : Int) ≠ 26 ∧ ((x.op : Nat) : Int) ≠ 30 ∧ ((x.op : Nat) : Int) ≠ 31 ∧ ((x.op : Nat) : Int) ≠ 32 ∧ ((x.op : Nat) : Int) ≠ 33) :
    Does Tryz.prog 34 [.pointer (some ⟨b, 0, none⟩), .agg (Ins.cells x).toArray] [box b [.slice d.Av d.vars.length d.qv, .slice d.At d.tabs.length d.qt, .slice d.dk.A d.dk.l.length d.dk.q, .slice d.Ae d.effs.length d.qe, .int .i64 d.cost, .slice s.Ac s.code.length s.qc, .slice s.Aa s.args.length s.qa, .int .i64 s.now, .slice s.Ag s.flags.length s.qg, .int .i64 s.dsk, .slice s.Af s.fail.length s.qf, .slice d.As d.stack.length d.qs, .int .i64 d.next, .int .i64 d.sends, .int .i64 d.disks, .bool d.fault] 77, rows encI 2 1 d.Av d.qv d.vars, rows encI 2 1 d.As d.qs d.stack, ros encI s.Aa s.args, ros encB s.Ag s.flags] (fun v Γ' => v = .tuple #[] ∧ ∃ d', Γ' = [box b (mc s d') 77, rows encI 2 1 d'.Av d'.qv d'.vars, rows encI 2 1 d'.As d'.qs d'.stack] ∧ d'.keeps d ∧ d'.val = stepV s x d.val) := by
  have hvar : ((x.op : Nat) : Int) = 2 ∨ ((x.op : Nat) : Int) = 24 ∨ ((x.op : Nat) : Int) = 33 → 0 ≤ x.a ∧ x.a < ((d.vars.length : Nat) : Int) := hf.var
  have hht : d.stack.length ≤ 4001 := hf.height
  have hpp : popsN x ≤ ((d.stack.length : Nat) : Int) := hf.pops
  have hpo := pops_of x
  have hops := hf.ops
  have hcs : 0 ≤ d.cost ∧ d.cost ≤ 200 := hf.cost
  refine Does.enter Tryz.func34 rfl Tryz.ntmps34 rfl (fun w0 => ?_)
  refine To.seq (To.reg ?_)
  refine To.boxed rfl rfl rfl rfl rfl rfl (fun b3 => ?_)
  refine To.nil (To.thenN (To.seq (To.reg ?_)))
  refine To.f fl36_0 ?_
  refine To.lo 0 c34 ?_
  refine To.nil (To.thenN (To.block (To.seq (To.reg ?_))))
  refine To.r (Rd.eql rfl rfl rfl) ?_
  refine To.a (To.nil (To.thenN ?_))
  refine To.condP rfl (fun k25 => ?_) (fun k25 => ?_)
  ·
   refine To.reg (To.m ?_)
   refine To.f fl36_3 ?_
   refine To.lo 0 c2 ?_
   refine To.call [1, 2] rfl rfl rfl (Ent.fn rfl rfl ca63) rfl (push_fn b s d x.n (by first | omega | (simp only [List.length_append, List.length_dropLast, List.length_cons, List.length_nil]; omega))) ?_
   rintro _ _ ⟨rfl, As, qs, rfl⟩
   refine To.nil (To.blockN ?_)
   refine To.only [0, 2, 0] rfl ?_
   refine To.end0 (.inr rfl) Tryz.results34 ?_
   exact ⟨rfl, (⟨d.Av, d.qv, d.vars, d.At, d.qt, d.tabs, ⟨d.dk.A, d.dk.q, d.dk.l⟩, d.Ae, d.qe, d.effs, d.cost, As, qs, (d.stack ++ [x.n]), d.next, d.sends, d.disks, d.fault⟩ : Dm), rfl, ⟨rfl, rfl, rfl, rfl, rfl, rfl, rfl⟩, by first | (simp [stepV, Dm.val, -List.getLastD_eq_getLast?, k25]; done) | (simp [stepV, Dm.val, -List.getLastD_eq_getLast?, k25]; rfl)⟩
  refine To.seq (To.reg ?_)
  refine To.r (Rd.eql rfl rfl rfl) ?_
  refine To.a (To.nil (To.thenN ?_))
  refine To.condP rfl (fun k31 => ?_) (fun k31 => ?_)
  ·
   obtain ⟨ka, hka⟩ : ∃ ka : Nat, x.a = ((ka : Nat) : Int) := ⟨x.a.toNat, by have := hvar (by omega); omega⟩
   have hkl : ka < d.vars.length := by have := hvar (by omega); omega
   obtain ⟨y, hel⟩ : ∃ z0, d.vars[ka]? = some z0 := ⟨d.vars[ka]'(by omega), List.getElem?_eq_getElem _⟩
   have hgd : d.vars[x.a.toNat]? = some y := by rw [hka, Int.toNat_natCast]; exact hel
   refine To.flow [] [⟨0, [], 0⟩, ⟨1, [], 0⟩, ⟨2, [], 0⟩, ⟨3, [], 0⟩, ⟨4, [], 0⟩, ⟨5, [], 0⟩, ⟨7, [], 0⟩, ⟨6, [], 1⟩, ⟨8, [], 1⟩, ⟨9, [], 1⟩, ⟨10, [], 1⟩, ⟨11, [], 5⟩] mixed (by kernel_rfl) (oks_nil _) ?_
   refine FlowS.mo ?_
   refine FlowS.mo ?_
   refine FlowS.f rfl (Rd.nilCheck rfl rfl) ?_
   refine FlowS.fi fl77_0 ?_
   refine FlowS.fi fl56_0 ?_
   refine FlowS.fi fl42_0 ?_
   refine FlowS.fi fl36_1 ?_
   refine FlowS.lo 1 c24 ?_
   refine FlowS.lo 0 c3 ?_
   refine FlowS.r rfl (Rd.indexRowsI (i := 2) (j := ka) rfl rfl rfl hka s24 rfl hel) ?_
   refine FlowS.r rfl (Rd.load (i := 2) rfl rfl c2 rfl (gives_1 (rows_gives encI_ok hel) rfl)) ?_
   refine FlowS.call [1, 2] rfl rfl rfl rfl (Ent.fn rfl rfl ca63) rfl (push_fn b s d y (by first | omega | (simp only [List.length_append, List.length_dropLast, List.length_cons, List.length_nil]; omega))) ?_
   rintro _ _ ⟨rfl, As_2, qs_2, rfl⟩
   refine ⟨oks_nil _, ?_⟩
   refine FlowS.fin ?_
   refine To.blockN ?_
   refine To.only [0, 2, 0] rfl ?_
   refine To.end0 (.inr rfl) Tryz.results34 ?_
   exact ⟨rfl, (⟨d.Av, d.qv, d.vars, d.At, d.qt, d.tabs, ⟨d.dk.A, d.dk.q, d.dk.l⟩, d.Ae, d.qe, d.effs, d.cost, As_2, qs_2, (d.stack ++ [y]), d.next, d.sends, d.disks, d.fault⟩ : Dm), rfl, ⟨rfl, rfl, rfl, rfl, rfl, rfl, rfl⟩, by first | (simp [stepV, Dm.val, -List.getLastD_eq_getLast?, k31, hgd]; done) | (simp [stepV, Dm.val, -List.getLastD_eq_getLast?, k31, hgd]; rfl)⟩
  refine To.seq (To.reg ?_)
  refine To.r (Rd.eql rfl rfl rfl) ?_
  refine To.a (To.nil (To.thenN ?_))
  refine To.condP rfl (fun k45 => ?_) (fun k45 => ?_)
  ·
   obtain ⟨ka, hka⟩ : ∃ ka : Nat, x.a = ((ka : Nat) : Int) := ⟨x.a.toNat, by have := hf.par (by omega); omega⟩
   have hkl : ka < s.args.length := by have := hf.par (by omega); omega
   obtain ⟨y, hel⟩ : ∃ z0, s.args[ka]? = some z0 := ⟨s.args[ka]'(by omega), List.getElem?_eq_getElem _⟩
   have hgd : s.args[x.a.toNat]? = some y := by rw [hka, Int.toNat_natCast]; exact hel
   refine To.flow [] [⟨0, [], 0⟩, ⟨1, [], 0⟩, ⟨2, [], 0⟩, ⟨3, [], 0⟩, ⟨4, [], 0⟩, ⟨6, [], 0⟩, ⟨5, [], 1⟩, ⟨7, [], 1⟩, ⟨8, [], 1⟩, ⟨9, [], 1⟩, ⟨10, [], 5⟩] mixed (by kernel_rfl) (oks_nil _) ?_
   refine FlowS.mo ?_
   refine FlowS.mo ?_
   refine FlowS.f rfl (Rd.nilCheck rfl rfl) ?_
   refine FlowS.fi fl77_2 ?_
   refine FlowS.fi fl50_0 ?_
   refine FlowS.fi fl36_1 ?_
   refine FlowS.lo 1 c24 ?_
   refine FlowS.lo 0 c3 ?_
   refine FlowS.r rfl (Rd.indexRosI encI_ok (i := 4) (j := ka) rfl rfl rfl hka s24 rfl hel) ?_
   refine FlowS.r rfl (Rd.load (i := 4) rfl rfl c2 rfl (gives_1 (ros_gives encI_ok hel) rfl)) ?_
   refine FlowS.call [1, 2] rfl rfl rfl rfl (Ent.fn rfl rfl ca63) rfl (push_fn b s d y (by first | omega | (simp only [List.length_append, List.length_dropLast, List.length_cons, List.length_nil]; omega))) ?_
   rintro _ _ ⟨rfl, As_3, qs_3, rfl⟩
   refine ⟨oks_nil _, ?_⟩
   refine FlowS.fin ?_
   refine To.blockN ?_
   refine To.only [0, 2, 0] rfl ?_
   refine To.end0 (.inr rfl) Tryz.results34 ?_
   exact ⟨rfl, (⟨d.Av, d.qv, d.vars, d.At, d.qt, d.tabs, ⟨d.dk.A, d.dk.q, d.dk.l⟩, d.Ae, d.qe, d.effs, d.cost, As_3, qs_3, (d.stack ++ [y]), d.next, d.sends, d.disks, d.fault⟩ : Dm), rfl, ⟨rfl, rfl, rfl, rfl, rfl, rfl, rfl⟩, by first | (simp [stepV, Dm.val, -List.getLastD_eq_getLast?, k45, hgd]; done) | (simp [stepV, Dm.val, -List.getLastD_eq_getLast?, k45, hgd]; rfl)⟩
  refine To.seq (To.reg ?_)
  refine To.r (Rd.eql rfl rfl rfl) ?_
  refine To.a (To.nil (To.thenN ?_))
  refine To.condP rfl (fun k58 => ?_) (fun k58 => ?_)
  ·
   obtain ⟨ka, hka⟩ : ∃ ka : Nat, x.a = ((ka : Nat) : Int) := ⟨x.a.toNat, by have := hf.flag (by omega); omega⟩
   have hkl : ka < s.flags.length := by have := hf.flag (by omega); omega
   obtain ⟨y, hel⟩ : ∃ z0, s.flags[ka]? = some z0 := ⟨s.flags[ka]'(by omega), List.getElem?_eq_getElem _⟩
   have hgd : s.flags[x.a.toNat]? = some y := by rw [hka, Int.toNat_natCast]; exact hel
   refine To.flow [] [⟨0, [], 0⟩, ⟨1, [], 0⟩, ⟨2, [], 0⟩, ⟨3, [], 0⟩, ⟨4, [], 0⟩, ⟨6, [], 0⟩, ⟨5, [], 1⟩, ⟨7, [], 1⟩, ⟨8, [], 1⟩, ⟨9, [], 1⟩, ⟨10, [], 3⟩, ⟨11, [], 5⟩] mixed (by kernel_rfl) (oks_nil _) ?_
   refine FlowS.mo ?_
   refine FlowS.mo ?_
   refine FlowS.f rfl (Rd.nilCheck rfl rfl) ?_
   refine FlowS.fi fl77_2 ?_
   refine FlowS.fi fl50_2 ?_
   refine FlowS.fi fl36_1 ?_
   refine FlowS.lo 1 c47 ?_
   refine FlowS.lo 0 c3 ?_
   refine FlowS.r rfl (Rd.indexRosI encB_ok (i := 5) (j := ka) rfl rfl rfl hka s47 rfl hel) ?_
   refine FlowS.r rfl (Rd.load (i := 5) rfl rfl c4 rfl (gives_1 (ros_gives encB_ok hel) rfl)) ?_
   refine FlowS.callQ rfl rfl rfl rfl (Ent.fn rfl rfl ca64) (xtru_fn y) rfl (oks_nil _) ?_
   refine FlowS.call [1, 2] rfl rfl rfl rfl (Ent.fn rfl rfl ca63) rfl (push_fn b s d (tru y) (by first | omega | (simp only [List.length_append, List.length_dropLast, List.length_cons, List.length_nil]; omega))) ?_
   rintro _ _ ⟨rfl, As_4, qs_4, rfl⟩
   refine ⟨oks_nil _, ?_⟩
   refine FlowS.fin ?_
   refine To.blockN ?_
   refine To.only [0, 2, 0] rfl ?_
   refine To.end0 (.inr rfl) Tryz.results34 ?_
   exact ⟨rfl, (⟨d.Av, d.qv, d.vars, d.At, d.qt, d.tabs, ⟨d.dk.A, d.dk.q, d.dk.l⟩, d.Ae, d.qe, d.effs, d.cost, As_4, qs_4, (d.stack ++ [tru y]), d.next, d.sends, d.disks, d.fault⟩ : Dm), rfl, ⟨rfl, rfl, rfl, rfl, rfl, rfl, rfl⟩, by first | (simp [stepV, Dm.val, -List.getLastD_eq_getLast?, k58, hgd]; done) | (simp [stepV, Dm.val, -List.getLastD_eq_getLast?, k58, hgd]; rfl)⟩
  refine To.seq (To.reg ?_)
  refine To.r (Rd.eql rfl rfl rfl) ?_
  refine To.a (To.nil (To.thenN ?_))
  refine To.condP rfl (fun k72 => ?_) (fun k72 => ?_)
  ·
   refine To.reg (To.m ?_)
   refine To.m ?_
   refine To.r (Rd.nilCheck rfl rfl) ?_
   refine To.f fl77_2 ?_
   refine To.f fl50_1 ?_
   refine To.lo 1 c2 ?_
   refine To.call [1, 2] rfl rfl rfl (Ent.fn rfl rfl ca63) rfl (push_fn b s d s.now (by first | omega | (simp only [List.length_append, List.length_dropLast, List.length_cons, List.length_nil]; omega))) ?_
   rintro _ _ ⟨rfl, As_5, qs_5, rfl⟩
   refine To.nil (To.blockN ?_)
   refine To.only [0, 2, 0] rfl ?_
   refine To.end0 (.inr rfl) Tryz.results34 ?_
   exact ⟨rfl, (⟨d.Av, d.qv, d.vars, d.At, d.qt, d.tabs, ⟨d.dk.A, d.dk.q, d.dk.l⟩, d.Ae, d.qe, d.effs, d.cost, As_5, qs_5, (d.stack ++ [s.now]), d.next, d.sends, d.disks, d.fault⟩ : Dm), rfl, ⟨rfl, rfl, rfl, rfl, rfl, rfl, rfl⟩, by first | (simp [stepV, Dm.val, -List.getLastD_eq_getLast?, k72]; done) | (simp [stepV, Dm.val, -List.getLastD_eq_getLast?, k72]; rfl)⟩
  refine To.seq (To.seq (To.reg ?_))
  refine To.r (Rd.eql rfl rfl rfl) ?_
  refine To.a (To.nil (To.thenN ?_))
  refine To.condP rfl (fun k81 => ?_) (fun k81 => ?_)
  ·
   refine To.skip (To.thenN ?_)
   refine To.condT (congrArg (fun b => some (Value.bool b)) (decide_eq_true k81)) ?_
   refine To.seq ?_
   refine To.flow [box b3 [.int .u8 ((x.op : Nat) : Int), .int .i64 x.a, .int .i64 x.b, .int .i64 x.n] 36] [⟨0, [], 0⟩, ⟨1, [], 0⟩, ⟨2, [], 0⟩, ⟨3, [], 5⟩, ⟨4, [], 3⟩, ⟨5, [], 0⟩, ⟨6, [], 0⟩, ⟨7, [], 0⟩, ⟨8, [], 0⟩, ⟨9, [], 0⟩] mixed (by kernel_rfl) (oks_cons (oks_at 0 rfl) (oks_nil _)) ?_
   refine FlowS.fi fl36_0 ?_
   refine FlowS.th 0 c34 ?_
   refine FlowS.mo ?_
   refine FlowS.call [1, 2] rfl rfl rfl rfl (Ent.fn rfl rfl ca66) rfl (pop_fn b s d (by first | omega | (simp only [List.length_append, List.length_dropLast, List.length_cons, List.length_nil]; omega))) ?_
   rintro _ _ ⟨rfl, rfl⟩
   refine ⟨oks_cons (oks_at 2 rfl) (oks_nil _), ?_⟩
   refine FlowS.callQ rfl rfl rfl rfl (Ent.fn rfl rfl ca65) (un_fn ((x.op : Nat) : Int) (d.stack.getLastD 0)) rfl (oks_nil _) ?_
   refine FlowS.mo ?_
   refine FlowS.f rfl (Rd.extract rfl rfl rfl) ?_
   refine FlowS.f rfl (Rd.extract rfl rfl rfl) ?_
   refine FlowS.f rfl (Rd.assign rfl rfl) ?_
   refine FlowS.f rfl (Rd.assign rfl rfl) ?_
   refine FlowS.fin ?_
   refine To.thenN (To.reg (To.m ?_))
   refine To.m ?_
   refine To.call [0, 0] rfl rfl rfl (Ent.fn rfl rfl ca63) rfl (push_fn b s (⟨d.Av, d.qv, d.vars, d.At, d.qt, d.tabs, ⟨d.dk.A, d.dk.q, d.dk.l⟩, d.Ae, d.qe, d.effs, d.cost, d.As, d.qs, (d.stack.dropLast), d.next, d.sends, d.disks, d.fault⟩ : Dm) (unV ((x.op : Nat) : Int) (d.stack.getLastD 0)) (by first | omega | (simp only [List.length_append, List.length_dropLast, List.length_cons, List.length_nil]; omega))) ?_
   rintro _ _ ⟨rfl, As_6, qs_6, rfl⟩
   refine To.nil (To.blockN ?_)
   refine To.only [0, 2, 0] rfl ?_
   refine To.end0 (.inr rfl) Tryz.results34 ?_
   exact ⟨rfl, (⟨d.Av, d.qv, d.vars, d.At, d.qt, d.tabs, ⟨d.dk.A, d.dk.q, d.dk.l⟩, d.Ae, d.qe, d.effs, d.cost, As_6, qs_6, ((d.stack.dropLast) ++ [unV ((x.op : Nat) : Int) (d.stack.getLastD 0)]), d.next, d.sends, d.disks, d.fault⟩ : Dm), rfl, ⟨rfl, rfl, rfl, rfl, rfl, rfl, rfl⟩, by first | (simp [stepV, Dm.val, -List.getLastD_eq_getLast?, k81]; done) | (simp [stepV, Dm.val, -List.getLastD_eq_getLast?, k81]; rfl)⟩
  refine To.reg ?_
  refine To.r (Rd.eql rfl rfl rfl) ?_
  refine To.a (To.nil (To.thenN ?_))
  refine To.condP rfl (fun k81_2 => ?_) (fun k81_2 => ?_)
  ·
   refine To.seq ?_
   refine To.flow [box b3 [.int .u8 ((x.op : Nat) : Int), .int .i64 x.a, .int .i64 x.b, .int .i64 x.n] 36] [⟨0, [], 0⟩, ⟨1, [], 0⟩, ⟨2, [], 0⟩, ⟨3, [], 5⟩, ⟨4, [], 3⟩, ⟨5, [], 0⟩, ⟨6, [], 0⟩, ⟨7, [], 0⟩, ⟨8, [], 0⟩, ⟨9, [], 0⟩] mixed (by kernel_rfl) (oks_cons (oks_at 0 rfl) (oks_nil _)) ?_
   refine FlowS.fi fl36_0 ?_
   refine FlowS.th 0 c34 ?_
   refine FlowS.mo ?_
   refine FlowS.call [1, 2] rfl rfl rfl rfl (Ent.fn rfl rfl ca66) rfl (pop_fn b s d (by first | omega | (simp only [List.length_append, List.length_dropLast, List.length_cons, List.length_nil]; omega))) ?_
   rintro _ _ ⟨rfl, rfl⟩
   refine ⟨oks_cons (oks_at 2 rfl) (oks_nil _), ?_⟩
   refine FlowS.callQ rfl rfl rfl rfl (Ent.fn rfl rfl ca65) (un_fn ((x.op : Nat) : Int) (d.stack.getLastD 0)) rfl (oks_nil _) ?_
   refine FlowS.mo ?_
   refine FlowS.f rfl (Rd.extract rfl rfl rfl) ?_
   refine FlowS.f rfl (Rd.extract rfl rfl rfl) ?_
   refine FlowS.f rfl (Rd.assign rfl rfl) ?_
   refine FlowS.f rfl (Rd.assign rfl rfl) ?_
   refine FlowS.fin ?_
   refine To.thenN (To.reg (To.m ?_))
   refine To.m ?_
   refine To.call [0, 0] rfl rfl rfl (Ent.fn rfl rfl ca63) rfl (push_fn b s (⟨d.Av, d.qv, d.vars, d.At, d.qt, d.tabs, ⟨d.dk.A, d.dk.q, d.dk.l⟩, d.Ae, d.qe, d.effs, d.cost, d.As, d.qs, (d.stack.dropLast), d.next, d.sends, d.disks, d.fault⟩ : Dm) (unV ((x.op : Nat) : Int) (d.stack.getLastD 0)) (by first | omega | (simp only [List.length_append, List.length_dropLast, List.length_cons, List.length_nil]; omega))) ?_
   rintro _ _ ⟨rfl, As_7, qs_7, rfl⟩
   refine To.nil (To.blockN ?_)
   refine To.only [0, 2, 0] rfl ?_
   refine To.end0 (.inr rfl) Tryz.results34 ?_
   exact ⟨rfl, (⟨d.Av, d.qv, d.vars, d.At, d.qt, d.tabs, ⟨d.dk.A, d.dk.q, d.dk.l⟩, d.Ae, d.qe, d.effs, d.cost, As_7, qs_7, ((d.stack.dropLast) ++ [unV ((x.op : Nat) : Int) (d.stack.getLastD 0)]), d.next, d.sends, d.disks, d.fault⟩ : Dm), rfl, ⟨rfl, rfl, rfl, rfl, rfl, rfl, rfl⟩, by first | (simp [stepV, Dm.val, -List.getLastD_eq_getLast?, k81_2]; done) | (simp [stepV, Dm.val, -List.getLastD_eq_getLast?, k81_2]; rfl)⟩
  refine To.seq (To.reg ?_)
  refine To.r (Rd.eql rfl rfl rfl) ?_
  refine To.a (To.nil (To.thenN ?_))
  refine To.condP rfl (fun k95 => ?_) (fun k95 => ?_)
  ·
   obtain ⟨ka, hka⟩ : ∃ ka : Nat, x.a = ((ka : Nat) : Int) := ⟨x.a.toNat, by have := hvar (by omega); omega⟩
   have hkl : ka < d.vars.length := by have := hvar (by omega); omega
   obtain ⟨y, hel⟩ : ∃ z0, d.vars[ka]? = some z0 := ⟨d.vars[ka]'(by omega), List.getElem?_eq_getElem _⟩
   have hgd : d.vars[x.a.toNat]? = some y := by rw [hka, Int.toNat_natCast]; exact hel
   have hst : 0 < d.stack.length := by omega
   refine To.know (p := d.Av = some ⟨blk d.Av, ofs d.Av, none⟩) (fun w hw => rows_some encI_ok (by decide) (l := d.vars) (by omega) 2 rfl hw) (fun hAv => ?_)
   refine To.flow [box b3 [.int .u8 ((x.op : Nat) : Int), .int .i64 x.a, .int .i64 x.b, .int .i64 x.n] 36, ro (some ⟨b, 0, none⟩) [.slice d.Av d.vars.length d.qv, .slice d.At d.tabs.length d.qt, .slice d.dk.A d.dk.l.length d.dk.q, .slice d.Ae d.effs.length d.qe, .int .i64 d.cost, .slice s.Ac s.code.length s.qc, .slice s.Aa s.args.length s.qa, .int .i64 s.now, .slice s.Ag s.flags.length s.qg, .int .i64 s.dsk, .slice s.Af s.fail.length s.qf]] [⟨0, [], 0⟩, ⟨1, [], 0⟩, ⟨2, [], 0⟩, ⟨3, [], 0⟩, ⟨4, [], 0⟩, ⟨5, [], 0⟩, ⟨6, [], 0⟩, ⟨7, [], 0⟩, ⟨8, [], 0⟩, ⟨9, [], 5⟩, ⟨10, [], 0⟩, ⟨11, [], 5⟩] mixed (by kernel_rfl) (oks_cons (oks_at 0 rfl) (oks_cons (oks_boxP 1 11 rfl rfl) (oks_nil _))) ?_
   refine FlowS.mo ?_
   refine FlowS.f rfl (Rd.nilCheck rfl rfl) ?_
   refine FlowS.fi fl77_0 ?_
   refine FlowS.fi fl56_0 ?_
   refine FlowS.fi fl42_0 ?_
   refine FlowS.f rfl (Rd.load (i := 1) rfl rfl c24 rfl (ro_gives (A := some ⟨b, 0, none⟩) (o := 0) (k := 1) rfl)) ?_
   refine FlowS.fi fl36_1 ?_
   refine FlowS.th 0 c3 ?_
   refine FlowS.mo ?_
   refine FlowS.call [1, 2] rfl rfl rfl rfl (Ent.fn rfl rfl ca66) rfl (pop_fn b s d (by first | omega | (simp only [List.length_append, List.length_dropLast, List.length_cons, List.length_nil]; omega))) ?_
   rintro _ _ ⟨rfl, rfl⟩
   refine ⟨oks_cons (oks_at 2 rfl) (oks_cons (oks_boxP 0 11 rfl rfl) (oks_nil _)), ?_⟩
   refine FlowS.f rfl (Rd.as (v' := .pointer (some ⟨blk d.Av, ofs d.Av + ka * 1, none⟩)) rfl (Rd.indexS (j := ka) hAv rfl rfl (by rw [← hka]; rfl) s24 hkl)) ?_
   refine FlowS.up rfl rfl rfl (Up.store (i := 3) rfl rfl rfl c2 rfl rfl (rows_takes encI_ok (y := (d.stack.getLastD 0)) (by decide) (by omega))) (oks_cons (oks_at 2 rfl) (oks_cons (oks_boxP 0 11 rfl rfl) (oks_nil _))) ?_
   refine FlowS.fin ?_
   refine To.blockN ?_
   refine To.as [box b [.slice d.Av ((d.vars.set ka (d.stack.getLastD 0)).length) d.qv, .slice d.At d.tabs.length d.qt, .slice d.dk.A d.dk.l.length d.dk.q, .slice d.Ae d.effs.length d.qe, .int .i64 d.cost, .slice s.Ac s.code.length s.qc, .slice s.Aa s.args.length s.qa, .int .i64 s.now, .slice s.Ag s.flags.length s.qg, .int .i64 s.dsk, .slice s.Af s.fail.length s.qf, .slice d.As ((d.stack.dropLast).length) d.qs, .int .i64 d.next, .int .i64 d.sends, .int .i64 d.disks, .bool d.fault] 77, rows encI 2 1 d.As d.qs (d.stack.dropLast), box b3 [.int .u8 ((x.op : Nat) : Int), .int .i64 x.a, .int .i64 x.b, .int .i64 x.n] 36, rows encI 2 1 d.Av d.qv (d.vars.set ka (d.stack.getLastD 0)), ros encI s.Aa s.args, ros encB s.Ag s.flags] (by rw [List.length_set] <;> rfl) ?_
   refine To.only [0, 2, 0] rfl ?_
   refine To.end0 (.inr rfl) Tryz.results34 ?_
   exact ⟨rfl, (⟨d.Av, d.qv, (d.vars.set ka (d.stack.getLastD 0)), d.At, d.qt, d.tabs, ⟨d.dk.A, d.dk.q, d.dk.l⟩, d.Ae, d.qe, d.effs, d.cost, d.As, d.qs, (d.stack.dropLast), d.next, d.sends, d.disks, d.fault⟩ : Dm), rfl, ⟨rfl, rfl, rfl, rfl, rfl, rfl, rfl⟩, by first | (simp [stepV, Dm.val, -List.getLastD_eq_getLast?, k95, hka]; done) | (simp [stepV, Dm.val, -List.getLastD_eq_getLast?, k95, hka]; rfl)⟩
  refine To.seq (To.reg ?_)
  refine To.r (Rd.eql rfl rfl rfl) ?_
  refine To.a (To.nil (To.thenN ?_))
  refine To.condP rfl (fun k108 => ?_) (fun k108 => ?_)
  ·
   refine To.reg (To.m ?_)
   refine To.f fl36_1 ?_
   refine To.lo 0 c3 ?_
   refine To.r (Rd.nilCheck rfl rfl) ?_
   refine To.f fl77_4 ?_
   refine To.u (Up.store (i := 1) rfl rfl rfl c3 rfl rfl (box_takes1 rfl)) ?_
   refine To.nil (To.blockN ?_)
   refine To.only [1, 1, 1] rfl ?_
   refine To.end0 (.inr rfl) Tryz.results34 ?_
   exact ⟨rfl, (⟨d.Av, d.qv, d.vars, d.At, d.qt, d.tabs, ⟨d.dk.A, d.dk.q, d.dk.l⟩, d.Ae, d.qe, d.effs, d.cost, d.As, d.qs, d.stack, x.a, d.sends, d.disks, d.fault⟩ : Dm), rfl, ⟨rfl, rfl, rfl, rfl, rfl, rfl, rfl⟩, by first | (simp [stepV, Dm.val, -List.getLastD_eq_getLast?, k108]; done) | (simp [stepV, Dm.val, -List.getLastD_eq_getLast?, k108]; rfl)⟩
  refine To.seq (To.reg ?_)
  refine To.r (Rd.eql rfl rfl rfl) ?_
  refine To.a (To.nil (To.thenN ?_))
  refine To.condP rfl (fun k115 => ?_) (fun k115 => ?_)
  ·
   refine To.seq (To.reg (To.m ?_))
   refine To.call [1, 2] rfl rfl rfl (Ent.fn rfl rfl ca66) rfl (pop_fn b s d (by first | omega | (simp only [List.length_append, List.length_dropLast, List.length_cons, List.length_nil]; omega))) ?_
   rintro _ _ ⟨rfl, rfl⟩
   refine To.r (Rd.eql rfl rfl rfl) ?_
   refine To.nil (To.thenN ?_)
   refine To.condP rfl (fun k119 => ?_) (fun k119 => ?_)
   ·
    refine To.reg (To.m ?_)
    refine To.f fl36_1 ?_
    refine To.lo 2 c3 ?_
    refine To.r (Rd.nilCheck rfl rfl) ?_
    refine To.f fl77_4 ?_
    refine To.u (Up.store (i := 0) rfl rfl rfl c3 rfl rfl (box_takes1 rfl)) ?_
    refine To.nil (To.blockN ?_)
    refine To.only [0, 2, 0] rfl ?_
    refine To.end0 (.inr rfl) Tryz.results34 ?_
    exact ⟨rfl, (⟨d.Av, d.qv, d.vars, d.At, d.qt, d.tabs, ⟨d.dk.A, d.dk.q, d.dk.l⟩, d.Ae, d.qe, d.effs, d.cost, d.As, d.qs, (d.stack.dropLast), x.a, d.sends, d.disks, d.fault⟩ : Dm), rfl, ⟨rfl, rfl, rfl, rfl, rfl, rfl, rfl⟩, by first | (simp [stepV, Dm.val, -List.getLastD_eq_getLast?, k115, k119]; done) | (simp [stepV, Dm.val, -List.getLastD_eq_getLast?, k115, k119]; rfl)⟩
   refine To.skip (To.blockN ?_)
   refine To.only [0, 2, 0] rfl ?_
   refine To.end0 (.inr rfl) Tryz.results34 ?_
   exact ⟨rfl, (⟨d.Av, d.qv, d.vars, d.At, d.qt, d.tabs, ⟨d.dk.A, d.dk.q, d.dk.l⟩, d.Ae, d.qe, d.effs, d.cost, d.As, d.qs, (d.stack.dropLast), d.next, d.sends, d.disks, d.fault⟩ : Dm), rfl, ⟨rfl, rfl, rfl, rfl, rfl, rfl, rfl⟩, by first | (simp [stepV, Dm.val, -List.getLastD_eq_getLast?, k115, k119]; done) | (simp [stepV, Dm.val, -List.getLastD_eq_getLast?, k115, k119]; rfl)⟩
  refine To.seq (To.reg ?_)
  refine To.r (Rd.eql rfl rfl rfl) ?_
  refine To.a (To.nil (To.thenN ?_))
  refine To.condP rfl (fun k125 => ?_) (fun k125 => ?_)
  ·
   refine To.seq (To.reg (To.m ?_))
   refine To.m ?_
   refine To.r (Rd.nilCheck rfl rfl) ?_
   refine To.f fl77_0 ?_
   refine To.f fl56_2 ?_
   refine To.lo 1 c3 ?_
   refine To.r (Rd.eql rfl rfl rfl) ?_
   refine To.r (Rd.nilCheck rfl rfl) ?_
   refine To.f fl77_7 ?_
   refine To.u (Up.store (i := 1) rfl rfl rfl c4 rfl rfl (box_takes1 rfl)) ?_
   refine To.nil (To.thenN (To.reg (To.m ?_)))
   refine To.m ?_
   refine To.r (Rd.nilCheck rfl rfl) ?_
   refine To.f fl77_0 ?_
   refine To.f fl56_2 ?_
   refine To.lo 1 c3 ?_
   refine To.r (Rd.add64 rfl rfl rfl (by omega)) ?_
   refine To.r (Rd.min rfl rfl rfl) ?_
   refine To.r (Rd.nilCheck rfl rfl) ?_
   refine To.f fl77_0 ?_
   refine To.f fl56_2 ?_
   refine To.u (Up.store (i := 1) rfl rfl rfl c3 rfl rfl (box_takes1 rfl)) ?_
   refine To.nil (To.blockN ?_)
   refine To.only [1, 1, 1] rfl ?_
   refine To.end0 (.inr rfl) Tryz.results34 ?_
   exact ⟨rfl, (⟨d.Av, d.qv, d.vars, d.At, d.qt, d.tabs, ⟨d.dk.A, d.dk.q, d.dk.l⟩, d.Ae, d.qe, d.effs, min (d.cost + 1) 200, d.As, d.qs, d.stack, d.next, d.sends, d.disks, decide (d.cost = 200)⟩ : Dm), rfl, ⟨rfl, rfl, rfl, rfl, rfl, rfl, rfl⟩, by first | (simp [stepV, Dm.val, -List.getLastD_eq_getLast?, k125]; done) | (simp [stepV, Dm.val, -List.getLastD_eq_getLast?, k125]; rfl)⟩
  refine To.seq (To.seq (To.reg ?_))
  refine To.r (Rd.eql rfl rfl rfl) ?_
  refine To.a (To.nil (To.thenN ?_))
  refine To.condP rfl (fun k147 => ?_) (fun k147 => ?_)
  ·
   exfalso; omega
  refine To.reg ?_
  refine To.r (Rd.eql rfl rfl rfl) ?_
  refine To.a (To.nil (To.thenN ?_))
  refine To.condP rfl (fun k147_2 => ?_) (fun k147_2 => ?_)
  ·
   exfalso; omega
  refine To.seq (To.seq (To.reg ?_))
  refine To.r (Rd.eql rfl rfl rfl) ?_
  refine To.a (To.nil (To.thenN ?_))
  refine To.condP rfl (fun k153 => ?_) (fun k153 => ?_)
  ·
   exfalso; omega
  refine To.reg ?_
  refine To.r (Rd.eql rfl rfl rfl) ?_
  refine To.a (To.nil (To.thenN ?_))
  refine To.condP rfl (fun k153_2 => ?_) (fun k153_2 => ?_)
  ·
   exfalso; omega
  refine To.seq (To.reg ?_)
  refine To.r (Rd.eql rfl rfl rfl) ?_
  refine To.a (To.nil (To.thenN ?_))
  refine To.condP rfl (fun k159 => ?_) (fun k159 => ?_)
  ·
   refine To.reg (To.m ?_)
   refine To.m ?_
   refine To.r (Rd.nilCheck rfl rfl) ?_
   refine To.f fl77_1 ?_
   refine To.lo 1 c29 ?_
   refine To.r (Rd.len rfl rfl Tryz.underlying29) ?_
   refine To.r (Rd.nilCheck rfl rfl) ?_
   refine To.f fl77_4 ?_
   refine To.u (Up.store (i := 1) rfl rfl rfl c3 rfl rfl (box_takes1 rfl)) ?_
   refine To.nil (To.blockN ?_)
   refine To.only [1, 1, 1] rfl ?_
   refine To.end0 (.inr rfl) Tryz.results34 ?_
   exact ⟨rfl, (⟨d.Av, d.qv, d.vars, d.At, d.qt, d.tabs, ⟨d.dk.A, d.dk.q, d.dk.l⟩, d.Ae, d.qe, d.effs, d.cost, d.As, d.qs, d.stack, ((s.code.length : Nat) : Int), d.sends, d.disks, d.fault⟩ : Dm), rfl, ⟨rfl, rfl, rfl, rfl, rfl, rfl, rfl⟩, by first | (simp [stepV, Dm.val, -List.getLastD_eq_getLast?, k159]; done) | (simp [stepV, Dm.val, -List.getLastD_eq_getLast?, k159]; rfl)⟩
  refine To.seq (To.seq (To.reg ?_))
  refine To.r (Rd.eql rfl rfl rfl) ?_
  refine To.a (To.nil (To.thenN ?_))
  refine To.condP rfl (fun k169 => ?_) (fun k169 => ?_)
  ·
   exfalso; omega
  refine To.seq (To.reg ?_)
  refine To.r (Rd.eql rfl rfl rfl) ?_
  refine To.a (To.nil (To.thenN ?_))
  refine To.condP rfl (fun k169_2 => ?_) (fun k169_2 => ?_)
  ·
   exfalso; omega
  refine To.seq (To.reg ?_)
  refine To.r (Rd.eql rfl rfl rfl) ?_
  refine To.a (To.nil (To.thenN ?_))
  refine To.condP rfl (fun k169_3 => ?_) (fun k169_3 => ?_)
  ·
   exfalso; omega
  refine To.seq (To.reg ?_)
  refine To.r (Rd.eql rfl rfl rfl) ?_
  refine To.a (To.nil (To.thenN ?_))
  refine To.condP rfl (fun k169_4 => ?_) (fun k169_4 => ?_)
  ·
   exfalso; omega
  refine To.reg ?_
  refine To.r (Rd.eql rfl rfl rfl) ?_
  refine To.a (To.nil (To.thenN ?_))
  refine To.condP rfl (fun k169_5 => ?_) (fun k169_5 => ?_)
  ·
   exfalso; omega
  refine To.seq (To.reg (To.m ?_))
  refine To.call [1, 2] rfl rfl rfl (Ent.fn rfl rfl ca66) rfl (pop_fn b s d (by first | omega | (simp only [List.length_append, List.length_dropLast, List.length_cons, List.length_nil]; omega))) ?_
  rintro _ _ ⟨rfl, rfl⟩
  refine To.a (To.nil (To.thenN (To.seq ?_)))
  refine To.flow [box b3 [.int .u8 ((x.op : Nat) : Int), .int .i64 x.a, .int .i64 x.b, .int .i64 x.n] 36] [⟨0, [], 0⟩, ⟨1, [], 0⟩, ⟨2, [], 0⟩, ⟨4, [], 0⟩, ⟨3, [], 5⟩, ⟨5, [], 3⟩, ⟨6, [], 0⟩, ⟨7, [], 0⟩, ⟨8, [], 0⟩, ⟨9, [], 0⟩, ⟨10, [], 0⟩] mixed (by kernel_rfl) (oks_cons (oks_at 2 rfl) (oks_nil _)) ?_
  refine FlowS.fi fl36_0 ?_
  refine FlowS.th 0 c34 ?_
  refine FlowS.mo ?_
  refine FlowS.mo ?_
  refine FlowS.call [0, 0] rfl rfl rfl rfl (Ent.fn rfl rfl ca66) rfl (pop_fn b s (⟨d.Av, d.qv, d.vars, d.At, d.qt, d.tabs, ⟨d.dk.A, d.dk.q, d.dk.l⟩, d.Ae, d.qe, d.effs, d.cost, d.As, d.qs, (d.stack.dropLast), d.next, d.sends, d.disks, d.fault⟩ : Dm) (by first | omega | (simp only [List.length_append, List.length_dropLast, List.length_cons, List.length_nil]; omega))) ?_
  rintro _ _ ⟨rfl, rfl⟩
  refine ⟨oks_cons (oks_at 2 rfl) (oks_nil _), ?_⟩
  refine FlowS.callQ rfl rfl rfl rfl (Ent.fn rfl rfl ca70) (bin_fn ((x.op : Nat) : Int) ((d.stack.dropLast).getLastD 0) (d.stack.getLastD 0)) rfl (oks_nil _) ?_
  refine FlowS.mo ?_
  refine FlowS.f rfl (Rd.extract rfl rfl rfl) ?_
  refine FlowS.f rfl (Rd.extract rfl rfl rfl) ?_
  refine FlowS.f rfl (Rd.assign rfl rfl) ?_
  refine FlowS.f rfl (Rd.assign rfl rfl) ?_
  refine FlowS.fin ?_
  refine To.thenN (To.reg (To.m ?_))
  refine To.m ?_
  refine To.call [0, 0] rfl rfl rfl (Ent.fn rfl rfl ca63) rfl (push_fn b s (⟨d.Av, d.qv, d.vars, d.At, d.qt, d.tabs, ⟨d.dk.A, d.dk.q, d.dk.l⟩, d.Ae, d.qe, d.effs, d.cost, d.As, d.qs, ((d.stack.dropLast).dropLast), d.next, d.sends, d.disks, d.fault⟩ : Dm) (binV ((x.op : Nat) : Int) ((d.stack.dropLast).getLastD 0) (d.stack.getLastD 0)) (by first | omega | (simp only [List.length_append, List.length_dropLast, List.length_cons, List.length_nil]; omega))) ?_
  rintro _ _ ⟨rfl, As_8, qs_8, rfl⟩
  refine To.nil (To.blockN ?_)
  refine To.only [0, 2, 0] rfl ?_
  refine To.end0 (.inr rfl) Tryz.results34 ?_
  exact ⟨rfl, (⟨d.Av, d.qv, d.vars, d.At, d.qt, d.tabs, ⟨d.dk.A, d.dk.q, d.dk.l⟩, d.Ae, d.qe, d.effs, d.cost, As_8, qs_8, (((d.stack.dropLast).dropLast) ++ [binV ((x.op : Nat) : Int) ((d.stack.dropLast).getLastD 0) (d.stack.getLastD 0)]), d.next, d.sends, d.disks, d.fault⟩ : Dm), rfl, ⟨rfl, rfl, rfl, rfl, rfl, rfl, rfl⟩, by first | (simp [stepV, Dm.val, -List.getLastD_eq_getLast?, k25, k31, k45, k58, k72, k81, k81_2, k95, k108, k115, k125, k147, k147_2, k153, k153_2, k159, k169, k169_2, k169_3, k169_4, k169_5]; done) | (simp [stepV, Dm.val, -List.getLastD_eq_getLast?, k25, k31, k45, k58, k72, k81, k81_2, k95, k108, k115, k125, k147, k147_2, k153, k153_2, k159, k169, k169_2, k169_3, k169_4, k169_5]; rfl)⟩
end Go.Proofs.YtoehnbacbobhiaaGreatDoor
