/- The table of the operations, and the form of an instruction. Own text (walks printed by sx.py). -/
import Derived.Test.YtllalpnmagpkfaaGreatDoorC1
set_option linter.unusedVariables false
set_option linter.unusedSimpArgs false
set_option maxHeartbeats 2000000
set_option maxRecDepth 100000
namespace Go.Proofs.YtllalpnmagpkfaaGreatDoor
open Go.RowKit Go.Flow Go.Mem Go.Sep
structure Rw where
 text : ByteArray
 uses : ByteArray
 pops : Int
 pushes : Int
def Rw.cells (e : Rw) : List Value := [.string e.text, .string e.uses, .int .i64 e.pops, .int .i64 e.pushes]
theorem encRw : Enc Rw.cells 4 := ⟨fun _ => rfl, fun e u hu => by
 simp only [Rw.cells, List.mem_cons, List.not_mem_nil, or_false] at hu
 rcases hu with rfl | rfl | rfl | rfl <;> rfl⟩
def rowTab : List Rw := [⟨⟨#[]⟩, ⟨#[]⟩, 0, 0⟩, ⟨⟨#[99, 111, 110, 115, 116]⟩, ⟨#[78]⟩, 0, 1⟩, ⟨⟨#[118, 97, 114]⟩, ⟨#[65]⟩, 0, 1⟩, ⟨⟨#[112, 97, 114, 97, 109]⟩, ⟨#[65]⟩, 0, 1⟩, ⟨⟨#[102, 108, 97, 103]⟩, ⟨#[65]⟩, 0, 1⟩, ⟨⟨#[110, 111, 119]⟩, ⟨#[]⟩, 0, 1⟩, ⟨⟨#[103, 101, 116]⟩, ⟨#[65]⟩, 1, 1⟩, ⟨⟨#[104, 97, 115]⟩, ⟨#[65]⟩, 1, 1⟩, ⟨⟨#[115, 105, 122, 101]⟩, ⟨#[65]⟩, 0, 1⟩, ⟨⟨#[110, 101, 103]⟩, ⟨#[]⟩, 1, 1⟩, ⟨⟨#[110, 111, 116]⟩, ⟨#[]⟩, 1, 1⟩, ⟨⟨#[109, 117, 108]⟩, ⟨#[]⟩, 2, 1⟩, ⟨⟨#[100, 105, 118]⟩, ⟨#[]⟩, 2, 1⟩, ⟨⟨#[109, 111, 100]⟩, ⟨#[]⟩, 2, 1⟩, ⟨⟨#[97, 100, 100]⟩, ⟨#[]⟩, 2, 1⟩, ⟨⟨#[115, 117, 98]⟩, ⟨#[]⟩, 2, 1⟩, ⟨⟨#[101, 113]⟩, ⟨#[]⟩, 2, 1⟩, ⟨⟨#[110, 101]⟩, ⟨#[]⟩, 2, 1⟩, ⟨⟨#[108, 116]⟩, ⟨#[]⟩, 2, 1⟩, ⟨⟨#[108, 101]⟩, ⟨#[]⟩, 2, 1⟩, ⟨⟨#[103, 116]⟩, ⟨#[]⟩, 2, 1⟩, ⟨⟨#[103, 101]⟩, ⟨#[]⟩, 2, 1⟩, ⟨⟨#[97, 110, 100]⟩, ⟨#[]⟩, 2, 1⟩, ⟨⟨#[111, 114]⟩, ⟨#[]⟩, 2, 1⟩, ⟨⟨#[115, 101, 116, 118, 97, 114]⟩, ⟨#[65]⟩, 1, 0⟩, ⟨⟨#[112, 117, 116]⟩, ⟨#[65]⟩, 2, 0⟩, ⟨⟨#[100, 101, 108, 101, 116, 101]⟩, ⟨#[65]⟩, 1, 0⟩, ⟨⟨#[106, 117, 109, 112]⟩, ⟨#[65]⟩, 0, 0⟩, ⟨⟨#[98, 114, 97, 110, 99, 104]⟩, ⟨#[65]⟩, 1, 0⟩, ⟨⟨#[99, 111, 115, 116]⟩, ⟨#[]⟩, 0, 0⟩, ⟨⟨#[115, 101, 110, 100]⟩, ⟨#[65, 66, 78]⟩, 0, 0⟩, ⟨⟨#[97, 102, 116, 101, 114]⟩, ⟨#[66, 78]⟩, 1, 0⟩, ⟨⟨#[115, 116, 111, 114, 101]⟩, ⟨#[66]⟩, 2, 0⟩, ⟨⟨#[102, 101, 116, 99, 104]⟩, ⟨#[65, 66]⟩, 1, 0⟩, ⟨⟨#[115, 116, 111, 112]⟩, ⟨#[]⟩, 0, 0⟩]
def rowOf (o : Nat) : Rw := rowTab.getD o ⟨⟨#[]⟩, ⟨#[]⟩, 0, 0⟩
theorem row_at {o : Nat} (h : o ≤ 34) : rowTab[o]? = some (rowOf o) := by
 have hl : o < rowTab.length := by show o < 35; omega
 rw [rowOf, List.getD_eq_getElem?_getD, gge hl]; rfl
theorem row_out {o : Nat} (h : ¬ o ≤ 34) : rowOf o = ⟨⟨#[]⟩, ⟨#[]⟩, 0, 0⟩ := by
 rw [rowOf, List.getD_eq_getElem?_getD, List.getElem?_eq_none (by show 35 ≤ o; omega)]; rfl
theorem pops_bound (o : Nat) : 0 ≤ (rowOf o).pops ∧ (rowOf o).pops ≤ 2 ∧ 0 ≤ (rowOf o).pushes ∧ (rowOf o).pushes ≤ 1 := by
 by_cases h : o ≤ 34
 · have hl : o < rowTab.length := by show o < 35; omega
   have e : rowOf o = rowTab[o] := by have := row_at h; rw [gge hl] at this; exact (Option.some.inj this).symm
   have all : ∀ r ∈ rowTab, 0 ≤ r.pops ∧ r.pops ≤ 2 ∧ 0 ≤ r.pushes ∧ r.pushes ≤ 1 := by decide
   rw [e]; exact all _ (List.getElem_mem hl)
 · rw [row_out h]; decide
def usesB (o : Nat) (c : Int) : Bool := decide (0 ≤ Lib.indexByte (rowOf o).uses.data.toList c.toNat.toUInt8)
abbrev tabC : Chunk := ros Rw.cells (some ⟨0, 0, none⟩) rowTab
theorem row_fn (o : Nat) :
    Does Tryz.prog 49 [.int .u8 ((o : Nat) : Int)] [tabC] (fun v Γ' => v = .agg (Rw.cells (rowOf o)).toArray ∧ Γ' = []) := by
 refine Does.enter Tryz.func49 rfl Tryz.ntmps49 rfl (fun w0 => ?_)
 refine To.s (To.g ?_)
 refine To.alloc rfl rfl rfl rfl z180 (fun b2 => ?_)
 refine To.n (To.t (To.s (To.s (To.g (To.m ?_)))))
 refine To.gt ?_
 refine To.n (To.t ?_)
 refine To.cp rfl (fun c4 => ?_) (fun c4 => ?_)
 refine To.s (To.g ?_)
 refine To.r (Rd.build (vs := []) (cells := [.string bE, .string bE, .int .i64 0, .int .i64 0]) rfl rfl rfl (by kernel_rfl)) ?_
 refine To.u (Up.storeS (i := 0) rfl rfl rfl r180 rfl rfl rfl (bta rfl)) ?_
 refine To.n (To.t (To.rt (To.tr ?_)))
 refine To.endC [] rfl (.inl rfl) Tryz.results49 rfl (i := 0) rfl r180 rfl ?_
 exact ⟨by rw [row_out (by omega)]; rfl, rfl⟩
 refine To.sp (To.t (To.s (To.g (To.m ?_))))
 refine To.r (Rd.indexArr (j := o) rfl (ArrTy.of (size := 4) Tryz.underlying274 (by kernel_rfl)) rfl rfl (by omega)) ?_
 refine To.r (Rd.lS (i := 1) rfl rfl r180 rfl (rsg encRw (A := some ⟨0, 0, none⟩) (row_at (o := o) (by omega))) (encRw.len _)) ?_
 refine To.u (Up.storeS (i := 0) rfl rfl rfl r180 rfl rfl rfl (bta rfl)) ?_
 refine To.n (To.t (To.rt ?_))
 refine To.endC [] rfl (.inl rfl) Tryz.results49 rfl (i := 0) rfl r180 rfl ?_
 exact ⟨rfl, rfl⟩
theorem sib_fn (s : ByteArray) (c : Int) :
    Does Tryz.prog 171 [.string s, .int .u8 c] [] (fun v _ => v = .int .i64 (Lib.indexByte s.data.toList c.toNat.toUInt8)) := by
 refine Does.enter Tryz.func171 rfl Tryz.ntmps171 rfl (fun w0 => ?_)
 refine To.s (To.g (To.a (To.n (To.t (To.s (To.g ?_))))))
 refine To.m ?_
 refine To.m ?_
 refine To.r (Rd.indexByte rfl Tryz.func204 (by kernel_rfl) (by kernel_rfl) (by kernel_rfl) (by kernel_rfl) rfl rfl) ?_
 refine To.a (To.n (To.t (To.rt ?_)))
 refine To.end1 (.inl rfl) Tryz.results171 rfl ?_
 rfl
theorem ib_fn (s : ByteArray) (c : Int) :
    Does Tryz.prog 108 [.string s, .int .u8 c] [] (fun v _ => v = .int .i64 (Lib.indexByte s.data.toList c.toNat.toUInt8)) := by
 refine Does.enter Tryz.func108 rfl Tryz.ntmps108 rfl (fun w0 => ?_)
 refine To.s (To.g (To.a (To.n (To.t (To.s (To.g ?_))))))
 refine To.m ?_
 refine To.m ?_
 refine To.cV rfl rfl rfl (Ent.fn rfl rfl ca171) (sib_fn s c) rfl (ocn _) ?_
 refine To.a (To.n (To.t (To.rt ?_)))
 refine To.end1 (.inl rfl) Tryz.results108 rfl ?_
 rfl
theorem uses_fn (o : Nat) (c : Int) :
    Does Tryz.prog 50 [.int .u8 ((o : Nat) : Int), .int .u8 c] [tabC] (fun v _ => v = .bool (usesB o c)) := by
 refine Does.enter Tryz.func50 rfl Tryz.ntmps50 rfl (fun w0 => ?_)
 refine To.s (To.g (To.a (To.n (To.t (To.s (To.g ?_))))))
 refine To.m ?_
 refine To.cV rfl rfl rfl (Ent.fn rfl rfl ca49) ((row_fn o).mono (R' := fun v _ => v = .agg (Rw.cells (rowOf o)).toArray) (fun _ _ h => h.1)) rfl (ocs (oca 0 rfl) (ocn _)) ?_
 refine To.r (Rd.fieldV (vs := Rw.cells (rowOf o)) rfl Tryz.underlying180 rfl Tryz.underlying9 rfl rfl rfl) ?_
 refine To.m ?_
 refine To.cV rfl rfl rfl (Ent.fn rfl rfl ca108) (ib_fn ((rowOf o).uses) c) rfl (ocn _) ?_
 refine To.gq ?_
 refine To.a (To.n (To.t (To.rt ?_)))
 refine To.end1 (.inl rfl) Tryz.results50 rfl ?_
 rfl
def formedB (pr : Int) (nc : Nat) (x : Ins) : Bool :=
 decide (1 ≤ (x.op : Int)) && decide ((x.op : Int) ≤ 34) && !(!usesB x.op 65 && decide (x.a ≠ 0)) && !(!usesB x.op 66 && decide (x.b ≠ 0)) && !(!usesB x.op 78 && decide (x.n ≠ 0)) &&
 !((tgt x).isSome && (decide ((tgt x).getD 0 < 0) || decide (((nc : Nat) : Int) < (tgt x).getD 0))) &&
 (if (x.op : Int) = 27 ∨ (x.op : Int) = 28 ∨ (x.op : Int) = 32 then true else if (x.op : Int) = 3 then decide (0 ≤ x.a) && decide (x.a < pr) else
  if ((x.op : Int) = 30 ∨ (x.op : Int) = 31) ∧ (x.b < 0 ∨ 63 < x.b ∨ x.n < 0 ∨ 4 < x.n) then false else decide (0 ≤ x.a) && decide (x.a ≤ 63))
theorem formedB_if (pr : Int) (l : List Ins) (x : Ins) : formedB pr l.length x = (!((decide (((x.op : Nat) : Int) < 1)) || decide (34 < ((x.op : Nat) : Int))) && (!((!usesB x.op 65 && decide (x.a ≠ 0)) || ((!usesB x.op 66 && decide (x.b ≠ 0)) || (!usesB x.op 78 && decide (x.n ≠ 0)))) && (!((tgt x).isSome && (decide ((tgt x).getD 0 < 0) || decide (((l.length : Nat) : Int) < (tgt x).getD 0))) && (if (x.op : Int) = 27 ∨ (x.op : Int) = 28 ∨ (x.op : Int) = 32 then true else if (x.op : Int) = 3 then decide (0 ≤ x.a) && decide (x.a < pr) else if ((x.op : Int) = 30 ∨ (x.op : Int) = 31) ∧ (x.b < 0 ∨ 63 < x.b ∨ x.n < 0 ∨ 4 < x.n) then false else decide (0 ≤ x.a) && decide (x.a ≤ 63))))) := by
 have e1 : decide (1 ≤ ((x.op : Nat) : Int)) = !decide (((x.op : Nat) : Int) < 1) := by rw [← decide_not]; exact decide_eq_decide.2 (by omega)
 have e2 : decide (((x.op : Nat) : Int) ≤ 34) = !decide (34 < ((x.op : Nat) : Int)) := by rw [← decide_not]; exact decide_eq_decide.2 (by omega)
 unfold formedB
 rw [e1, e2]
 generalize (if (x.op : Int) = 27 ∨ (x.op : Int) = 28 ∨ (x.op : Int) = 32 then true else if (x.op : Int) = 3 then decide (0 ≤ x.a) && decide (x.a < pr) else if ((x.op : Int) = 30 ∨ (x.op : Int) = 31) ∧ (x.b < 0 ∨ 63 < x.b ∨ x.n < 0 ∨ 4 < x.n) then false else decide (0 ≤ x.a) && decide (x.a ≤ 63)) = z
 generalize usesB x.op 65 = u1
 generalize usesB x.op 66 = u2
 generalize usesB x.op 78 = u3
 generalize decide (x.a ≠ 0) = v1
 generalize decide (x.b ≠ 0) = v2
 generalize decide (x.n ≠ 0) = v3
 generalize (tgt x).isSome = u4
 generalize decide ((tgt x).getD 0 < 0) = u5
 generalize decide (((l.length : Nat) : Int) < (tgt x).getD 0) = u6
 generalize decide (((x.op : Nat) : Int) < 1) = u7
 generalize decide (34 < ((x.op : Nat) : Int)) = u8
 simp only [Bool.not_or, Bool.not_and, Bool.not_not, Bool.and_assoc]
theorem formed_fn (pr st : Int) (A : Option Addr) (q : Nat) (l : List Ins) (x : Ins) :
    Does Tryz.prog 72 [.agg #[.int .i64 pr, .int .i64 st, .slice A l.length q], .agg (Ins.cells x).toArray] [tabC] (fun v _ => v = .bool (formedB pr l.length x)) := by
 refine Does.enter Tryz.func72 rfl Tryz.ntmps72 rfl (fun w0 => ?_)
 refine To.s (To.g ?_)
 refine To.boxed rfl rfl rfl rfl rfl rfl (fun b2 => ?_)
 refine To.boxed rfl rfl rfl rfl rfl rfl (fun b3 => ?_)
 refine To.a (To.n (To.t (To.s (To.s (To.g ?_)))))
 refine To.meet (T := Bool) (fun t => ([(2, pv b2), (3, pv b3), (4, .bool false), (14, .bool t)], [box b3 [.int .u8 ((x.op : Nat) : Int), .int .i64 x.a, .int .i64 x.b, .int .i64 x.n] 109, box b2 [.int .i64 pr, .int .i64 st, .slice A l.length q] 42, tabC])) (fun t => t = ((decide (((x.op : Nat) : Int) < 1)) || decide (34 < ((x.op : Nat) : Int)))) ?_ (fun t ht => ?_)
 refine To.f fl109_0 ?_
 refine To.lo 0 c107 ?_
 refine To.lt ?_
 refine To.rdP rfl rfl rfl (Rd.move rfl rfl) (fun g10 => ?_) (fun g10 => ?_)
 refine To.k ?_
 refine To.k ?_
 refine To.k ?_
 refine To.pT ?_
 refine To.n (To.t ?_)
 refine To.only [0, 0, 0] rfl ?_
 refine To.he true (by simp [g10]) ⟨rfl, rfl, rfl, rfl, trivial⟩ rfl
 refine To.f fl109_0 ?_
 refine To.lo 0 c107 ?_
 refine To.gt ?_
 refine To.pF ?_
 refine To.n (To.t ?_)
 refine To.only [0, 0, 0] rfl ?_
 refine To.he (decide (34 < ((x.op : Nat) : Int))) (by simp [g10]) ⟨rfl, rfl, rfl, rfl, trivial⟩ rfl
 subst ht
 show To _ [(2, pv b2), (3, pv b3), (4, .bool false), (14, .bool ((decide (((x.op : Nat) : Int) < 1)) || decide (34 < ((x.op : Nat) : Int))))] [box b3 [.int .u8 ((x.op : Nat) : Int), .int .i64 x.a, .int .i64 x.b, .int .i64 x.n] 109, box b2 [.int .i64 pr, .int .i64 st, .slice A l.length q] 42, tabC] _
 refine To.cond rfl (fun k14 => ?_) (fun k14 => ?_)
 refine To.s (To.g (To.a (To.n (To.t (To.rt (To.tr ?_))))))
 refine To.end1 (.inl rfl) Tryz.results72 rfl ?_
 refine congrArg Value.bool ?_
 rw [formedB_if, k14]; rfl
 refine To.sp (To.t (To.s (To.s (To.g ?_))))
 refine To.meet (T := Bool) (fun t => ([(2, pv b2), (3, pv b3), (4, .bool false), (45, .bool t)], [box b3 [.int .u8 ((x.op : Nat) : Int), .int .i64 x.a, .int .i64 x.b, .int .i64 x.n] 109, box b2 [.int .i64 pr, .int .i64 st, .slice A l.length q] 42, tabC])) (fun t => t = ((!usesB x.op 65 && decide (x.a ≠ 0)) || ((!usesB x.op 66 && decide (x.b ≠ 0)) || (!usesB x.op 78 && decide (x.n ≠ 0))))) ?_ (fun t ht => ?_)
 refine To.f fl109_0 ?_
 refine To.lo 0 c107 ?_
 refine To.cV rfl rfl rfl (Ent.fn rfl rfl ca50) (uses_fn x.op 65) rfl (ocs (oca 2 rfl) (ocn _)) ?_
 refine To.nt ?_
 refine To.rdB rfl rfl rfl (Rd.move rfl rfl) (fun g19 => ?_) (fun g19 => ?_)
 refine To.f fl109_1 ?_
 refine To.lo 0 c3 ?_
 refine To.ne ?_
 refine To.pT ?_
 refine To.rdP rfl rfl rfl (Rd.move rfl rfl) (fun g24 => ?_) (fun g24 => ?_)
 refine To.k ?_
 refine To.k ?_
 refine To.k ?_
 refine To.k ?_
 refine To.k ?_
 refine To.k ?_
 refine To.k ?_
 refine To.k ?_
 refine To.k ?_
 refine To.pT ?_
 refine To.m ?_
 refine To.k ?_
 refine To.k ?_
 refine To.k ?_
 refine To.k ?_
 refine To.k ?_
 refine To.k ?_
 refine To.k ?_
 refine To.k ?_
 refine To.k ?_
 refine To.pT ?_
 refine To.n (To.t ?_)
 refine To.only [0, 0, 0] rfl ?_
 refine To.he true (by simp [g19, g24]) ⟨rfl, rfl, rfl, rfl, trivial⟩ rfl
 refine To.f fl109_0 ?_
 refine To.lo 0 c107 ?_
 refine To.cV rfl rfl rfl (Ent.fn rfl rfl ca50) (uses_fn x.op 66) rfl (ocs (oca 2 rfl) (ocn _)) ?_
 refine To.nt ?_
 refine To.rdB rfl rfl rfl (Rd.move rfl rfl) (fun g29 => ?_) (fun g29 => ?_)
 refine To.f fl109_2 ?_
 refine To.lo 0 c3 ?_
 refine To.ne ?_
 refine To.pT ?_
 refine To.pF ?_
 refine To.rdP rfl rfl rfl (Rd.move rfl rfl) (fun g35 => ?_) (fun g35 => ?_)
 refine To.k ?_
 refine To.k ?_
 refine To.k ?_
 refine To.k ?_
 refine To.k ?_
 refine To.k ?_
 refine To.k ?_
 refine To.k ?_
 refine To.k ?_
 refine To.pT ?_
 refine To.n (To.t ?_)
 refine To.only [0, 0, 0] rfl ?_
 refine To.he true (by simp [g19, g24, g29, g35]) ⟨rfl, rfl, rfl, rfl, trivial⟩ rfl
 refine To.f fl109_0 ?_
 refine To.lo 0 c107 ?_
 refine To.cV rfl rfl rfl (Ent.fn rfl rfl ca50) (uses_fn x.op 78) rfl (ocs (oca 2 rfl) (ocn _)) ?_
 refine To.nt ?_
 refine To.rdB rfl rfl rfl (Rd.move rfl rfl) (fun g40 => ?_) (fun g40 => ?_)
 refine To.f fl109_3 ?_
 refine To.lo 0 c2 ?_
 refine To.ne ?_
 refine To.pT ?_
 refine To.pF ?_
 refine To.n (To.t ?_)
 refine To.only [0, 0, 0] rfl ?_
 refine To.he (decide (x.n ≠ 0)) (by simp [g19, g24, g29, g35, g40]) ⟨rfl, rfl, rfl, rfl, trivial⟩ rfl
 refine To.k ?_
 refine To.k ?_
 refine To.k ?_
 refine To.pF ?_
 refine To.pF ?_
 refine To.n (To.t ?_)
 refine To.only [0, 0, 0] rfl ?_
 refine To.he false (by simp [g19, g24, g29, g35, g40]) ⟨rfl, rfl, rfl, rfl, trivial⟩ rfl
 refine To.k ?_
 refine To.k ?_
 refine To.k ?_
 refine To.pF ?_
 refine To.pF ?_
 refine To.m ?_
 refine To.f fl109_0 ?_
 refine To.lo 0 c107 ?_
 refine To.cV rfl rfl rfl (Ent.fn rfl rfl ca50) (uses_fn x.op 78) rfl (ocs (oca 2 rfl) (ocn _)) ?_
 refine To.nt ?_
 refine To.rdB rfl rfl rfl (Rd.move rfl rfl) (fun g40 => ?_) (fun g40 => ?_)
 refine To.f fl109_3 ?_
 refine To.lo 0 c2 ?_
 refine To.ne ?_
 refine To.pT ?_
 refine To.pF ?_
 refine To.n (To.t ?_)
 refine To.only [0, 0, 0] rfl ?_
 refine To.he (decide (x.n ≠ 0)) (by simp [g19, g24, g29, g40]) ⟨rfl, rfl, rfl, rfl, trivial⟩ rfl
 refine To.k ?_
 refine To.k ?_
 refine To.k ?_
 refine To.pF ?_
 refine To.pF ?_
 refine To.n (To.t ?_)
 refine To.only [0, 0, 0] rfl ?_
 refine To.he false (by simp [g19, g24, g29, g40]) ⟨rfl, rfl, rfl, rfl, trivial⟩ rfl
 refine To.k ?_
 refine To.k ?_
 refine To.k ?_
 refine To.pF ?_
 refine To.m ?_
 refine To.f fl109_0 ?_
 refine To.lo 0 c107 ?_
 refine To.cV rfl rfl rfl (Ent.fn rfl rfl ca50) (uses_fn x.op 66) rfl (ocs (oca 2 rfl) (ocn _)) ?_
 refine To.nt ?_
 refine To.rdB rfl rfl rfl (Rd.move rfl rfl) (fun g29 => ?_) (fun g29 => ?_)
 refine To.f fl109_2 ?_
 refine To.lo 0 c3 ?_
 refine To.ne ?_
 refine To.pT ?_
 refine To.pF ?_
 refine To.rdP rfl rfl rfl (Rd.move rfl rfl) (fun g35 => ?_) (fun g35 => ?_)
 refine To.k ?_
 refine To.k ?_
 refine To.k ?_
 refine To.k ?_
 refine To.k ?_
 refine To.k ?_
 refine To.k ?_
 refine To.k ?_
 refine To.k ?_
 refine To.pT ?_
 refine To.n (To.t ?_)
 refine To.only [0, 0, 0] rfl ?_
 refine To.he true (by simp [g19, g29, g35]) ⟨rfl, rfl, rfl, rfl, trivial⟩ rfl
 refine To.f fl109_0 ?_
 refine To.lo 0 c107 ?_
 refine To.cV rfl rfl rfl (Ent.fn rfl rfl ca50) (uses_fn x.op 78) rfl (ocs (oca 2 rfl) (ocn _)) ?_
 refine To.nt ?_
 refine To.rdB rfl rfl rfl (Rd.move rfl rfl) (fun g40 => ?_) (fun g40 => ?_)
 refine To.f fl109_3 ?_
 refine To.lo 0 c2 ?_
 refine To.ne ?_
 refine To.pT ?_
 refine To.pF ?_
 refine To.n (To.t ?_)
 refine To.only [0, 0, 0] rfl ?_
 refine To.he (decide (x.n ≠ 0)) (by simp [g19, g29, g35, g40]) ⟨rfl, rfl, rfl, rfl, trivial⟩ rfl
 refine To.k ?_
 refine To.k ?_
 refine To.k ?_
 refine To.pF ?_
 refine To.pF ?_
 refine To.n (To.t ?_)
 refine To.only [0, 0, 0] rfl ?_
 refine To.he false (by simp [g19, g29, g35, g40]) ⟨rfl, rfl, rfl, rfl, trivial⟩ rfl
 refine To.k ?_
 refine To.k ?_
 refine To.k ?_
 refine To.pF ?_
 refine To.pF ?_
 refine To.m ?_
 refine To.f fl109_0 ?_
 refine To.lo 0 c107 ?_
 refine To.cV rfl rfl rfl (Ent.fn rfl rfl ca50) (uses_fn x.op 78) rfl (ocs (oca 2 rfl) (ocn _)) ?_
 refine To.nt ?_
 refine To.rdB rfl rfl rfl (Rd.move rfl rfl) (fun g40 => ?_) (fun g40 => ?_)
 refine To.f fl109_3 ?_
 refine To.lo 0 c2 ?_
 refine To.ne ?_
 refine To.pT ?_
 refine To.pF ?_
 refine To.n (To.t ?_)
 refine To.only [0, 0, 0] rfl ?_
 refine To.he (decide (x.n ≠ 0)) (by simp [g19, g29, g40]) ⟨rfl, rfl, rfl, rfl, trivial⟩ rfl
 refine To.k ?_
 refine To.k ?_
 refine To.k ?_
 refine To.pF ?_
 refine To.pF ?_
 refine To.n (To.t ?_)
 refine To.only [0, 0, 0] rfl ?_
 refine To.he false (by simp [g19, g29, g40]) ⟨rfl, rfl, rfl, rfl, trivial⟩ rfl
 subst ht
 show To _ [(2, pv b2), (3, pv b3), (4, .bool false), (45, .bool ((!usesB x.op 65 && decide (x.a ≠ 0)) || ((!usesB x.op 66 && decide (x.b ≠ 0)) || (!usesB x.op 78 && decide (x.n ≠ 0)))))] [box b3 [.int .u8 ((x.op : Nat) : Int), .int .i64 x.a, .int .i64 x.b, .int .i64 x.n] 109, box b2 [.int .i64 pr, .int .i64 st, .slice A l.length q] 42, tabC] _
 refine To.cond rfl (fun k45 => ?_) (fun k45 => ?_)
 refine To.s (To.g (To.a (To.n (To.t (To.rt (To.tr ?_))))))
 refine To.end1 (.inl rfl) Tryz.results72 rfl ?_
 refine congrArg Value.bool ?_
 rw [formedB_if, k14, k45]; rfl
 refine To.sp (To.t (To.s (To.s (To.g ?_))))
 refine To.r (Rd.lS (i := 0) rfl rfl r109 rfl box_whole rfl) ?_
 refine To.cV rfl rfl rfl (Ent.fn rfl rfl ca134) (tgt_fn x) rfl (ocn _) ?_
 refine To.m ?_
 refine To.r (Rd.extract rfl rfl rfl) ?_
 refine To.r (Rd.extract rfl rfl rfl) ?_
 refine To.a ?_
 refine To.a (To.n (To.t (To.s (To.g ?_))))
 refine To.meet (T := Bool) (fun t => ([(2, pv b2), (3, pv b3), (4, .bool false), (62, .bool t)], [box b3 [.int .u8 ((x.op : Nat) : Int), .int .i64 x.a, .int .i64 x.b, .int .i64 x.n] 109, box b2 [.int .i64 pr, .int .i64 st, .slice A l.length q] 42, tabC])) (fun t => t = ((tgt x).isSome && (decide ((tgt x).getD 0 < 0) || decide (((l.length : Nat) : Int) < (tgt x).getD 0)))) ?_ (fun t ht => ?_)
 refine To.m ?_
 refine To.rdB rfl rfl rfl (Rd.move rfl rfl) (fun g52 => ?_) (fun g52 => ?_)
 refine To.m ?_
 refine To.lt ?_
 refine To.rdP rfl rfl rfl (Rd.move rfl rfl) (fun g55 => ?_) (fun g55 => ?_)
 refine To.k ?_
 refine To.k ?_
 refine To.k ?_
 refine To.k ?_
 refine To.k ?_
 refine To.pT ?_
 refine To.pT ?_
 refine To.n (To.t ?_)
 refine To.only [0, 0, 0] rfl ?_
 refine To.he true (by simp [g52, g55]) ⟨rfl, rfl, rfl, rfl, trivial⟩ rfl
 refine To.m ?_
 refine To.f fl42_2 ?_
 refine To.lo 1 c40 ?_
 refine To.r (Rd.len rfl rfl Tryz.underlying40) ?_
 refine To.gt ?_
 refine To.pF ?_
 refine To.pT ?_
 refine To.n (To.t ?_)
 refine To.only [0, 0, 0] rfl ?_
 refine To.he (decide (((l.length : Nat) : Int) < ((tgt x).getD 0))) (by simp [g52, g55]) ⟨rfl, rfl, rfl, rfl, trivial⟩ rfl
 refine To.k ?_
 refine To.k ?_
 refine To.k ?_
 refine To.k ?_
 refine To.k ?_
 refine To.k ?_
 refine To.k ?_
 refine To.k ?_
 refine To.k ?_
 refine To.pF ?_
 refine To.n (To.t ?_)
 refine To.only [0, 0, 0] rfl ?_
 refine To.he false (by simp [g52]) ⟨rfl, rfl, rfl, rfl, trivial⟩ rfl
 subst ht
 show To _ [(2, pv b2), (3, pv b3), (4, .bool false), (62, .bool ((tgt x).isSome && (decide ((tgt x).getD 0 < 0) || decide (((l.length : Nat) : Int) < (tgt x).getD 0))))] [box b3 [.int .u8 ((x.op : Nat) : Int), .int .i64 x.a, .int .i64 x.b, .int .i64 x.n] 109, box b2 [.int .i64 pr, .int .i64 st, .slice A l.length q] 42, tabC] _
 refine To.cond rfl (fun k62 => ?_) (fun k62 => ?_)
 refine To.s (To.g (To.a (To.n (To.t (To.rt (To.tr ?_))))))
 refine To.end1 (.inl rfl) Tryz.results72 rfl ?_
 refine congrArg Value.bool ?_
 rw [formedB_if, k14, k45, k62]; rfl
 refine To.sp (To.t (To.s (To.s (To.g ?_))))
 refine To.f fl109_0 ?_
 refine To.lo 0 c107 ?_
 refine To.n (To.t (To.b (To.s (To.s (To.g ?_)))))
 refine To.eq ?_
 refine To.a (To.n (To.t ?_))
 refine To.cp rfl (fun k65 => ?_) (fun k65 => ?_)
 refine To.sp (To.t ?_)
 refine To.condT (congrArg (fun b => some (Value.bool b)) (decide_eq_true k65)) ?_
 refine To.s (To.g (To.a (To.n (To.t (To.rt (To.br (To.tr ?_)))))))
 refine To.end1 (.inl rfl) Tryz.results72 rfl ?_
 refine congrArg Value.bool ?_
 rw [formedB_if, k14, k45, k62]
 · first | (simp [k65]; done) | (simp [k65]; omega)
 refine To.s (To.g ?_)
 refine To.eq ?_
 refine To.a (To.n (To.t ?_))
 refine To.cp rfl (fun k65_2 => ?_) (fun k65_2 => ?_)
 refine To.sp (To.t ?_)
 refine To.condT (congrArg (fun b => some (Value.bool b)) (decide_eq_true k65_2)) ?_
 refine To.s (To.g (To.a (To.n (To.t (To.rt (To.br (To.tr ?_)))))))
 refine To.end1 (.inl rfl) Tryz.results72 rfl ?_
 refine congrArg Value.bool ?_
 rw [formedB_if, k14, k45, k62]
 · first | (simp [k65, k65_2]; done) | (simp [k65, k65_2]; omega)
 refine To.g ?_
 refine To.eq ?_
 refine To.a (To.n (To.t ?_))
 refine To.cp rfl (fun k65_3 => ?_) (fun k65_3 => ?_)
 refine To.s (To.g (To.a (To.n (To.t (To.rt (To.br (To.tr ?_)))))))
 refine To.end1 (.inl rfl) Tryz.results72 rfl ?_
 refine congrArg Value.bool ?_
 rw [formedB_if, k14, k45, k62]
 · first | (simp [k65, k65_2, k65_3]; done) | (simp [k65, k65_2, k65_3]; omega)
 refine To.s (To.g ?_)
 refine To.eq ?_
 refine To.a (To.n (To.t ?_))
 refine To.cp rfl (fun k69 => ?_) (fun k69 => ?_)
 refine To.s (To.g ?_)
 refine To.f fl109_1 ?_
 refine To.lo 0 c3 ?_
 refine To.gq ?_
 refine To.rdP rfl rfl rfl (Rd.move rfl rfl) (fun g74 => ?_) (fun g74 => ?_)
 refine To.f fl109_1 ?_
 refine To.lo 0 c3 ?_
 refine To.f fl42_0 ?_
 refine To.lo 1 c3 ?_
 refine To.lt ?_
 refine To.pT ?_
 refine To.a (To.n (To.t (To.rt (To.br (To.tr ?_)))))
 refine To.end1 (.inl rfl) Tryz.results72 rfl ?_
 refine congrArg Value.bool ?_
 rw [formedB_if, k14, k45, k62]
 · first | (simp [k65, k65_2, k65_3, k69, g74]; done) | (simp [k65, k65_2, k65_3, k69, g74]; omega)
 refine To.k ?_
 refine To.k ?_
 refine To.k ?_
 refine To.k ?_
 refine To.k ?_
 refine To.pF ?_
 refine To.a (To.n (To.t (To.rt (To.br (To.tr ?_)))))
 refine To.end1 (.inl rfl) Tryz.results72 rfl ?_
 refine congrArg Value.bool ?_
 rw [formedB_if, k14, k45, k62]
 · first | (simp [k65, k65_2, k65_3, k69, g74]; done) | (simp [k65, k65_2, k65_3, k69, g74]; omega)
 refine To.s (To.s (To.g ?_))
 refine To.eq ?_
 refine To.a (To.n (To.t ?_))
 refine To.cp rfl (fun k81 => ?_) (fun k81 => ?_)
 refine To.sp (To.t ?_)
 refine To.condT (congrArg (fun b => some (Value.bool b)) (decide_eq_true k81)) ?_
 refine To.s (To.g ?_)
 refine To.meet (T := Bool) (fun t => ([(2, pv b2), (3, pv b3), (4, .bool false), (101, .bool t)], [box b3 [.int .u8 ((x.op : Nat) : Int), .int .i64 x.a, .int .i64 x.b, .int .i64 x.n] 109, box b2 [.int .i64 pr, .int .i64 st, .slice A l.length q] 42, tabC])) (fun t => t = ((decide (x.b < 0)) || (decide (63 < x.b) || (decide (x.n < 0) || decide (4 < x.n))))) ?_ (fun t ht => ?_)
 refine To.f fl109_2 ?_
 refine To.lo 0 c3 ?_
 refine To.lt ?_
 refine To.rdP rfl rfl rfl (Rd.move rfl rfl) (fun g87 => ?_) (fun g87 => ?_)
 refine To.k ?_
 refine To.k ?_
 refine To.k ?_
 refine To.pT ?_
 refine To.m ?_
 refine To.k ?_
 refine To.k ?_
 refine To.k ?_
 refine To.pT ?_
 refine To.m ?_
 refine To.k ?_
 refine To.k ?_
 refine To.k ?_
 refine To.pT ?_
 refine To.n (To.t ?_)
 refine To.only [0, 0, 0] rfl ?_
 refine To.he true (by simp [g87]) ⟨rfl, rfl, rfl, rfl, trivial⟩ rfl
 refine To.f fl109_2 ?_
 refine To.lo 0 c3 ?_
 refine To.gt ?_
 refine To.pF ?_
 refine To.rdP rfl rfl rfl (Rd.move rfl rfl) (fun g92 => ?_) (fun g92 => ?_)
 refine To.k ?_
 refine To.k ?_
 refine To.k ?_
 refine To.pT ?_
 refine To.m ?_
 refine To.k ?_
 refine To.k ?_
 refine To.k ?_
 refine To.pT ?_
 refine To.n (To.t ?_)
 refine To.only [0, 0, 0] rfl ?_
 refine To.he true (by simp [g87, g92]) ⟨rfl, rfl, rfl, rfl, trivial⟩ rfl
 refine To.f fl109_3 ?_
 refine To.lo 0 c2 ?_
 refine To.lt ?_
 refine To.pF ?_
 refine To.rdP rfl rfl rfl (Rd.move rfl rfl) (fun g97 => ?_) (fun g97 => ?_)
 refine To.k ?_
 refine To.k ?_
 refine To.k ?_
 refine To.pT ?_
 refine To.n (To.t ?_)
 refine To.only [0, 0, 0] rfl ?_
 refine To.he true (by simp [g87, g92, g97]) ⟨rfl, rfl, rfl, rfl, trivial⟩ rfl
 refine To.f fl109_3 ?_
 refine To.lo 0 c2 ?_
 refine To.gt ?_
 refine To.pF ?_
 refine To.n (To.t ?_)
 refine To.only [0, 0, 0] rfl ?_
 refine To.he (decide (4 < x.n)) (by simp [g87, g92, g97]) ⟨rfl, rfl, rfl, rfl, trivial⟩ rfl
 subst ht
 show To _ [(2, pv b2), (3, pv b3), (4, .bool false), (101, .bool ((decide (x.b < 0)) || (decide (63 < x.b) || (decide (x.n < 0) || decide (4 < x.n)))))] [box b3 [.int .u8 ((x.op : Nat) : Int), .int .i64 x.a, .int .i64 x.b, .int .i64 x.n] 109, box b2 [.int .i64 pr, .int .i64 st, .slice A l.length q] 42, tabC] _
 refine To.cond rfl (fun k101 => ?_) (fun k101 => ?_)
 refine To.s (To.g (To.a (To.n (To.t (To.rt (To.br (To.tr ?_)))))))
 refine To.end1 (.inl rfl) Tryz.results72 rfl ?_
 refine congrArg Value.bool ?_
 rw [formedB_if, k14, k45, k62]
 simp only [Bool.or_eq_true, Bool.or_eq_false_iff, decide_eq_true_eq, decide_eq_false_iff_not] at k101
 simp [k65, k65_2, k65_3, k69, k81] <;> omega
 refine To.sp (To.bn (To.t (To.s (To.g ?_))))
 refine To.f fl109_1 ?_
 refine To.lo 0 c3 ?_
 refine To.gq ?_
 refine To.rdP rfl rfl rfl (Rd.move rfl rfl) (fun g105 => ?_) (fun g105 => ?_)
 refine To.f fl109_1 ?_
 refine To.lo 0 c3 ?_
 refine To.le ?_
 refine To.pT ?_
 refine To.a (To.n (To.t (To.rt ?_)))
 refine To.end1 (.inl rfl) Tryz.results72 rfl ?_
 refine congrArg Value.bool ?_
 rw [formedB_if, k14, k45, k62]
 simp only [Bool.or_eq_true, Bool.or_eq_false_iff, decide_eq_true_eq, decide_eq_false_iff_not] at k101
 simp [k65, k65_2, k65_3, k69, k81, g105] <;> omega
 refine To.k ?_
 refine To.k ?_
 refine To.k ?_
 refine To.pF ?_
 refine To.a (To.n (To.t (To.rt ?_)))
 refine To.end1 (.inl rfl) Tryz.results72 rfl ?_
 refine congrArg Value.bool ?_
 rw [formedB_if, k14, k45, k62]
 simp only [Bool.or_eq_true, Bool.or_eq_false_iff, decide_eq_true_eq, decide_eq_false_iff_not] at k101
 simp [k65, k65_2, k65_3, k69, k81, g105] <;> omega
 refine To.g ?_
 refine To.eq ?_
 refine To.a (To.n (To.t ?_))
 refine To.cp rfl (fun k81_2 => ?_) (fun k81_2 => ?_)
 refine To.s (To.g ?_)
 refine To.meet (T := Bool) (fun t => ([(2, pv b2), (3, pv b3), (4, .bool false), (101, .bool t)], [box b3 [.int .u8 ((x.op : Nat) : Int), .int .i64 x.a, .int .i64 x.b, .int .i64 x.n] 109, box b2 [.int .i64 pr, .int .i64 st, .slice A l.length q] 42, tabC])) (fun t => t = ((decide (x.b < 0)) || (decide (63 < x.b) || (decide (x.n < 0) || decide (4 < x.n))))) ?_ (fun t ht => ?_)
 refine To.f fl109_2 ?_
 refine To.lo 0 c3 ?_
 refine To.lt ?_
 refine To.rdP rfl rfl rfl (Rd.move rfl rfl) (fun g87 => ?_) (fun g87 => ?_)
 refine To.k ?_
 refine To.k ?_
 refine To.k ?_
 refine To.pT ?_
 refine To.m ?_
 refine To.k ?_
 refine To.k ?_
 refine To.k ?_
 refine To.pT ?_
 refine To.m ?_
 refine To.k ?_
 refine To.k ?_
 refine To.k ?_
 refine To.pT ?_
 refine To.n (To.t ?_)
 refine To.only [0, 0, 0] rfl ?_
 refine To.he true (by simp [g87]) ⟨rfl, rfl, rfl, rfl, trivial⟩ rfl
 refine To.f fl109_2 ?_
 refine To.lo 0 c3 ?_
 refine To.gt ?_
 refine To.pF ?_
 refine To.rdP rfl rfl rfl (Rd.move rfl rfl) (fun g92 => ?_) (fun g92 => ?_)
 refine To.k ?_
 refine To.k ?_
 refine To.k ?_
 refine To.pT ?_
 refine To.m ?_
 refine To.k ?_
 refine To.k ?_
 refine To.k ?_
 refine To.pT ?_
 refine To.n (To.t ?_)
 refine To.only [0, 0, 0] rfl ?_
 refine To.he true (by simp [g87, g92]) ⟨rfl, rfl, rfl, rfl, trivial⟩ rfl
 refine To.f fl109_3 ?_
 refine To.lo 0 c2 ?_
 refine To.lt ?_
 refine To.pF ?_
 refine To.rdP rfl rfl rfl (Rd.move rfl rfl) (fun g97 => ?_) (fun g97 => ?_)
 refine To.k ?_
 refine To.k ?_
 refine To.k ?_
 refine To.pT ?_
 refine To.n (To.t ?_)
 refine To.only [0, 0, 0] rfl ?_
 refine To.he true (by simp [g87, g92, g97]) ⟨rfl, rfl, rfl, rfl, trivial⟩ rfl
 refine To.f fl109_3 ?_
 refine To.lo 0 c2 ?_
 refine To.gt ?_
 refine To.pF ?_
 refine To.n (To.t ?_)
 refine To.only [0, 0, 0] rfl ?_
 refine To.he (decide (4 < x.n)) (by simp [g87, g92, g97]) ⟨rfl, rfl, rfl, rfl, trivial⟩ rfl
 subst ht
 show To _ [(2, pv b2), (3, pv b3), (4, .bool false), (101, .bool ((decide (x.b < 0)) || (decide (63 < x.b) || (decide (x.n < 0) || decide (4 < x.n)))))] [box b3 [.int .u8 ((x.op : Nat) : Int), .int .i64 x.a, .int .i64 x.b, .int .i64 x.n] 109, box b2 [.int .i64 pr, .int .i64 st, .slice A l.length q] 42, tabC] _
 refine To.cond rfl (fun k101 => ?_) (fun k101 => ?_)
 refine To.s (To.g (To.a (To.n (To.t (To.rt (To.br (To.tr ?_)))))))
 refine To.end1 (.inl rfl) Tryz.results72 rfl ?_
 refine congrArg Value.bool ?_
 rw [formedB_if, k14, k45, k62]
 simp only [Bool.or_eq_true, Bool.or_eq_false_iff, decide_eq_true_eq, decide_eq_false_iff_not] at k101
 simp [k65, k65_2, k65_3, k69, k81, k81_2] <;> omega
 refine To.sp (To.bn (To.t (To.s (To.g ?_))))
 refine To.f fl109_1 ?_
 refine To.lo 0 c3 ?_
 refine To.gq ?_
 refine To.rdP rfl rfl rfl (Rd.move rfl rfl) (fun g105 => ?_) (fun g105 => ?_)
 refine To.f fl109_1 ?_
 refine To.lo 0 c3 ?_
 refine To.le ?_
 refine To.pT ?_
 refine To.a (To.n (To.t (To.rt ?_)))
 refine To.end1 (.inl rfl) Tryz.results72 rfl ?_
 refine congrArg Value.bool ?_
 rw [formedB_if, k14, k45, k62]
 simp only [Bool.or_eq_true, Bool.or_eq_false_iff, decide_eq_true_eq, decide_eq_false_iff_not] at k101
 simp [k65, k65_2, k65_3, k69, k81, k81_2, g105] <;> omega
 refine To.k ?_
 refine To.k ?_
 refine To.k ?_
 refine To.pF ?_
 refine To.a (To.n (To.t (To.rt ?_)))
 refine To.end1 (.inl rfl) Tryz.results72 rfl ?_
 refine congrArg Value.bool ?_
 rw [formedB_if, k14, k45, k62]
 simp only [Bool.or_eq_true, Bool.or_eq_false_iff, decide_eq_true_eq, decide_eq_false_iff_not] at k101
 simp [k65, k65_2, k65_3, k69, k81, k81_2, g105] <;> omega
 refine To.sp (To.bn (To.t (To.s (To.g ?_))))
 refine To.f fl109_1 ?_
 refine To.lo 0 c3 ?_
 refine To.gq ?_
 refine To.rdP rfl rfl rfl (Rd.move rfl rfl) (fun g105 => ?_) (fun g105 => ?_)
 refine To.f fl109_1 ?_
 refine To.lo 0 c3 ?_
 refine To.le ?_
 refine To.pT ?_
 refine To.a (To.n (To.t (To.rt ?_)))
 refine To.end1 (.inl rfl) Tryz.results72 rfl ?_
 refine congrArg Value.bool ?_
 rw [formedB_if, k14, k45, k62]
 · first | (simp [k65, k65_2, k65_3, k69, k81, k81_2, g105]; done) | (simp [k65, k65_2, k65_3, k69, k81, k81_2, g105]; omega)
 refine To.k ?_
 refine To.k ?_
 refine To.k ?_
 refine To.pF ?_
 refine To.a (To.n (To.t (To.rt ?_)))
 refine To.end1 (.inl rfl) Tryz.results72 rfl ?_
 refine congrArg Value.bool ?_
 rw [formedB_if, k14, k45, k62]
 · first | (simp [k65, k65_2, k65_3, k69, k81, k81_2, g105]; done) | (simp [k65, k65_2, k65_3, k69, k81, k81_2, g105]; omega)
end Go.Proofs.YtllalpnmagpkfaaGreatDoor
