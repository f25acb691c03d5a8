/- The reference: operands, jumps, moves, the form of an instruction. Own text (walks printed by sx.py). -/
import Derived.Test.YtllalpnmagpkfaaGreatDoorC4
set_option linter.unusedVariables false
set_option linter.unusedSimpArgs false
set_option maxHeartbeats 2000000
set_option maxRecDepth 100000
namespace Go.Proofs.YtllalpnmagpkfaaGreatDoor
open Go.RowKit Go.Flow Go.Mem Go.Sep
def Ins.rc (e : Ins) : List Value := [nv e.op, .int .i64 e.a, .int .i64 e.b, .int .i64 e.n]
theorem encRi : Enc Ins.rc 4 := ⟨fun _ => rfl, fun e u hu => by
 simp only [Ins.rc, List.mem_cons, List.not_mem_nil, or_false] at hu
 rcases hu with rfl | rfl | rfl | rfl <;> rfl⟩
def uA (o : Int) : Bool := decide ((2 ≤ o ∧ o ≤ 4) ∨ (6 ≤ o ∧ o ≤ 8) ∨ (24 ≤ o ∧ o ≤ 28) ∨ o = 30 ∨ o = 33)
def uB (o : Int) : Bool := decide (30 ≤ o ∧ o ≤ 33)
def uN (o : Int) : Bool := decide (o = 1 ∨ o = 30 ∨ o = 31)
def jR (x : Ins) : Int := if ((x.op : Nat) : Int) = 27 ∨ ((x.op : Nat) : Int) = 28 then x.a else if ((x.op : Nat) : Int) = 32 ∨ ((x.op : Nat) : Int) = 33 then x.b else -1
def mvP (x : Ins) : Int := if ((x.op : Nat) : Int) ≤ 5 ∨ ((x.op : Nat) : Int) = 8 then 0 else if ((x.op : Nat) : Int) ≤ 10 then 1 else if ((x.op : Nat) : Int) ≤ 23 then 2 else
 if ((x.op : Nat) : Int) = 24 ∨ ((x.op : Nat) : Int) = 26 ∨ ((x.op : Nat) : Int) = 28 ∨ ((x.op : Nat) : Int) = 33 then 1 else if ((x.op : Nat) : Int) = 25 ∨ ((x.op : Nat) : Int) = 32 then 2 else
 if ((x.op : Nat) : Int) = 30 then x.n else if ((x.op : Nat) : Int) = 31 then x.n + 1 else 0
def mvQ (x : Ins) : Int := if ((x.op : Nat) : Int) ≤ 23 then 1 else 0
theorem rjump_fn (x : Ins) :
    Does Tryz.prog 105 [.agg (Ins.rc x).toArray] [] (fun v _ => v = .int .i64 (jR x)) := by
 refine Does.enter Tryz.func105 rfl Tryz.ntmps105 rfl (fun w0 => ?_)
 refine To.s (To.g (To.boxed rfl rfl rfl rfl rfl rfl (fun b1 => ?_)))
 refine To.a (To.n (To.t (To.s (To.s (To.g ?_)))))
 refine To.f fl54_0 ?_
 refine To.lo 0 c3 ?_
 refine To.n (To.t (To.b (To.s (To.s (To.g (To.eq ?_))))))
 refine To.a (To.n (To.t ?_))
 refine To.cp rfl (fun k5 => ?_) (fun k5 => ?_)
 refine To.sp (To.t (To.condT (congrArg (fun b => some (Value.bool b)) (decide_eq_true k5)) (To.s (To.g (To.f fl54_1 ?_)))))
 refine To.lo 0 c3 ?_
 refine To.a (To.n (To.t (To.rt (To.br (To.tr ?_)))))
 refine To.end1 (.inl rfl) Tryz.results105 rfl ?_
 simp [jR, k5]
 refine To.g (To.eq ?_)
 refine To.a (To.n (To.t ?_))
 refine To.cp rfl (fun k5_2 => ?_) (fun k5_2 => ?_)
 refine To.s (To.g (To.f fl54_1 ?_))
 refine To.lo 0 c3 ?_
 refine To.a (To.n (To.t (To.rt (To.br (To.tr ?_)))))
 refine To.end1 (.inl rfl) Tryz.results105 rfl ?_
 simp [jR, k5_2]
 refine To.s (To.s (To.g (To.eq ?_)))
 refine To.a (To.n (To.t ?_))
 refine To.cp rfl (fun k10 => ?_) (fun k10 => ?_)
 refine To.sp (To.t (To.condT (congrArg (fun b => some (Value.bool b)) (decide_eq_true k10)) (To.s (To.g (To.f fl54_2 ?_)))))
 refine To.lo 0 c3 ?_
 refine To.a (To.n (To.t (To.rt (To.br (To.tr ?_)))))
 refine To.end1 (.inl rfl) Tryz.results105 rfl ?_
 simp [jR, k10]
 refine To.g (To.eq ?_)
 refine To.a (To.n (To.t ?_))
 refine To.cp rfl (fun k10_2 => ?_) (fun k10_2 => ?_)
 refine To.s (To.g (To.f fl54_2 ?_))
 refine To.lo 0 c3 ?_
 refine To.a (To.n (To.t (To.rt (To.br (To.tr ?_)))))
 refine To.end1 (.inl rfl) Tryz.results105 rfl ?_
 simp [jR, k10_2]
 refine To.sp (To.bn (To.t (To.s (To.g (To.a (To.n (To.t (To.rt ?_))))))))
 refine To.end1 (.inl rfl) Tryz.results105 rfl ?_
 simp [jR, k5, k5_2, k10, k10_2]
theorem rmoves_fn (x : Ins) (hn : ((x.op : Nat) : Int) = 31 → 0 ≤ x.n ∧ x.n ≤ 4) :
    Does Tryz.prog 104 [.agg (Ins.rc x).toArray] [] (fun v _ => v = .tuple #[.int .i64 (mvP x), .int .i64 (mvQ x)]) := by
 refine Does.enter Tryz.func104 rfl Tryz.ntmps104 rfl (fun w0 => ?_)
 refine To.s (To.g (To.boxed rfl rfl rfl rfl rfl rfl (fun b1 => ?_)))
 refine To.a ?_
 refine To.a (To.n (To.t (To.s (To.b (To.s (To.g ?_))))))
 refine To.f fl54_0 ?_
 refine To.lo 0 c3 ?_
 refine To.le ?_
 refine To.rdP rfl rfl rfl (Rd.move rfl rfl) (fun g8 => ?_) (fun g8 => ?_)
 refine To.k ?_
 refine To.k ?_
 refine To.k ?_
 refine To.pT ?_
 refine To.a (To.n (To.t ?_))
 refine To.condT rfl (To.s (To.g (To.a ?_)))
 refine To.a (To.n (To.t (To.rt (To.br (To.tr ?_)))))
 refine To.end2 (.inl rfl) Tryz.results104 rfl rfl ?_
 have e1 : mvP x = 0 := by simp only [mvP]; (repeat' split) <;> omega
 have e2 : mvQ x = 1 := by simp only [mvQ]; split <;> omega
 rw [e1, e2]
 refine To.f fl54_0 ?_
 refine To.lo 0 c3 ?_
 refine To.eq ?_
 refine To.pF ?_
 refine To.a (To.n (To.t ?_))
 refine To.cp rfl (fun k4 => ?_) (fun k4 => ?_)
 refine To.s (To.g (To.a ?_))
 refine To.a (To.n (To.t (To.rt (To.br (To.tr ?_)))))
 refine To.end2 (.inl rfl) Tryz.results104 rfl rfl ?_
 have e1 : mvP x = 0 := by simp only [mvP]; (repeat' split) <;> omega
 have e2 : mvQ x = 1 := by simp only [mvQ]; split <;> omega
 rw [e1, e2]
 refine To.s (To.g (To.f fl54_0 ?_))
 refine To.lo 0 c3 ?_
 refine To.le ?_
 refine To.a (To.n (To.t ?_))
 refine To.cp rfl (fun k13 => ?_) (fun k13 => ?_)
 refine To.s (To.g (To.a ?_))
 refine To.a (To.n (To.t (To.rt (To.br (To.tr ?_)))))
 refine To.end2 (.inl rfl) Tryz.results104 rfl rfl ?_
 have e1 : mvP x = 1 := by simp only [mvP]; (repeat' split) <;> omega
 have e2 : mvQ x = 1 := by simp only [mvQ]; split <;> omega
 rw [e1, e2]
 refine To.s (To.g (To.f fl54_0 ?_))
 refine To.lo 0 c3 ?_
 refine To.le ?_
 refine To.a (To.n (To.t ?_))
 refine To.cp rfl (fun k17 => ?_) (fun k17 => ?_)
 refine To.s (To.g (To.a ?_))
 refine To.a (To.n (To.t (To.rt (To.br (To.tr ?_)))))
 refine To.end2 (.inl rfl) Tryz.results104 rfl rfl ?_
 have e1 : mvP x = 2 := by simp only [mvP]; (repeat' split) <;> omega
 have e2 : mvQ x = 1 := by simp only [mvQ]; split <;> omega
 rw [e1, e2]
 refine To.s (To.g (To.f fl54_0 ?_))
 refine To.lo 0 c3 ?_
 refine To.eq ?_
 refine To.rdP rfl rfl rfl (Rd.move rfl rfl) (fun g25 => ?_) (fun g25 => ?_)
 refine To.k ?_
 refine To.k ?_
 refine To.k ?_
 refine To.pT ?_
 refine To.m ?_
 refine To.k ?_
 refine To.k ?_
 refine To.k ?_
 refine To.pT ?_
 refine To.m ?_
 refine To.k ?_
 refine To.k ?_
 refine To.k ?_
 refine To.pT ?_
 refine To.a (To.n (To.t ?_))
 refine To.condT rfl (To.s (To.g (To.a ?_)))
 refine To.a (To.n (To.t (To.rt (To.br (To.tr ?_)))))
 refine To.end2 (.inl rfl) Tryz.results104 rfl rfl ?_
 have e1 : mvP x = 1 := by simp only [mvP]; (repeat' split) <;> omega
 have e2 : mvQ x = 0 := by simp only [mvQ]; split <;> omega
 rw [e1, e2]
 refine To.f fl54_0 ?_
 refine To.lo 0 c3 ?_
 refine To.eq ?_
 refine To.pF ?_
 refine To.rdP rfl rfl rfl (Rd.move rfl rfl) (fun g30 => ?_) (fun g30 => ?_)
 refine To.k ?_
 refine To.k ?_
 refine To.k ?_
 refine To.pT ?_
 refine To.m ?_
 refine To.k ?_
 refine To.k ?_
 refine To.k ?_
 refine To.pT ?_
 refine To.a (To.n (To.t ?_))
 refine To.condT rfl (To.s (To.g (To.a ?_)))
 refine To.a (To.n (To.t (To.rt (To.br (To.tr ?_)))))
 refine To.end2 (.inl rfl) Tryz.results104 rfl rfl ?_
 have e1 : mvP x = 1 := by simp only [mvP]; (repeat' split) <;> omega
 have e2 : mvQ x = 0 := by simp only [mvQ]; split <;> omega
 rw [e1, e2]
 refine To.f fl54_0 ?_
 refine To.lo 0 c3 ?_
 refine To.eq ?_
 refine To.pF ?_
 refine To.rdP rfl rfl rfl (Rd.move rfl rfl) (fun g35 => ?_) (fun g35 => ?_)
 refine To.k ?_
 refine To.k ?_
 refine To.k ?_
 refine To.pT ?_
 refine To.a (To.n (To.t ?_))
 refine To.condT rfl (To.s (To.g (To.a ?_)))
 refine To.a (To.n (To.t (To.rt (To.br (To.tr ?_)))))
 refine To.end2 (.inl rfl) Tryz.results104 rfl rfl ?_
 have e1 : mvP x = 1 := by simp only [mvP]; (repeat' split) <;> omega
 have e2 : mvQ x = 0 := by simp only [mvQ]; split <;> omega
 rw [e1, e2]
 refine To.f fl54_0 ?_
 refine To.lo 0 c3 ?_
 refine To.eq ?_
 refine To.pF ?_
 refine To.a (To.n (To.t ?_))
 refine To.cp rfl (fun k21 => ?_) (fun k21 => ?_)
 refine To.s (To.g (To.a ?_))
 refine To.a (To.n (To.t (To.rt (To.br (To.tr ?_)))))
 refine To.end2 (.inl rfl) Tryz.results104 rfl rfl ?_
 have e1 : mvP x = 1 := by simp only [mvP]; (repeat' split) <;> omega
 have e2 : mvQ x = 0 := by simp only [mvQ]; split <;> omega
 rw [e1, e2]
 refine To.s (To.g (To.f fl54_0 ?_))
 refine To.lo 0 c3 ?_
 refine To.eq ?_
 refine To.rdP rfl rfl rfl (Rd.move rfl rfl) (fun g44 => ?_) (fun g44 => ?_)
 refine To.k ?_
 refine To.k ?_
 refine To.k ?_
 refine To.pT ?_
 refine To.a (To.n (To.t ?_))
 refine To.condT rfl (To.s (To.g (To.a ?_)))
 refine To.a (To.n (To.t (To.rt (To.br (To.tr ?_)))))
 refine To.end2 (.inl rfl) Tryz.results104 rfl rfl ?_
 have e1 : mvP x = 2 := by simp only [mvP]; (repeat' split) <;> omega
 have e2 : mvQ x = 0 := by simp only [mvQ]; split <;> omega
 rw [e1, e2]
 refine To.f fl54_0 ?_
 refine To.lo 0 c3 ?_
 refine To.eq ?_
 refine To.pF ?_
 refine To.a (To.n (To.t ?_))
 refine To.cp rfl (fun k40 => ?_) (fun k40 => ?_)
 refine To.s (To.g (To.a ?_))
 refine To.a (To.n (To.t (To.rt (To.br (To.tr ?_)))))
 refine To.end2 (.inl rfl) Tryz.results104 rfl rfl ?_
 have e1 : mvP x = 2 := by simp only [mvP]; (repeat' split) <;> omega
 have e2 : mvQ x = 0 := by simp only [mvQ]; split <;> omega
 rw [e1, e2]
 refine To.s (To.g (To.f fl54_0 ?_))
 refine To.lo 0 c3 ?_
 refine To.eq ?_
 refine To.a (To.n (To.t ?_))
 refine To.cp rfl (fun k49 => ?_) (fun k49 => ?_)
 refine To.s (To.g (To.f fl54_3 ?_))
 refine To.lo 0 c2 ?_
 refine To.a ?_
 refine To.a (To.n (To.t (To.rt (To.br (To.tr ?_)))))
 refine To.end2 (.inl rfl) Tryz.results104 rfl rfl ?_
 have e1 : mvP x = x.n := by simp only [mvP]; (repeat' split) <;> omega
 have e2 : mvQ x = 0 := by simp only [mvQ]; split <;> omega
 rw [e1, e2]
 refine To.s (To.g (To.f fl54_0 ?_))
 refine To.lo 0 c3 ?_
 refine To.eq ?_
 refine To.a (To.n (To.t ?_))
 refine To.cp rfl (fun k55 => ?_) (fun k55 => ?_)
 refine To.s (To.g (To.f fl54_3 ?_))
 refine To.lo 0 c2 ?_
 refine To.r (Rd.add64 rfl rfl rfl (by omega)) ?_
 refine To.a ?_
 refine To.a (To.n (To.t (To.rt (To.br (To.tr ?_)))))
 refine To.end2 (.inl rfl) Tryz.results104 rfl rfl ?_
 have e1 : mvP x = x.n + 1 := by simp only [mvP]; (repeat' split) <;> omega
 have e2 : mvQ x = 0 := by simp only [mvQ]; split <;> omega
 rw [e1, e2]
 refine To.sp (To.bn (To.t (To.s (To.g (To.a ?_)))))
 refine To.a (To.n (To.t (To.rt ?_)))
 refine To.end2 (.inl rfl) Tryz.results104 rfl rfl ?_
 have e1 : mvP x = 0 := by simp only [mvP]; (repeat' split) <;> omega
 have e2 : mvQ x = 0 := by simp only [mvQ]; split <;> omega
 rw [e1, e2]
def formR (pr : Int) (nc : Nat) (x : Ins) : Bool := !((decide (((x.op : Nat) : Int) < 1)) || decide (34 < ((x.op : Nat) : Int))) && (!((!uA ((x.op : Nat) : Int) && decide (x.a ≠ 0)) || ((!uB ((x.op : Nat) : Int) && decide (x.b ≠ 0)) || (!uN ((x.op : Nat) : Int) && decide (x.n ≠ 0)))) && (!((uA ((x.op : Nat) : Int) && (!((decide (((x.op : Nat) : Int) = 27)) || decide (((x.op : Nat) : Int) = 28)) && (decide (x.a < 0) || decide (63 < x.a)))) || (decide (((x.op : Nat) : Int) = 3) && decide (pr ≤ x.a))) && (!(((decide (((x.op : Nat) : Int) = 30)) || decide (((x.op : Nat) : Int) = 31)) && (decide (x.b < 0) || (decide (63 < x.b) || (decide (x.n < 0) || decide (4 < x.n))))) && (!(((decide (((x.op : Nat) : Int) = 27)) || decide (((x.op : Nat) : Int) = 28)) || (decide (((x.op : Nat) : Int) = 32) || decide (((x.op : Nat) : Int) = 33))) || (decide (0 ≤ jR x) && decide (jR x ≤ ((nc : Nat) : Int)))))))
end Go.Proofs.YtllalpnmagpkfaaGreatDoor
