/- Lists compared; states compared. Own text (walks printed by sx.py). -/
import Derived.Test.YtoehnbacbobhiaaGreatDoorL1
import Derived.Test.YtoehnbacbobhiaaGreatDoorX13
import Derived.Test.YtoehnbacbobhiaaGreatDoorL3
set_option linter.unusedVariables false
set_option linter.unusedSimpArgs false
namespace Go.Proofs.YtoehnbacbobhiaaGreatDoor
open Go.RowKit Go.Flow Go.Mem Go.Sep
theorem arrPr : Arr2 Tryz.prog 108 := by
  obtain ⟨i, hi⟩ : ∃ i, Tryz.prog.info? 2 = some i := Option.isSome_iff_exists.1 (by kernel_rfl)
  exact ⟨⟨2, i, Tryz.underlying108, Tryz.underlying2, hi, by kernel_rfl⟩, by kernel_rfl⟩
theorem eq_len {α : Type} {l m : List α} {i : Nat} (h1 : l.length = m.length) (h2 : l.length ≤ i) (h : l.take i = m.take i) : l = m := by
  rwa [List.take_of_length_le h2, List.take_of_length_le (by omega)] at h
theorem eq_ne {α : Type} {l m : List α} {i : Nat} {x y : α} (hx : l[i]? = some x) (hy : m[i]? = some y) (h : x ≠ y) : l ≠ m := fun e => h (by rw [e, hy] at hx; exact (Option.some.inj hx).symm)
set_option maxHeartbeats 2000000 in
set_option maxRecDepth 100000 in
theorem sameArgs_fn (A B : Option Addr) (ca cb : Nat) (l m : List Int) (hl : l.length ≤ 1000000000000) :
    Does Tryz.prog 24 [.slice A l.length ca, .slice B m.length cb] [ros encI A l, ros encI B m] (fun v _ => v = .bool (decide (l = m))) := by
  refine Does.enter Tryz.func24 rfl Tryz.ntmps24 rfl (fun w0 => ?_)
  refine To.seq (To.reg (To.a (To.nil (To.thenN (To.seq (To.seq (To.reg ?_)))))))
  refine To.m ?_
  refine To.r (Rd.len rfl rfl Tryz.underlying24) ?_
  refine To.m ?_
  refine To.r (Rd.len rfl rfl Tryz.underlying24) ?_
  refine To.r (Rd.neq rfl rfl rfl) ?_
  refine To.nil (To.thenN ?_)
  refine To.condP rfl (fun c10 => ?_) (fun c10 => ?_)
  ·
   refine To.seq (To.reg (To.a (To.nil (To.thenN (To.ret (To.thenR ?_))))))
   refine To.end1 (.inl rfl) Tryz.results24 rfl ?_
   exact congrArg Value.bool (decide_eq_false (fun e => c10 (by rw [e]))).symm
  refine To.skip (To.thenN (To.seq (To.seq (To.reg (To.m ?_)))))
  refine To.r (Rd.len rfl rfl Tryz.underlying24) ?_
  refine To.m (To.nil (To.thenN (To.block ?_)))
  refine To.sub [(0, .slice A l.length ca), (1, .slice B m.length cb), (11, .slice A l.length ca), (12, .int .i64 ((l.length : Nat) : Int)), (13, .int .i64 ((0 : Nat) : Int))] ⟨rfl, rfl, rfl, rfl, rfl, trivial⟩ ?_
  refine To.only [0, 0] rfl ?_
  refine To.loop (fun mz ρ Γ => ∃ (i : Nat), ρ = [(0, .slice A l.length ca), (1, .slice B m.length cb), (11, .slice A l.length ca), (12, .int .i64 ((l.length : Nat) : Int)), (13, .int .i64 ((i : Nat) : Int))] ∧ Γ = [ros encI A l, ros encI B m] ∧ mz = l.length - i ∧ (i ≤ l.length) ∧ (l.take i = m.take i)) (l.length - 0) ⟨0, rfl, rfl, rfl, (Nat.zero_le _), rfl⟩ ?_
  rintro mz _ _ ⟨i, rfl, rfl, rfl, hi, hI⟩
  refine To.seq (To.reg ?_)
  refine To.r (Rd.lss rfl rfl rfl) ?_
  refine To.nil (To.thenN (To.seq ?_))
  refine To.condP rfl (fun c14 => ?_) (fun c14 => ?_)
  ·
   obtain ⟨x, hx⟩ : ∃ z0, l[i]? = some z0 := ⟨l[i]'(by omega), List.getElem?_eq_getElem _⟩
   obtain ⟨y, hy⟩ : ∃ z0, m[i]? = some z0 := ⟨m[i]'(by omega), List.getElem?_eq_getElem _⟩
   refine To.skip (To.thenN (To.seq (To.block (To.seq (To.reg (To.m ?_))))))
   refine To.a (To.nil (To.thenN (To.seq ?_)))
   refine To.flow [ros encI A l, ros encI B m] [⟨0, [], 0⟩, ⟨1, [], 0⟩, ⟨4, [], 0⟩, ⟨5, [], 0⟩, ⟨2, [], 1⟩, ⟨3, [], 1⟩, ⟨6, [], 1⟩, ⟨7, [], 1⟩, ⟨8, [], 0⟩] mixed (by kernel_rfl) (oks_cons (oks_at 0 rfl) (oks_cons (oks_at 1 rfl) (oks_nil _))) ?_
   refine FlowS.mo ?_
   refine FlowS.mo ?_
   refine FlowS.mo ?_
   refine FlowS.mo ?_
   refine FlowS.r rfl (Rd.indexRos encI_ok (i := 0) (j := i) rfl rfl rfl s24 rfl hx) ?_
   refine FlowS.r rfl (Rd.load (i := 0) rfl rfl c2 rfl (gives_1 (ros_gives encI_ok hx) rfl)) ?_
   refine FlowS.r rfl (Rd.indexRos encI_ok (i := 1) (j := i) rfl rfl rfl s24 rfl hy) ?_
   refine FlowS.r rfl (Rd.load (i := 1) rfl rfl c2 rfl (gives_1 (ros_gives encI_ok hy) rfl)) ?_
   refine FlowS.f rfl (Rd.neq rfl rfl rfl) ?_
   refine FlowS.fin ?_
   refine To.thenN ?_
   refine To.condP rfl (fun c24 => ?_) (fun c24 => ?_)
   ·
    refine To.seq (To.reg (To.a (To.nil (To.thenN (To.ret (To.blockR (To.thenR (To.thenR (To.blockR (To.thenR ?_))))))))))
    refine To.end1 (.inl rfl) Tryz.results24 rfl ?_
    exact congrArg Value.bool (decide_eq_false (eq_ne hx hy c24)).symm
   refine To.skip (To.blockN (To.thenN (To.reg ?_)))
   refine To.r (Rd.inc rfl rfl rfl (by omega)) ?_
   refine To.m (To.nil (To.thenN ?_))
   refine To.sub [(0, .slice A l.length ca), (1, .slice B m.length cb), (11, .slice A l.length ca), (12, .int .i64 ((l.length : Nat) : Int)), (13, .int .i64 (((i + 1) : Nat) : Int))] ⟨rfl, rfl, rfl, rfl, rfl, trivial⟩ ?_
   refine To.only [0, 0] rfl ?_
   refine To.again (l.length - (i + 1)) (by omega) ⟨i + 1, rfl, rfl, rfl, (by omega), (by rw [take_of_get hx, take_of_get hy, hI, show x = y from Decidable.of_not_not c24])⟩
  refine To.exit (To.thenX (To.thenX (To.blockX (To.thenN (To.seq (To.reg (To.a (To.nil (To.thenN (To.ret ?_))))))))))
  refine To.end1 (.inl rfl) Tryz.results24 rfl ?_
  exact congrArg Value.bool (decide_eq_true (eq_len (by omega) (by omega) hI)).symm
end Go.Proofs.YtoehnbacbobhiaaGreatDoor
