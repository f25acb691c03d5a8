/- Units without tables, sends and disk are run. Own text (walks printed by sx.py). -/
import Derived.Test.YtoehnbacbobhiaaGreatDoorL1
import Derived.Test.YtoehnbacbobhiaaGreatDoorX6
set_option linter.unusedVariables false
set_option linter.unusedSimpArgs false
namespace Go.Proofs.YtoehnbacbobhiaaGreatDoor
open Go.RowKit Go.Flow Go.Mem Go.Sep
set_option maxHeartbeats 2000000 in
set_option maxRecDepth 100000 in
theorem len64_fn (n : Nat) (hn : n < 256) :
    Does Tryz.prog 62 [.int .u64 ((n : Nat) : Int)] [] (fun v Γ' => ∃ k : Int, v = .int .i64 k ∧ Γ' = []) := by
  refine Does.enter Tryz.func62 rfl Tryz.ntmps62 rfl (fun w0 => ?_)
  refine To.seq (To.reg (To.a (To.nil (To.thenN (To.seq (To.seq (To.reg ?_)))))))
  refine To.m ?_
  refine To.r (Rd.geq rfl rfl rfl) ?_
  refine To.nil (To.thenN ?_)
  refine To.condP rfl (fun c4 => ?_) (fun c4 => ?_)
  ·
   exact absurd c4 (by omega)
  refine To.skip (To.thenN (To.seq (To.seq (To.reg (To.m ?_)))))
  refine To.r (Rd.geq rfl rfl rfl) ?_
  refine To.nil (To.thenN ?_)
  refine To.condP rfl (fun c8 => ?_) (fun c8 => ?_)
  ·
   exact absurd c8 (by omega)
  refine To.skip (To.thenN (To.seq (To.seq (To.reg (To.m ?_)))))
  refine To.r (Rd.geq rfl rfl rfl) ?_
  refine To.nil (To.thenN ?_)
  refine To.condP rfl (fun c14 => ?_) (fun c14 => ?_)
  ·
   exact absurd c14 (by omega)
  refine To.skip (To.thenN (To.seq (To.reg (To.m ?_))))
  refine To.m ?_
  refine To.r (Rd.conv rfl rfl Tryz.underlying146 Tryz.underlying5 (IntWalk.u8_in _ (by omega))) ?_
  refine To.letter (j := n) rfl rfl rfl rfl Tryz.underlying9 rfl rfl (by show n < 256; exact hn) (fun n22 hn22 => ?_)
  refine To.r (Rd.conv rfl rfl Tryz.underlying5 Tryz.underlying3 (IntWalk.i64_in _ (by omega))) ?_
  refine To.r (Rd.add64 rfl rfl rfl (by omega)) ?_
  refine To.a (To.nil (To.thenN (To.ret ?_)))
  refine To.only [] rfl ?_
  refine To.end1 (.inl rfl) Tryz.results62 rfl ?_
  exact ⟨_, rfl, rfl⟩
set_option maxHeartbeats 2000000 in
set_option maxRecDepth 100000 in
theorem blen_fn (n : Nat) (hn : n < 256) :
    Does Tryz.prog 33 [.int .u64 ((n : Nat) : Int)] [] (fun v Γ' => ∃ k : Int, v = .int .i64 k ∧ Γ' = []) := by
  refine Does.enter Tryz.func33 rfl Tryz.ntmps33 rfl (fun w0 => ?_)
  refine To.seq (To.reg (To.a (To.nil (To.thenN (To.seq ?_)))))
  refine To.condF rfl ?_
  refine To.skip (To.thenN (To.seq (To.reg (To.m ?_))))
  refine To.callQ rfl rfl rfl (Ent.fn rfl rfl ca62) (len64_fn n (by omega)) rfl (oks_nil _) ?_
  rintro _ _ ⟨k1, rfl, rfl⟩
  refine ⟨rfl, ?_⟩
  refine To.a (To.nil (To.thenN (To.ret ?_)))
  refine To.only [] rfl ?_
  refine To.end1 (.inl rfl) Tryz.results33 rfl ?_
  exact ⟨_, rfl, rfl⟩
theorem ros_none {Γ : List Chunk} {w : World} {α : Type} {enc : α → List Value} {size : Nat} (E : Enc enc size) (hp : 0 < size) {A : Option Addr} {l : List α} (hA : A.isNone = true) (i : Nat) (h : Γ[i]? = some (ros enc A l)) (hs : sat Γ w) : l = [] := by
  cases hl : l with
  | nil => rfl
  | cons x r =>
    have := ros_some E hp (A := A) (l := l) (by rw [hl]; simp) i h hs
    rw [hA] at this; cases this
set_option maxHeartbeats 2000000 in
set_option maxRecDepth 100000 in
theorem clone64_fn (A : Option Addr) (q : Nat) (l : List Int) (hl : l.length ≤ 1000000) :
    Does Tryz.prog 18 [.slice A l.length q] [ros encI A l] (fun v Γ' => ∃ B p, v = .slice B l.length p ∧ Γ' = [rows encI 2 1 B p l]) := by
  refine Does.enter Tryz.func18 rfl Tryz.ntmps18 rfl (fun w0 => ?_)
  refine To.seq (To.reg (To.a (To.nil (To.thenN (To.seq (To.seq (To.reg ?_)))))))
  refine To.m ?_
  refine To.r (Rd.as (v' := .bool A.isNone) rfl (Rd.eqlSl (A := A) rfl Tryz.underlying24 rfl rfl)) ?_
  refine To.nil (To.thenN ?_)
  refine To.cond rfl (fun c4 => ?_) (fun c4 => ?_)
  ·
   refine To.seq ?_
   refine To.know (p := l = []) (fun w hw => ros_none encI_ok (by decide) c4 0 rfl hw) (fun hl0 => ?_)
   subst hl0
   refine To.nilRow (encI) 2 1 ?_
   refine To.reg (To.a (To.nil (To.thenN (To.ret (To.thenR ?_)))))
   refine To.only [0] rfl ?_
   refine To.end1 (.inl rfl) Tryz.results18 rfl ?_
   exact ⟨_, _, rfl, rfl⟩
  refine To.skip (To.thenN (To.seq (To.reg ?_)))
  refine To.mk rfl rfl rfl (Mk.slice0R (enc := encI) rfl s24) ?_
  rintro _ _ ⟨A5, rfl, rfl⟩
  refine To.m ?_
  refine To.ge rfl rfl rfl (Ge.appendL encI_ok (i := 0) (m := l) rfl s24 rfl rfl rfl (src_ro (i := 1) rfl) (by first | omega | (simp only [List.length_append, List.length_cons, List.length_nil]; omega)) (by first | omega | (simp only [List.length_append, List.length_cons, List.length_nil]; omega))) ?_
  rintro _ _ ⟨A7, q7, rfl, rfl⟩
  refine To.a (To.nil (To.thenN (To.ret ?_)))
  refine To.only [0] rfl ?_
  refine To.end1 (.inl rfl) Tryz.results18 rfl ?_
  exact ⟨_, _, rfl, rfl⟩
set_option maxHeartbeats 2000000 in
set_option maxRecDepth 100000 in
theorem cloneN_fn  :
    Does Tryz.prog 16 [.slice none 0 0] [] (fun v _ => v = .slice none 0 0) := by
  refine Does.enter Tryz.func16 rfl Tryz.ntmps16 rfl (fun w0 => ?_)
  refine To.seq (To.reg (To.a (To.nil (To.thenN (To.seq (To.seq (To.reg ?_)))))))
  refine To.m ?_
  refine To.r (Rd.as (v' := .bool true) rfl (Rd.eqlSl (A := none) rfl Tryz.underlying48 rfl rfl)) ?_
  refine To.nil (To.thenN ?_)
  refine To.condT rfl ?_
  refine To.seq (To.reg (To.a (To.nil (To.thenN (To.ret (To.thenR ?_))))))
  refine To.end1 (.inl rfl) Tryz.results16 rfl ?_
  rfl
set_option maxHeartbeats 2000000 in
set_option maxRecDepth 100000 in
theorem cloneT_fn  :
    Does Tryz.prog 19 [.slice none 0 0] [] (fun v _ => v = .slice none 0 0) := by
  refine Does.enter Tryz.func19 rfl Tryz.ntmps19 rfl (fun w0 => ?_)
  refine To.seq (To.reg (To.a (To.nil (To.thenN (To.seq (To.seq (To.reg ?_)))))))
  refine To.m ?_
  refine To.r (Rd.as (v' := .bool true) rfl (Rd.eqlSl (A := none) rfl Tryz.underlying37 rfl rfl)) ?_
  refine To.nil (To.thenN ?_)
  refine To.condT rfl ?_
  refine To.seq (To.reg (To.a (To.nil (To.thenN (To.ret (To.thenR ?_))))))
  refine To.end1 (.inl rfl) Tryz.results19 rfl ?_
  rfl
set_option maxHeartbeats 2000000 in
set_option maxRecDepth 100000 in
theorem insO_fn  :
    Does Tryz.prog 52 [.slice none 0 0, .int .i64 0, .int .i64 0] [] (fun v _ => v = .tuple #[]) := by
  refine Does.enter Tryz.func52 rfl Tryz.ntmps52 rfl (fun w0 => ?_)
  refine To.seq (To.reg (To.m ?_))
  refine To.r (Rd.as (v' := .int .i64 (1)) rfl (Rd.add64 (m := 0) (n := 1) rfl rfl rfl (by decide))) ?_
  refine To.a (To.nil (To.thenN (To.block ?_)))
  refine To.rounds 1 ?_
  refine To.roundS ?_
  refine To.seq (To.seq (To.reg (To.m ?_)))
  refine To.m ?_
  refine To.r (Rd.lss rfl rfl rfl) ?_
  refine To.nil (To.thenN ?_)
  refine To.condF rfl ?_
  refine To.exit (To.thenX (To.thenX (To.blockX ?_)))
  refine To.end0 (.inr rfl) Tryz.results52 ?_
  rfl
set_option maxHeartbeats 2000000 in
set_option maxRecDepth 100000 in
theorem pdqO_fn (k : Int) :
    Does Tryz.prog 32 [.slice none 0 0, .int .i64 0, .int .i64 0, .int .i64 k] [] (fun v _ => v = .tuple #[]) := by
  refine Does.enter Tryz.func32 rfl Tryz.ntmps32 rfl (fun w0 => ?_)
  refine To.seq (To.reg (To.a (To.nil (To.thenN (To.seq (To.reg ?_))))))
  refine To.a (To.nil (To.thenN (To.block ?_)))
  refine To.loopOnce ?_
  refine To.block (To.seq (To.reg (To.m ?_)))
  refine To.m ?_
  refine To.r (Rd.as (v' := .int .i64 (0)) rfl (Rd.sub64 (m := 0) (n := 0) rfl rfl rfl (by decide))) ?_
  refine To.a (To.nil (To.thenN (To.seq (To.seq (To.reg ?_)))))
  refine To.m ?_
  refine To.r (Rd.leq rfl rfl rfl) ?_
  refine To.nil (To.thenN ?_)
  refine To.condT rfl ?_
  refine To.seq (To.reg (To.m ?_))
  refine To.m ?_
  refine To.m ?_
  refine To.callV rfl rfl rfl (Ent.fn rfl rfl ca52) (insO_fn) rfl (oks_nil _) ?_
  refine To.nil (To.thenN (To.ret (To.thenR (To.blockR (To.thenR (To.blockR ?_))))))
  refine To.end0 (.inl rfl) Tryz.results32 ?_
  rfl
set_option maxHeartbeats 2000000 in
set_option maxRecDepth 100000 in
theorem sortO_fn  :
    Does Tryz.prog 17 [.slice none 0 0] [] (fun v _ => v = .tuple #[]) := by
  refine Does.enter Tryz.func17 rfl Tryz.ntmps17 rfl (fun w0 => ?_)
  refine To.seq (To.reg (To.m ?_))
  refine To.r (Rd.len rfl rfl Tryz.underlying48) ?_
  refine To.a (To.nil (To.thenN (To.reg ?_)))
  refine To.m ?_
  refine To.m ?_
  refine To.m ?_
  refine To.r (Rd.conv rfl rfl Tryz.underlying3 Tryz.underlying117 (wrapU (by first | omega | (simp only [List.length_append, List.length_cons, List.length_nil]; omega)))) ?_
  refine To.callQ rfl rfl rfl (Ent.fn rfl rfl ca33) (blen_fn 0 (by decide)) rfl (oks_nil _) ?_
  rintro _ _ ⟨k1, rfl, rfl⟩
  refine ⟨rfl, ?_⟩
  refine To.callV rfl rfl rfl (Ent.fn rfl rfl ca32) (pdqO_fn k1) rfl (oks_nil _) ?_
  refine To.nil ?_
  refine To.end0 (.inr rfl) Tryz.results17 ?_
  rfl
def referB (x : Ins) (nv nt nf : Nat) : Bool :=
  if ((x.op : Nat) : Int) = 2 ∨ ((x.op : Nat) : Int) = 24 ∨ ((x.op : Nat) : Int) = 33 then decide (x.a < nv) else if ((x.op : Nat) : Int) = 4 then decide (x.a < nf) else
  if ((x.op : Nat) : Int) = 6 ∨ ((x.op : Nat) : Int) = 7 ∨ ((x.op : Nat) : Int) = 8 ∨ ((x.op : Nat) : Int) = 25 ∨ ((x.op : Nat) : Int) = 26 then decide (x.a < nt) else true
set_option maxHeartbeats 2000000 in
set_option maxRecDepth 100000 in
theorem refers_fn (x : Ins) (Av At Ad Aa Ag Af : Option Addr) (nv qv nt qt nd qd na qa nf qg nl qf : Nat) (now dk : Int) :
    Does Tryz.prog 15 [.agg (Ins.cells x).toArray, .agg #[.slice Av nv qv, .slice At nt qt, .slice Ad nd qd], .agg #[.slice Aa na qa, .int .i64 now, .slice Ag nf qg, .int .i64 dk, .slice Af nl qf]] [] (fun v _ => v = .bool (referB x nv nt nf)) := by
  refine Does.enter Tryz.func15 rfl Tryz.ntmps15 rfl (fun w0 => ?_)
  refine To.seq (To.reg ?_)
  refine To.boxed rfl rfl rfl rfl rfl rfl (fun b3 => ?_)
  refine To.boxed rfl rfl rfl rfl rfl rfl (fun b4 => ?_)
  refine To.boxed rfl rfl rfl rfl rfl rfl (fun b5 => ?_)
  refine To.a (To.nil (To.thenN (To.seq (To.seq (To.reg ?_)))))
  refine To.f fl36_0 ?_
  refine To.lo 2 c34 ?_
  refine To.nil (To.thenN (To.block (To.seq (To.seq (To.reg ?_)))))
  refine To.r (Rd.eql rfl rfl rfl) ?_
  refine To.a (To.nil (To.thenN ?_))
  refine To.condP rfl (fun k9 => ?_) (fun k9 => ?_)
  ·
   refine To.skip (To.thenN ?_)
   refine To.condT (congrArg (fun b => some (Value.bool b)) (decide_eq_true k9)) ?_
   refine To.seq (To.reg ?_)
   refine To.f fl36_1 ?_
   refine To.lo 2 c3 ?_
   refine To.f fl42_0 ?_
   refine To.lo 1 c24 ?_
   refine To.r (Rd.len rfl rfl Tryz.underlying24) ?_
   refine To.r (Rd.lss rfl rfl rfl) ?_
   refine To.a (To.nil (To.thenN (To.ret (To.blockR (To.thenR ?_)))))
   refine To.end1 (.inl rfl) Tryz.results15 rfl ?_
   simp [referB, k9]
  refine To.seq (To.reg ?_)
  refine To.r (Rd.eql rfl rfl rfl) ?_
  refine To.a (To.nil (To.thenN ?_))
  refine To.condP rfl (fun k9_2 => ?_) (fun k9_2 => ?_)
  ·
   refine To.skip (To.thenN ?_)
   refine To.condT (congrArg (fun b => some (Value.bool b)) (decide_eq_true k9_2)) ?_
   refine To.seq (To.reg ?_)
   refine To.f fl36_1 ?_
   refine To.lo 2 c3 ?_
   refine To.f fl42_0 ?_
   refine To.lo 1 c24 ?_
   refine To.r (Rd.len rfl rfl Tryz.underlying24) ?_
   refine To.r (Rd.lss rfl rfl rfl) ?_
   refine To.a (To.nil (To.thenN (To.ret (To.blockR (To.thenR ?_)))))
   refine To.end1 (.inl rfl) Tryz.results15 rfl ?_
   simp [referB, k9_2]
  refine To.reg ?_
  refine To.r (Rd.eql rfl rfl rfl) ?_
  refine To.a (To.nil (To.thenN ?_))
  refine To.condP rfl (fun k9_3 => ?_) (fun k9_3 => ?_)
  ·
   refine To.seq (To.reg ?_)
   refine To.f fl36_1 ?_
   refine To.lo 2 c3 ?_
   refine To.f fl42_0 ?_
   refine To.lo 1 c24 ?_
   refine To.r (Rd.len rfl rfl Tryz.underlying24) ?_
   refine To.r (Rd.lss rfl rfl rfl) ?_
   refine To.a (To.nil (To.thenN (To.ret (To.blockR (To.thenR ?_)))))
   refine To.end1 (.inl rfl) Tryz.results15 rfl ?_
   simp [referB, k9_3]
  refine To.seq (To.reg ?_)
  refine To.r (Rd.eql rfl rfl rfl) ?_
  refine To.a (To.nil (To.thenN ?_))
  refine To.condP rfl (fun k19 => ?_) (fun k19 => ?_)
  ·
   refine To.seq (To.reg ?_)
   refine To.f fl36_1 ?_
   refine To.lo 2 c3 ?_
   refine To.f fl50_2 ?_
   refine To.lo 0 c47 ?_
   refine To.r (Rd.len rfl rfl Tryz.underlying47) ?_
   refine To.r (Rd.lss rfl rfl rfl) ?_
   refine To.a (To.nil (To.thenN (To.ret (To.blockR (To.thenR ?_)))))
   refine To.end1 (.inl rfl) Tryz.results15 rfl ?_
   simp [referB, k19]
  refine To.seq (To.seq (To.reg ?_))
  refine To.r (Rd.eql rfl rfl rfl) ?_
  refine To.a (To.nil (To.thenN ?_))
  refine To.condP rfl (fun k27 => ?_) (fun k27 => ?_)
  ·
   refine To.skip (To.thenN ?_)
   refine To.condT (congrArg (fun b => some (Value.bool b)) (decide_eq_true k27)) ?_
   refine To.seq (To.reg ?_)
   refine To.f fl36_1 ?_
   refine To.lo 2 c3 ?_
   refine To.f fl42_1 ?_
   refine To.lo 1 c37 ?_
   refine To.r (Rd.len rfl rfl Tryz.underlying37) ?_
   refine To.r (Rd.lss rfl rfl rfl) ?_
   refine To.a (To.nil (To.thenN (To.ret (To.blockR (To.thenR ?_)))))
   refine To.end1 (.inl rfl) Tryz.results15 rfl ?_
   simp [referB, k27]
  refine To.seq (To.reg ?_)
  refine To.r (Rd.eql rfl rfl rfl) ?_
  refine To.a (To.nil (To.thenN ?_))
  refine To.condP rfl (fun k27_2 => ?_) (fun k27_2 => ?_)
  ·
   refine To.skip (To.thenN ?_)
   refine To.condT (congrArg (fun b => some (Value.bool b)) (decide_eq_true k27_2)) ?_
   refine To.seq (To.reg ?_)
   refine To.f fl36_1 ?_
   refine To.lo 2 c3 ?_
   refine To.f fl42_1 ?_
   refine To.lo 1 c37 ?_
   refine To.r (Rd.len rfl rfl Tryz.underlying37) ?_
   refine To.r (Rd.lss rfl rfl rfl) ?_
   refine To.a (To.nil (To.thenN (To.ret (To.blockR (To.thenR ?_)))))
   refine To.end1 (.inl rfl) Tryz.results15 rfl ?_
   simp [referB, k27_2]
  refine To.seq (To.reg ?_)
  refine To.r (Rd.eql rfl rfl rfl) ?_
  refine To.a (To.nil (To.thenN ?_))
  refine To.condP rfl (fun k27_3 => ?_) (fun k27_3 => ?_)
  ·
   refine To.skip (To.thenN ?_)
   refine To.condT (congrArg (fun b => some (Value.bool b)) (decide_eq_true k27_3)) ?_
   refine To.seq (To.reg ?_)
   refine To.f fl36_1 ?_
   refine To.lo 2 c3 ?_
   refine To.f fl42_1 ?_
   refine To.lo 1 c37 ?_
   refine To.r (Rd.len rfl rfl Tryz.underlying37) ?_
   refine To.r (Rd.lss rfl rfl rfl) ?_
   refine To.a (To.nil (To.thenN (To.ret (To.blockR (To.thenR ?_)))))
   refine To.end1 (.inl rfl) Tryz.results15 rfl ?_
   simp [referB, k27_3]
  refine To.seq (To.reg ?_)
  refine To.r (Rd.eql rfl rfl rfl) ?_
  refine To.a (To.nil (To.thenN ?_))
  refine To.condP rfl (fun k27_4 => ?_) (fun k27_4 => ?_)
  ·
   refine To.skip (To.thenN ?_)
   refine To.condT (congrArg (fun b => some (Value.bool b)) (decide_eq_true k27_4)) ?_
   refine To.seq (To.reg ?_)
   refine To.f fl36_1 ?_
   refine To.lo 2 c3 ?_
   refine To.f fl42_1 ?_
   refine To.lo 1 c37 ?_
   refine To.r (Rd.len rfl rfl Tryz.underlying37) ?_
   refine To.r (Rd.lss rfl rfl rfl) ?_
   refine To.a (To.nil (To.thenN (To.ret (To.blockR (To.thenR ?_)))))
   refine To.end1 (.inl rfl) Tryz.results15 rfl ?_
   simp [referB, k27_4]
  refine To.reg ?_
  refine To.r (Rd.eql rfl rfl rfl) ?_
  refine To.a (To.nil (To.thenN ?_))
  refine To.condP rfl (fun k27_5 => ?_) (fun k27_5 => ?_)
  ·
   refine To.seq (To.reg ?_)
   refine To.f fl36_1 ?_
   refine To.lo 2 c3 ?_
   refine To.f fl42_1 ?_
   refine To.lo 1 c37 ?_
   refine To.r (Rd.len rfl rfl Tryz.underlying37) ?_
   refine To.r (Rd.lss rfl rfl rfl) ?_
   refine To.a (To.nil (To.thenN (To.ret (To.blockR (To.thenR ?_)))))
   refine To.end1 (.inl rfl) Tryz.results15 rfl ?_
   simp [referB, k27_5]
  refine To.skip (To.blockN (To.thenN (To.seq (To.reg (To.a (To.nil (To.thenN (To.ret ?_))))))))
  refine To.end1 (.inl rfl) Tryz.results15 rfl ?_
  simp [referB, k9, k9_2, k9_3, k19, k27, k27_2, k27_3, k27_4, k27_5]
end Go.Proofs.YtoehnbacbobhiaaGreatDoor
