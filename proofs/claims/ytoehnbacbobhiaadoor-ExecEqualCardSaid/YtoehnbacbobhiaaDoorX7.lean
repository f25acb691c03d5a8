/- Units without tables, sends and disk are run. Own text (walks printed by sx.py). -/
import Derived.Test.YtoehnbacbobhiaaDoorX6
namespace Go.Proofs.YtoehnbacbobhiaaDoor
open Go.RowKit Go.Flow Go.Mem Go.Sep
set_option maxHeartbeats 2000000 in
set_option maxRecDepth 100000 in
theorem len64_fn (n : Nat) (hn : n < 256) :
    Does Tryd.prog 48 [.int .u64 ((n : Nat) : Int)] [] (fun v Γ' => ∃ k : Int, v = .int .i64 k ∧ Γ' = []) := by
  refine Does.enter Tryd.func48 rfl Tryd.ntmps48 rfl (fun w0 => ?_)
  refine To.seq ?_
  refine To.reg ?_
  refine To.rd rfl rfl rfl (Rd.assign rfl rfl) ?_
  refine To.nil ?_
  refine To.thenN ?_
  refine To.seq ?_
  refine To.seq ?_
  refine To.reg ?_
  refine To.rd rfl rfl rfl (Rd.move rfl rfl) ?_
  refine To.rd rfl rfl rfl (Rd.geq rfl rfl rfl) ?_
  refine To.nil ?_
  refine To.thenN ?_
  refine To.condP rfl (fun c4 => ?_) (fun c4 => ?_)
  ·
    exact absurd c4 (by omega)
  ·
    refine To.skip ?_
    refine To.thenN ?_
    refine To.seq ?_
    refine To.seq ?_
    refine To.reg ?_
    refine To.rd rfl rfl rfl (Rd.move rfl rfl) ?_
    refine To.rd rfl rfl rfl (Rd.geq rfl rfl rfl) ?_
    refine To.nil ?_
    refine To.thenN ?_
    refine To.condP rfl (fun c8 => ?_) (fun c8 => ?_)
    ·
      exact absurd c8 (by omega)
    ·
      refine To.skip ?_
      refine To.thenN ?_
      refine To.seq ?_
      refine To.seq ?_
      refine To.reg ?_
      refine To.rd rfl rfl rfl (Rd.move rfl rfl) ?_
      refine To.rd rfl rfl rfl (Rd.geq rfl rfl rfl) ?_
      refine To.nil ?_
      refine To.thenN ?_
      refine To.condP rfl (fun c14 => ?_) (fun c14 => ?_)
      ·
        exact absurd c14 (by omega)
      ·
        refine To.skip ?_
        refine To.thenN ?_
        refine To.seq ?_
        refine To.reg ?_
        refine To.rd rfl rfl rfl (Rd.move rfl rfl) ?_
        refine To.rd rfl rfl rfl (Rd.move rfl rfl) ?_
        refine To.rd rfl rfl rfl (Rd.conv rfl rfl Tryd.underlying111 Tryd.underlying5 (IntWalk.u8_in _ (by omega))) ?_
        refine To.letter (j := n) rfl rfl rfl rfl Tryd.underlying9 rfl rfl (by show n < 256; exact hn) (fun n22 hn22 => ?_)
        refine To.rd rfl rfl rfl (Rd.conv rfl rfl Tryd.underlying5 Tryd.underlying3 (IntWalk.i64_in _ (by omega))) ?_
        refine To.rd rfl rfl rfl (Rd.add64 rfl rfl rfl (by omega)) ?_
        refine To.rd rfl rfl rfl (Rd.assign rfl rfl) ?_
        refine To.nil ?_
        refine To.thenN ?_
        refine To.ret ?_
        refine To.only [] rfl ?_
        refine To.end1 (.inl rfl) Tryd.results48 rfl ?_
        exact ⟨_, rfl, rfl⟩
set_option maxHeartbeats 2000000 in
set_option maxRecDepth 100000 in
theorem blen_fn (n : Nat) (hn : n < 256) :
    Does Tryd.prog 27 [.int .u64 ((n : Nat) : Int)] [] (fun v Γ' => ∃ k : Int, v = .int .i64 k ∧ Γ' = []) := by
  refine Does.enter Tryd.func27 rfl Tryd.ntmps27 rfl (fun w0 => ?_)
  refine To.seq ?_
  refine To.reg ?_
  refine To.rd rfl rfl rfl (Rd.assign rfl rfl) ?_
  refine To.nil ?_
  refine To.thenN ?_
  refine To.seq ?_
  refine To.condF rfl ?_
  refine To.skip ?_
  refine To.thenN ?_
  refine To.seq ?_
  refine To.reg ?_
  refine To.rd rfl rfl rfl (Rd.move rfl rfl) ?_
  refine To.callQ rfl rfl rfl (Ent.fn rfl rfl ca48) (len64_fn n (by omega)) rfl (oks_nil _) ?_
  rintro _ _ ⟨k1, rfl, rfl⟩
  refine ⟨rfl, ?_⟩
  refine To.as [] rfl ?_
  refine To.rd rfl rfl rfl (Rd.assign rfl rfl) ?_
  refine To.nil ?_
  refine To.thenN ?_
  refine To.ret ?_
  refine To.only [] rfl ?_
  refine To.end1 (.inl rfl) Tryd.results27 rfl ?_
  exact ⟨_, rfl, rfl⟩
theorem ros_none {Γ : List Chunk} {w : World} {α : Type} {enc : α → List Value} {size : Nat} (E : Enc enc size) (hp : 0 < size) {A : Option Addr} {l : List α} (hA : A.isNone = true) (i : Nat) (h : Γ[i]? = some (ros enc A l)) (hs : sat Γ w) : l = [] := by
  cases hl : l with
  | nil => rfl
  | cons x r =>
    have := ros_some E hp (A := A) (l := l) (by rw [hl]; simp) i h hs
    rw [hA] at this; cases this
set_option maxHeartbeats 2000000 in
set_option maxRecDepth 100000 in
theorem clone64_fn (A : Option Addr) (q : Nat) (l : List Int) (hl : l.length ≤ 1000000) :
    Does Tryd.prog 15 [.slice A l.length q] [ros encI A l] (fun v Γ' => ∃ B p, v = .slice B l.length p ∧ Γ' = [rows encI 2 1 B p l]) := by
  refine Does.enter Tryd.func15 rfl Tryd.ntmps15 rfl (fun w0 => ?_)
  refine To.seq ?_
  refine To.reg ?_
  refine To.rd rfl rfl rfl (Rd.assign rfl rfl) ?_
  refine To.nil ?_
  refine To.thenN ?_
  refine To.seq ?_
  refine To.seq ?_
  refine To.reg ?_
  refine To.rd rfl rfl rfl (Rd.move rfl rfl) ?_
  refine To.rd rfl rfl rfl (Rd.as (v' := .bool A.isNone) rfl (Rd.eqlSl (A := A) rfl Tryd.underlying28 rfl rfl)) ?_
  refine To.nil ?_
  refine To.thenN ?_
  refine To.cond rfl (fun c4 => ?_) (fun c4 => ?_)
  ·
    refine To.seq ?_
    refine To.know (p := l = []) (fun w hw => ros_none encI_ok (by decide) c4 0 rfl hw) (fun hl0 => ?_)
    subst hl0
    refine To.nilRow (encI) 2 1 ?_
    refine To.reg ?_
    refine To.rd rfl rfl rfl (Rd.assign rfl rfl) ?_
    refine To.nil ?_
    refine To.thenN ?_
    refine To.ret ?_
    refine To.thenR ?_
    refine To.only [0] rfl ?_
    refine To.end1 (.inl rfl) Tryd.results15 rfl ?_
    exact ⟨_, _, rfl, rfl⟩
  ·
    refine To.skip ?_
    refine To.thenN ?_
    refine To.seq ?_
    refine To.reg ?_
    refine To.mk rfl rfl rfl (Mk.slice0R (enc := encI) rfl s28) ?_
    rintro _ _ ⟨A5, rfl, rfl⟩
    refine To.as [rows encI 2 1 A5 0 ([] : List Int), ros encI A l] rfl ?_
    refine To.rd rfl rfl rfl (Rd.move rfl rfl) ?_
    refine To.ge rfl rfl rfl (Ge.appendL encI_ok (i := 0) (m := l) rfl s28 rfl rfl rfl (src_ro (i := 1) rfl) (by first | omega | (simp only [List.length_append, List.length_cons, List.length_nil]; omega)) (by first | omega | (simp only [List.length_append, List.length_cons, List.length_nil]; omega))) ?_
    rintro _ _ ⟨A7, q7, rfl, rfl⟩
    refine To.as [rows encI 2 1 A7 q7 (([] : List Int) ++ l), ros encI A l] rfl ?_
    refine To.rd rfl rfl rfl (Rd.assign rfl rfl) ?_
    refine To.nil ?_
    refine To.thenN ?_
    refine To.ret ?_
    refine To.only [0] rfl ?_
    refine To.end1 (.inl rfl) Tryd.results15 rfl ?_
    exact ⟨_, _, rfl, rfl⟩
set_option maxHeartbeats 2000000 in
set_option maxRecDepth 100000 in
theorem cloneN_fn  :
    Does Tryd.prog 13 [.slice none 0 0] [] (fun v _ => v = .slice none 0 0) := by
  refine Does.enter Tryd.func13 rfl Tryd.ntmps13 rfl (fun w0 => ?_)
  refine To.seq ?_
  refine To.reg ?_
  refine To.rd rfl rfl rfl (Rd.assign rfl rfl) ?_
  refine To.nil ?_
  refine To.thenN ?_
  refine To.seq ?_
  refine To.seq ?_
  refine To.reg ?_
  refine To.rd rfl rfl rfl (Rd.move rfl rfl) ?_
  refine To.rd rfl rfl rfl (Rd.as (v' := .bool true) rfl (Rd.eqlSl (A := none) rfl Tryd.underlying42 rfl rfl)) ?_
  refine To.nil ?_
  refine To.thenN ?_
  refine To.condT rfl ?_
  refine To.seq ?_
  refine To.reg ?_
  refine To.rd rfl rfl rfl (Rd.assign rfl rfl) ?_
  refine To.nil ?_
  refine To.thenN ?_
  refine To.ret ?_
  refine To.thenR ?_
  refine To.end1 (.inl rfl) Tryd.results13 rfl ?_
  rfl
set_option maxHeartbeats 2000000 in
set_option maxRecDepth 100000 in
theorem cloneT_fn  :
    Does Tryd.prog 16 [.slice none 0 0] [] (fun v _ => v = .slice none 0 0) := by
  refine Does.enter Tryd.func16 rfl Tryd.ntmps16 rfl (fun w0 => ?_)
  refine To.seq ?_
  refine To.reg ?_
  refine To.rd rfl rfl rfl (Rd.assign rfl rfl) ?_
  refine To.nil ?_
  refine To.thenN ?_
  refine To.seq ?_
  refine To.seq ?_
  refine To.reg ?_
  refine To.rd rfl rfl rfl (Rd.move rfl rfl) ?_
  refine To.rd rfl rfl rfl (Rd.as (v' := .bool true) rfl (Rd.eqlSl (A := none) rfl Tryd.underlying29 rfl rfl)) ?_
  refine To.nil ?_
  refine To.thenN ?_
  refine To.condT rfl ?_
  refine To.seq ?_
  refine To.reg ?_
  refine To.rd rfl rfl rfl (Rd.assign rfl rfl) ?_
  refine To.nil ?_
  refine To.thenN ?_
  refine To.ret ?_
  refine To.thenR ?_
  refine To.end1 (.inl rfl) Tryd.results16 rfl ?_
  rfl
set_option maxHeartbeats 2000000 in
set_option maxRecDepth 100000 in
theorem insO_fn  :
    Does Tryd.prog 38 [.slice none 0 0, .int .i64 0, .int .i64 0] [] (fun v _ => v = .tuple #[]) := by
  refine Does.enter Tryd.func38 rfl Tryd.ntmps38 rfl (fun w0 => ?_)
  refine To.seq ?_
  refine To.reg ?_
  refine To.rd rfl rfl rfl (Rd.move rfl rfl) ?_
  refine To.rd rfl rfl rfl (Rd.as (v' := .int .i64 (1)) rfl (Rd.add64 (m := 0) (n := 1) rfl rfl rfl (by decide))) ?_
  refine To.rd rfl rfl rfl (Rd.assign rfl rfl) ?_
  refine To.nil ?_
  refine To.thenN ?_
  refine To.block ?_
  refine To.rounds 1 ?_
  refine To.roundS ?_
  refine To.seq ?_
  refine To.seq ?_
  refine To.reg ?_
  refine To.rd rfl rfl rfl (Rd.move rfl rfl) ?_
  refine To.rd rfl rfl rfl (Rd.move rfl rfl) ?_
  refine To.rd rfl rfl rfl (Rd.lss rfl rfl rfl) ?_
  refine To.nil ?_
  refine To.thenN ?_
  refine To.condF rfl ?_
  refine To.exit ?_
  refine To.thenX ?_
  refine To.thenX ?_
  refine To.blockX ?_
  refine To.end0 (.inr rfl) Tryd.results38 ?_
  rfl
set_option maxHeartbeats 2000000 in
set_option maxRecDepth 100000 in
theorem pdqO_fn (k : Int) :
    Does Tryd.prog 26 [.slice none 0 0, .int .i64 0, .int .i64 0, .int .i64 k] [] (fun v _ => v = .tuple #[]) := by
  refine Does.enter Tryd.func26 rfl Tryd.ntmps26 rfl (fun w0 => ?_)
  refine To.seq ?_
  refine To.reg ?_
  refine To.rd rfl rfl rfl (Rd.assign rfl rfl) ?_
  refine To.nil ?_
  refine To.thenN ?_
  refine To.seq ?_
  refine To.reg ?_
  refine To.rd rfl rfl rfl (Rd.assign rfl rfl) ?_
  refine To.nil ?_
  refine To.thenN ?_
  refine To.block ?_
  refine To.loopOnce ?_
  refine To.block ?_
  refine To.seq ?_
  refine To.reg ?_
  refine To.rd rfl rfl rfl (Rd.move rfl rfl) ?_
  refine To.rd rfl rfl rfl (Rd.move rfl rfl) ?_
  refine To.rd rfl rfl rfl (Rd.as (v' := .int .i64 (0)) rfl (Rd.sub64 (m := 0) (n := 0) rfl rfl rfl (by decide))) ?_
  refine To.rd rfl rfl rfl (Rd.assign rfl rfl) ?_
  refine To.nil ?_
  refine To.thenN ?_
  refine To.seq ?_
  refine To.seq ?_
  refine To.reg ?_
  refine To.rd rfl rfl rfl (Rd.move rfl rfl) ?_
  refine To.rd rfl rfl rfl (Rd.leq rfl rfl rfl) ?_
  refine To.nil ?_
  refine To.thenN ?_
  refine To.condT rfl ?_
  refine To.seq ?_
  refine To.reg ?_
  refine To.rd rfl rfl rfl (Rd.move rfl rfl) ?_
  refine To.rd rfl rfl rfl (Rd.move rfl rfl) ?_
  refine To.rd rfl rfl rfl (Rd.move rfl rfl) ?_
  refine To.callV rfl rfl rfl (Ent.fn rfl rfl ca38) (insO_fn) rfl (oks_nil _) ?_
  refine To.nil ?_
  refine To.thenN ?_
  refine To.ret ?_
  refine To.thenR ?_
  refine To.blockR ?_
  refine To.thenR ?_
  refine To.blockR ?_
  refine To.end0 (.inl rfl) Tryd.results26 ?_
  rfl
set_option maxHeartbeats 2000000 in
set_option maxRecDepth 100000 in
theorem sortO_fn  :
    Does Tryd.prog 14 [.slice none 0 0] [] (fun v _ => v = .tuple #[]) := by
  refine Does.enter Tryd.func14 rfl Tryd.ntmps14 rfl (fun w0 => ?_)
  refine To.seq ?_
  refine To.reg ?_
  refine To.rd rfl rfl rfl (Rd.move rfl rfl) ?_
  refine To.rd rfl rfl rfl (Rd.len rfl rfl Tryd.underlying42) ?_
  refine To.rd rfl rfl rfl (Rd.assign rfl rfl) ?_
  refine To.nil ?_
  refine To.thenN ?_
  refine To.reg ?_
  refine To.rd rfl rfl rfl (Rd.move rfl rfl) ?_
  refine To.rd rfl rfl rfl (Rd.move rfl rfl) ?_
  refine To.rd rfl rfl rfl (Rd.move rfl rfl) ?_
  refine To.rd rfl rfl rfl (Rd.conv rfl rfl Tryd.underlying3 Tryd.underlying86 (wrapU (by first | omega | (simp only [List.length_append, List.length_cons, List.length_nil]; omega)))) ?_
  refine To.callQ rfl rfl rfl (Ent.fn rfl rfl ca27) (blen_fn 0 (by decide)) rfl (oks_nil _) ?_
  rintro _ _ ⟨k1, rfl, rfl⟩
  refine ⟨rfl, ?_⟩
  refine To.as [] rfl ?_
  refine To.callV rfl rfl rfl (Ent.fn rfl rfl ca26) (pdqO_fn k1) rfl (oks_nil _) ?_
  refine To.nil ?_
  refine To.end0 (.inr rfl) Tryd.results14 ?_
  rfl
def referB (x : Ins) (nv nt nf : Nat) : Bool :=
  if ((x.op : Nat) : Int) = 2 ∨ ((x.op : Nat) : Int) = 24 ∨ ((x.op : Nat) : Int) = 33 then decide (x.a < nv) else if ((x.op : Nat) : Int) = 4 then decide (x.a < nf) else
  if ((x.op : Nat) : Int) = 6 ∨ ((x.op : Nat) : Int) = 7 ∨ ((x.op : Nat) : Int) = 8 ∨ ((x.op : Nat) : Int) = 25 ∨ ((x.op : Nat) : Int) = 26 then decide (x.a < nt) else true
set_option maxHeartbeats 2000000 in
set_option maxRecDepth 100000 in
theorem refers_fn (x : Ins) (Av At Ad Aa Ag Af : Option Addr) (nv qv nt qt nd qd na qa nf qg nl qf : Nat) (now dk : Int) :
    Does Tryd.prog 12 [.agg (Ins.cells x).toArray, .agg #[.slice Av nv qv, .slice At nt qt, .slice Ad nd qd], .agg #[.slice Aa na qa, .int .i64 now, .slice Ag nf qg, .int .i64 dk, .slice Af nl qf]] [] (fun v _ => v = .bool (referB x nv nt nf)) := by
  refine Does.enter Tryd.func12 rfl Tryd.ntmps12 rfl (fun w0 => ?_)
  refine To.seq ?_
  refine To.reg ?_
  refine To.boxed rfl rfl rfl rfl rfl rfl (fun b3 => ?_)
  refine To.boxed rfl rfl rfl rfl rfl rfl (fun b4 => ?_)
  refine To.boxed rfl rfl rfl rfl rfl rfl (fun b5 => ?_)
  refine To.rd rfl rfl rfl (Rd.assign rfl rfl) ?_
  refine To.nil ?_
  refine To.thenN ?_
  refine To.seq ?_
  refine To.seq ?_
  refine To.reg ?_
  refine To.rd rfl rfl rfl (Rd.field rfl rfl fl24_0) ?_
  refine To.rd rfl rfl rfl (Rd.load (i := 2) rfl rfl c22 rfl (box_gives1 rfl)) ?_
  refine To.nil ?_
  refine To.thenN ?_
  refine To.block ?_
  refine To.seq ?_
  refine To.seq ?_
  refine To.reg ?_
  refine To.rd rfl rfl rfl (Rd.eql rfl rfl rfl) ?_
  refine To.rd rfl rfl rfl (Rd.assign rfl rfl) ?_
  refine To.nil ?_
  refine To.thenN ?_
  refine To.condP rfl (fun k9 => ?_) (fun k9 => ?_)
  ·
    refine To.skip ?_
    refine To.thenN ?_
    refine To.condT (congrArg (fun b => some (Value.bool b)) (decide_eq_true k9)) ?_
    refine To.seq ?_
    refine To.reg ?_
    refine To.rd rfl rfl rfl (Rd.field rfl rfl fl24_1) ?_
    refine To.rd rfl rfl rfl (Rd.load (i := 2) rfl rfl c3 rfl (box_gives1 rfl)) ?_
    refine To.rd rfl rfl rfl (Rd.field rfl rfl fl34_0) ?_
    refine To.rd rfl rfl rfl (Rd.load (i := 1) rfl rfl c28 rfl (box_gives1 rfl)) ?_
    refine To.rd rfl rfl rfl (Rd.len rfl rfl Tryd.underlying28) ?_
    refine To.rd rfl rfl rfl (Rd.lss rfl rfl rfl) ?_
    refine To.rd rfl rfl rfl (Rd.assign rfl rfl) ?_
    refine To.nil ?_
    refine To.thenN ?_
    refine To.ret ?_
    refine To.blockR ?_
    refine To.thenR ?_
    refine To.end1 (.inl rfl) Tryd.results12 rfl ?_
    simp [referB, k9]
  ·
    refine To.seq ?_
    refine To.reg ?_
    refine To.rd rfl rfl rfl (Rd.eql rfl rfl rfl) ?_
    refine To.rd rfl rfl rfl (Rd.assign rfl rfl) ?_
    refine To.nil ?_
    refine To.thenN ?_
    refine To.condP rfl (fun k9_2 => ?_) (fun k9_2 => ?_)
    ·
      refine To.skip ?_
      refine To.thenN ?_
      refine To.condT (congrArg (fun b => some (Value.bool b)) (decide_eq_true k9_2)) ?_
      refine To.seq ?_
      refine To.reg ?_
      refine To.rd rfl rfl rfl (Rd.field rfl rfl fl24_1) ?_
      refine To.rd rfl rfl rfl (Rd.load (i := 2) rfl rfl c3 rfl (box_gives1 rfl)) ?_
      refine To.rd rfl rfl rfl (Rd.field rfl rfl fl34_0) ?_
      refine To.rd rfl rfl rfl (Rd.load (i := 1) rfl rfl c28 rfl (box_gives1 rfl)) ?_
      refine To.rd rfl rfl rfl (Rd.len rfl rfl Tryd.underlying28) ?_
      refine To.rd rfl rfl rfl (Rd.lss rfl rfl rfl) ?_
      refine To.rd rfl rfl rfl (Rd.assign rfl rfl) ?_
      refine To.nil ?_
      refine To.thenN ?_
      refine To.ret ?_
      refine To.blockR ?_
      refine To.thenR ?_
      refine To.end1 (.inl rfl) Tryd.results12 rfl ?_
      simp [referB, k9_2]
    ·
      refine To.reg ?_
      refine To.rd rfl rfl rfl (Rd.eql rfl rfl rfl) ?_
      refine To.rd rfl rfl rfl (Rd.assign rfl rfl) ?_
      refine To.nil ?_
      refine To.thenN ?_
      refine To.condP rfl (fun k9_3 => ?_) (fun k9_3 => ?_)
      ·
        refine To.seq ?_
        refine To.reg ?_
        refine To.rd rfl rfl rfl (Rd.field rfl rfl fl24_1) ?_
        refine To.rd rfl rfl rfl (Rd.load (i := 2) rfl rfl c3 rfl (box_gives1 rfl)) ?_
        refine To.rd rfl rfl rfl (Rd.field rfl rfl fl34_0) ?_
        refine To.rd rfl rfl rfl (Rd.load (i := 1) rfl rfl c28 rfl (box_gives1 rfl)) ?_
        refine To.rd rfl rfl rfl (Rd.len rfl rfl Tryd.underlying28) ?_
        refine To.rd rfl rfl rfl (Rd.lss rfl rfl rfl) ?_
        refine To.rd rfl rfl rfl (Rd.assign rfl rfl) ?_
        refine To.nil ?_
        refine To.thenN ?_
        refine To.ret ?_
        refine To.blockR ?_
        refine To.thenR ?_
        refine To.end1 (.inl rfl) Tryd.results12 rfl ?_
        simp [referB, k9_3]
      ·
        refine To.seq ?_
        refine To.reg ?_
        refine To.rd rfl rfl rfl (Rd.eql rfl rfl rfl) ?_
        refine To.rd rfl rfl rfl (Rd.assign rfl rfl) ?_
        refine To.nil ?_
        refine To.thenN ?_
        refine To.condP rfl (fun k19 => ?_) (fun k19 => ?_)
        ·
          refine To.seq ?_
          refine To.reg ?_
          refine To.rd rfl rfl rfl (Rd.field rfl rfl fl24_1) ?_
          refine To.rd rfl rfl rfl (Rd.load (i := 2) rfl rfl c3 rfl (box_gives1 rfl)) ?_
          refine To.rd rfl rfl rfl (Rd.field rfl rfl fl44_2) ?_
          refine To.rd rfl rfl rfl (Rd.load (i := 0) rfl rfl c41 rfl (box_gives1 rfl)) ?_
          refine To.rd rfl rfl rfl (Rd.len rfl rfl Tryd.underlying41) ?_
          refine To.rd rfl rfl rfl (Rd.lss rfl rfl rfl) ?_
          refine To.rd rfl rfl rfl (Rd.assign rfl rfl) ?_
          refine To.nil ?_
          refine To.thenN ?_
          refine To.ret ?_
          refine To.blockR ?_
          refine To.thenR ?_
          refine To.end1 (.inl rfl) Tryd.results12 rfl ?_
          simp [referB, k19]
        ·
          refine To.seq ?_
          refine To.seq ?_
          refine To.reg ?_
          refine To.rd rfl rfl rfl (Rd.eql rfl rfl rfl) ?_
          refine To.rd rfl rfl rfl (Rd.assign rfl rfl) ?_
          refine To.nil ?_
          refine To.thenN ?_
          refine To.condP rfl (fun k27 => ?_) (fun k27 => ?_)
          ·
            refine To.skip ?_
            refine To.thenN ?_
            refine To.condT (congrArg (fun b => some (Value.bool b)) (decide_eq_true k27)) ?_
            refine To.seq ?_
            refine To.reg ?_
            refine To.rd rfl rfl rfl (Rd.field rfl rfl fl24_1) ?_
            refine To.rd rfl rfl rfl (Rd.load (i := 2) rfl rfl c3 rfl (box_gives1 rfl)) ?_
            refine To.rd rfl rfl rfl (Rd.field rfl rfl fl34_1) ?_
            refine To.rd rfl rfl rfl (Rd.load (i := 1) rfl rfl c29 rfl (box_gives1 rfl)) ?_
            refine To.rd rfl rfl rfl (Rd.len rfl rfl Tryd.underlying29) ?_
            refine To.rd rfl rfl rfl (Rd.lss rfl rfl rfl) ?_
            refine To.rd rfl rfl rfl (Rd.assign rfl rfl) ?_
            refine To.nil ?_
            refine To.thenN ?_
            refine To.ret ?_
            refine To.blockR ?_
            refine To.thenR ?_
            refine To.end1 (.inl rfl) Tryd.results12 rfl ?_
            simp [referB, k27]
          ·
            refine To.seq ?_
            refine To.reg ?_
            refine To.rd rfl rfl rfl (Rd.eql rfl rfl rfl) ?_
            refine To.rd rfl rfl rfl (Rd.assign rfl rfl) ?_
            refine To.nil ?_
            refine To.thenN ?_
            refine To.condP rfl (fun k27_2 => ?_) (fun k27_2 => ?_)
            ·
              refine To.skip ?_
              refine To.thenN ?_
              refine To.condT (congrArg (fun b => some (Value.bool b)) (decide_eq_true k27_2)) ?_
              refine To.seq ?_
              refine To.reg ?_
              refine To.rd rfl rfl rfl (Rd.field rfl rfl fl24_1) ?_
              refine To.rd rfl rfl rfl (Rd.load (i := 2) rfl rfl c3 rfl (box_gives1 rfl)) ?_
              refine To.rd rfl rfl rfl (Rd.field rfl rfl fl34_1) ?_
              refine To.rd rfl rfl rfl (Rd.load (i := 1) rfl rfl c29 rfl (box_gives1 rfl)) ?_
              refine To.rd rfl rfl rfl (Rd.len rfl rfl Tryd.underlying29) ?_
              refine To.rd rfl rfl rfl (Rd.lss rfl rfl rfl) ?_
              refine To.rd rfl rfl rfl (Rd.assign rfl rfl) ?_
              refine To.nil ?_
              refine To.sub [(0, .agg (Ins.cells x).toArray), (1, .agg #[.slice Av nv qv, .slice At nt qt, .slice Ad nd qd]), (2, .agg #[.slice Aa na qa, .int .i64 now, .slice Ag nf qg, .int .i64 dk, .slice Af nl qf]), (3, .pointer (some ⟨b3, 0, none⟩)), (4, .pointer (some ⟨b4, 0, none⟩)), (5, .pointer (some ⟨b5, 0, none⟩)), (6, .bool (decide (x.a < ((nt : Nat) : Int)))), (8, .int .u8 ((x.op : Nat) : Int)), (9, .bool (decide (((x.op : Nat) : Int) = 33))), (19, .bool (decide (((x.op : Nat) : Int) = 4))), (27, .bool (decide (((x.op : Nat) : Int) = 7)))] ⟨rfl, rfl, rfl, rfl, rfl, rfl, rfl, rfl, rfl, rfl, rfl, trivial⟩ ?_
              refine To.thenN ?_
              refine To.ret ?_
              refine To.blockR ?_
              refine To.thenR ?_
              refine To.end1 (.inl rfl) Tryd.results12 rfl ?_
              simp [referB, k27_2]
            ·
              refine To.seq ?_
              refine To.reg ?_
              refine To.rd rfl rfl rfl (Rd.eql rfl rfl rfl) ?_
              refine To.rd rfl rfl rfl (Rd.assign rfl rfl) ?_
              refine To.nil ?_
              refine To.thenN ?_
              refine To.condP rfl (fun k27_3 => ?_) (fun k27_3 => ?_)
              ·
                refine To.skip ?_
                refine To.thenN ?_
                refine To.condT (congrArg (fun b => some (Value.bool b)) (decide_eq_true k27_3)) ?_
                refine To.seq ?_
                refine To.reg ?_
                refine To.rd rfl rfl rfl (Rd.field rfl rfl fl24_1) ?_
                refine To.rd rfl rfl rfl (Rd.load (i := 2) rfl rfl c3 rfl (box_gives1 rfl)) ?_
                refine To.rd rfl rfl rfl (Rd.field rfl rfl fl34_1) ?_
                refine To.rd rfl rfl rfl (Rd.load (i := 1) rfl rfl c29 rfl (box_gives1 rfl)) ?_
                refine To.rd rfl rfl rfl (Rd.len rfl rfl Tryd.underlying29) ?_
                refine To.rd rfl rfl rfl (Rd.lss rfl rfl rfl) ?_
                refine To.rd rfl rfl rfl (Rd.assign rfl rfl) ?_
                refine To.nil ?_
                refine To.sub [(0, .agg (Ins.cells x).toArray), (1, .agg #[.slice Av nv qv, .slice At nt qt, .slice Ad nd qd]), (2, .agg #[.slice Aa na qa, .int .i64 now, .slice Ag nf qg, .int .i64 dk, .slice Af nl qf]), (3, .pointer (some ⟨b3, 0, none⟩)), (4, .pointer (some ⟨b4, 0, none⟩)), (5, .pointer (some ⟨b5, 0, none⟩)), (6, .bool (decide (x.a < ((nt : Nat) : Int)))), (8, .int .u8 ((x.op : Nat) : Int)), (9, .bool (decide (((x.op : Nat) : Int) = 33))), (19, .bool (decide (((x.op : Nat) : Int) = 4))), (27, .bool (decide (((x.op : Nat) : Int) = 8)))] ⟨rfl, rfl, rfl, rfl, rfl, rfl, rfl, rfl, rfl, rfl, rfl, trivial⟩ ?_
                refine To.thenN ?_
                refine To.ret ?_
                refine To.blockR ?_
                refine To.thenR ?_
                refine To.end1 (.inl rfl) Tryd.results12 rfl ?_
                simp [referB, k27_3]
              ·
                refine To.seq ?_
                refine To.reg ?_
                refine To.rd rfl rfl rfl (Rd.eql rfl rfl rfl) ?_
                refine To.rd rfl rfl rfl (Rd.assign rfl rfl) ?_
                refine To.nil ?_
                refine To.thenN ?_
                refine To.condP rfl (fun k27_4 => ?_) (fun k27_4 => ?_)
                ·
                  refine To.skip ?_
                  refine To.thenN ?_
                  refine To.condT (congrArg (fun b => some (Value.bool b)) (decide_eq_true k27_4)) ?_
                  refine To.seq ?_
                  refine To.reg ?_
                  refine To.rd rfl rfl rfl (Rd.field rfl rfl fl24_1) ?_
                  refine To.rd rfl rfl rfl (Rd.load (i := 2) rfl rfl c3 rfl (box_gives1 rfl)) ?_
                  refine To.rd rfl rfl rfl (Rd.field rfl rfl fl34_1) ?_
                  refine To.rd rfl rfl rfl (Rd.load (i := 1) rfl rfl c29 rfl (box_gives1 rfl)) ?_
                  refine To.rd rfl rfl rfl (Rd.len rfl rfl Tryd.underlying29) ?_
                  refine To.rd rfl rfl rfl (Rd.lss rfl rfl rfl) ?_
                  refine To.rd rfl rfl rfl (Rd.assign rfl rfl) ?_
                  refine To.nil ?_
                  refine To.sub [(0, .agg (Ins.cells x).toArray), (1, .agg #[.slice Av nv qv, .slice At nt qt, .slice Ad nd qd]), (2, .agg #[.slice Aa na qa, .int .i64 now, .slice Ag nf qg, .int .i64 dk, .slice Af nl qf]), (3, .pointer (some ⟨b3, 0, none⟩)), (4, .pointer (some ⟨b4, 0, none⟩)), (5, .pointer (some ⟨b5, 0, none⟩)), (6, .bool (decide (x.a < ((nt : Nat) : Int)))), (8, .int .u8 ((x.op : Nat) : Int)), (9, .bool (decide (((x.op : Nat) : Int) = 33))), (19, .bool (decide (((x.op : Nat) : Int) = 4))), (27, .bool (decide (((x.op : Nat) : Int) = 25)))] ⟨rfl, rfl, rfl, rfl, rfl, rfl, rfl, rfl, rfl, rfl, rfl, trivial⟩ ?_
                  refine To.thenN ?_
                  refine To.ret ?_
                  refine To.blockR ?_
                  refine To.thenR ?_
                  refine To.end1 (.inl rfl) Tryd.results12 rfl ?_
                  simp [referB, k27_4]
                ·
                  refine To.reg ?_
                  refine To.rd rfl rfl rfl (Rd.eql rfl rfl rfl) ?_
                  refine To.rd rfl rfl rfl (Rd.assign rfl rfl) ?_
                  refine To.nil ?_
                  refine To.thenN ?_
                  refine To.condP rfl (fun k27_5 => ?_) (fun k27_5 => ?_)
                  ·
                    refine To.seq ?_
                    refine To.reg ?_
                    refine To.rd rfl rfl rfl (Rd.field rfl rfl fl24_1) ?_
                    refine To.rd rfl rfl rfl (Rd.load (i := 2) rfl rfl c3 rfl (box_gives1 rfl)) ?_
                    refine To.rd rfl rfl rfl (Rd.field rfl rfl fl34_1) ?_
                    refine To.rd rfl rfl rfl (Rd.load (i := 1) rfl rfl c29 rfl (box_gives1 rfl)) ?_
                    refine To.rd rfl rfl rfl (Rd.len rfl rfl Tryd.underlying29) ?_
                    refine To.rd rfl rfl rfl (Rd.lss rfl rfl rfl) ?_
                    refine To.rd rfl rfl rfl (Rd.assign rfl rfl) ?_
                    refine To.nil ?_
                    refine To.sub [(0, .agg (Ins.cells x).toArray), (1, .agg #[.slice Av nv qv, .slice At nt qt, .slice Ad nd qd]), (2, .agg #[.slice Aa na qa, .int .i64 now, .slice Ag nf qg, .int .i64 dk, .slice Af nl qf]), (3, .pointer (some ⟨b3, 0, none⟩)), (4, .pointer (some ⟨b4, 0, none⟩)), (5, .pointer (some ⟨b5, 0, none⟩)), (6, .bool (decide (x.a < ((nt : Nat) : Int)))), (8, .int .u8 ((x.op : Nat) : Int)), (9, .bool (decide (((x.op : Nat) : Int) = 33))), (19, .bool (decide (((x.op : Nat) : Int) = 4))), (27, .bool (decide (((x.op : Nat) : Int) = 26)))] ⟨rfl, rfl, rfl, rfl, rfl, rfl, rfl, rfl, rfl, rfl, rfl, trivial⟩ ?_
                    refine To.thenN ?_
                    refine To.ret ?_
                    refine To.blockR ?_
                    refine To.thenR ?_
                    refine To.end1 (.inl rfl) Tryd.results12 rfl ?_
                    simp [referB, k27_5]
                  ·
                    refine To.skip ?_
                    refine To.blockN ?_
                    refine To.thenN ?_
                    refine To.seq ?_
                    refine To.reg ?_
                    refine To.rd rfl rfl rfl (Rd.assign rfl rfl) ?_
                    refine To.nil ?_
                    refine To.thenN ?_
                    refine To.ret ?_
                    refine To.end1 (.inl rfl) Tryd.results12 rfl ?_
                    simp [referB, k9, k9_2, k9_3, k19, k27, k27_2, k27_3, k27_4, k27_5]
end Go.Proofs.YtoehnbacbobhiaaDoor
