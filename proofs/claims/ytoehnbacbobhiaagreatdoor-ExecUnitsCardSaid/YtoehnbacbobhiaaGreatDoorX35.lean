/- The reference's execution: numbers, tables, stack. Own text (walks printed by sx.py). -/
import Derived.Test.YtoehnbacbobhiaaGreatDoorL1
import Derived.Test.YtoehnbacbobhiaaGreatDoorX34
import Derived.Test.YtoehnbacbobhiaaGreatDoorX16
set_option linter.unusedVariables false
set_option linter.unusedSimpArgs false
namespace Go.Proofs.YtoehnbacbobhiaaGreatDoor
open Go.RowKit Go.Flow Go.Mem Go.Sep
def Ef.rcells (e : Ef) : List Value := [.int .i64 e.k, .int .i64 e.to, .int .i64 e.h, .int .i64 e.d, .int .i64 e.key, .int .i64 e.v, .bool e.f, .slice e.A e.args.length e.q]
theorem encRe : Enc Ef.rcells 8 := ⟨fun _ => rfl, fun e u hu => by
  simp only [Ef.rcells, List.mem_cons, List.not_mem_nil, or_false] at hu
  rcases hu with rfl | rfl | rfl | rfl | rfl | rfl | rfl | rfl <;> rfl⟩
def Ins.rcells (e : Ins) : List Value := [.int .i64 ((e.op : Nat) : Int), .int .i64 e.a, .int .i64 e.b, .int .i64 e.n]
theorem encRi : Enc Ins.rcells 4 := ⟨fun _ => rfl, fun e u hu => by
  simp only [Ins.rcells, List.mem_cons, List.not_mem_nil, or_false] at hu
  rcases hu with rfl | rfl | rfl | rfl <;> rfl⟩
def xc (s : Sm) (d : Dm) : List Value := [.slice s.Aa s.args.length s.qa, .int .i64 s.now, .slice s.Ag s.flags.length s.qg, .int .i64 s.dsk, .slice s.Af s.fail.length s.qf, .slice d.Av d.vars.length d.qv, .slice d.At d.tabs.length d.qt, .slice d.dk.A d.dk.l.length d.dk.q, .slice d.Ae d.effs.length d.qe, .int .i64 d.cost, .slice d.As d.stack.length d.qs, .int .i64 d.disks, .int .i64 d.sends, .bool d.fault, .string ByteArray.empty, .slice none 0 0, .slice none 0 0, .string ByteArray.empty, .slice none 0 0, .slice none 0 0, .slice none 0 0, .int .i64 0]
set_option maxHeartbeats 2000000 in
set_option maxRecDepth 100000 in
theorem num_fn (b : Bool) :
    Does Tryz.prog 73 [.bool b] [] (fun v _ => v = .int .i64 (tru b)) := by
  refine Does.enter Tryz.func73 rfl Tryz.ntmps73 rfl (fun w0 => ?_)
  refine To.seq (To.reg (To.a (To.nil (To.thenN (To.seq (To.seq (To.reg ?_)))))))
  refine To.m (To.nil (To.thenN ?_))
  refine To.cond rfl (fun c3 => ?_) (fun c3 => ?_)
  ·
   refine To.seq (To.reg (To.a (To.nil (To.thenN (To.ret (To.thenR ?_))))))
   refine To.end1 (.inl rfl) Tryz.results73 rfl ?_
   subst c3; rfl
  refine To.skip (To.thenN (To.seq (To.reg (To.a (To.nil (To.thenN (To.ret ?_)))))))
  refine To.end1 (.inl rfl) Tryz.results73 rfl ?_
  subst c3; rfl
set_option maxHeartbeats 2000000 in
set_option maxRecDepth 100000 in
theorem rbin_fn (op a b : Int) (hop : 11 ≤ op ∧ op ≤ 23) :
    Does Tryz.prog 43 [.int .i64 op, .int .i64 a, .int .i64 b] [] (fun v _ => v = .int .i64 (binV op a b)) := by
  refine Does.enter Tryz.func43 rfl Tryz.ntmps43 rfl (fun w0 => ?_)
  refine To.seq (To.reg (To.a (To.nil (To.thenN (To.seq (To.seq (To.reg ?_)))))))
  refine To.m (To.nil (To.thenN (To.block (To.seq (To.reg ?_)))))
  refine To.r (Rd.eql rfl rfl rfl) ?_
  refine To.a (To.nil (To.thenN ?_))
  refine To.condP rfl (fun k8 => ?_) (fun k8 => ?_)
  ·
   refine To.seq (To.reg (To.m ?_))
   refine To.m ?_
   refine To.r (Rd.mulW rfl rfl rfl) ?_
   refine To.a (To.nil (To.thenN (To.ret (To.blockR (To.thenR ?_)))))
   refine To.end1 (.inl rfl) Tryz.results43 rfl ?_
   first | (exfalso; omega) | (simp [binV, divV, k8]; done) | simp [binV, show op = 23 from by omega, k8]
  refine To.seq (To.reg ?_)
  refine To.r (Rd.eql rfl rfl rfl) ?_
  refine To.a (To.nil (To.thenN ?_))
  refine To.condP rfl (fun k13 => ?_) (fun k13 => ?_)
  ·
   refine To.seq (To.seq (To.reg (To.m ?_)))
   refine To.r (Rd.eql rfl rfl rfl) ?_
   refine To.nil (To.thenN ?_)
   refine To.condP rfl (fun k16 => ?_) (fun k16 => ?_)
   ·
    refine To.seq (To.reg (To.a (To.nil (To.thenN (To.ret (To.thenR (To.blockR (To.thenR ?_))))))))
    refine To.end1 (.inl rfl) Tryz.results43 rfl ?_
    first | (exfalso; omega) | (simp [binV, divV, k8, k13, k16]; done) | simp [binV, show op = 23 from by omega, k8, k13, k16]
   refine To.skip (To.thenN (To.seq (To.seq (To.reg (To.m ?_)))))
   refine To.r (Rd.eql rfl rfl rfl) ?_
   refine To.nil (To.thenN ?_)
   refine To.condP rfl (fun k18 => ?_) (fun k18 => ?_)
   ·
    refine To.seq (To.reg (To.m ?_))
    refine To.r (Rd.negW rfl rfl) ?_
    refine To.a (To.nil (To.thenN (To.ret (To.thenR (To.blockR (To.thenR ?_))))))
    refine To.end1 (.inl rfl) Tryz.results43 rfl ?_
    first | (exfalso; omega) | (simp [binV, divV, k8, k13, k16, k18]; done) | simp [binV, show op = 23 from by omega, k8, k13, k16, k18]
   refine To.skip (To.thenN (To.seq (To.reg (To.m ?_))))
   refine To.m ?_
   refine To.r (Rd.quoW rfl rfl rfl (by assumption)) ?_
   refine To.a (To.nil (To.thenN (To.ret (To.blockR (To.thenR ?_)))))
   refine To.end1 (.inl rfl) Tryz.results43 rfl ?_
   first | (exfalso; omega) | (simp [binV, divV, k8, k13, k16, k18]; done) | simp [binV, show op = 23 from by omega, k8, k13, k16, k18]
  refine To.seq (To.reg ?_)
  refine To.r (Rd.eql rfl rfl rfl) ?_
  refine To.a (To.nil (To.thenN ?_))
  refine To.condP rfl (fun k24 => ?_) (fun k24 => ?_)
  ·
   refine To.seq (To.seq (To.reg (To.m ?_)))
   refine To.r (Rd.eql rfl rfl rfl) ?_
   refine To.rdP rfl rfl rfl (Rd.move rfl rfl) (fun g28 => ?_) (fun g28 => ?_)
   ·
    refine To.k ?_
    refine To.k ?_
    refine To.r (Rd.pickT rfl rfl rfl) ?_
    refine To.nil (To.thenN ?_)
    refine To.condT rfl ?_
    refine To.seq (To.reg (To.a (To.nil (To.thenN (To.ret (To.thenR (To.blockR (To.thenR ?_))))))))
    refine To.end1 (.inl rfl) Tryz.results43 rfl ?_
    first | (exfalso; omega) | (simp [binV, divV, k8, k13, k24, g28]; done) | simp [binV, show op = 23 from by omega, k8, k13, k24, g28]
   refine To.m ?_
   refine To.r (Rd.eql rfl rfl rfl) ?_
   refine To.r (Rd.pickF rfl rfl rfl) ?_
   refine To.nil (To.thenN ?_)
   refine To.condP rfl (fun k31 => ?_) (fun k31 => ?_)
   ·
    refine To.seq (To.reg (To.a (To.nil (To.thenN (To.ret (To.thenR (To.blockR (To.thenR ?_))))))))
    refine To.end1 (.inl rfl) Tryz.results43 rfl ?_
    first | (exfalso; omega) | (simp [binV, divV, k8, k13, k24, g28, k31]; done) | simp [binV, show op = 23 from by omega, k8, k13, k24, g28, k31]
   refine To.skip (To.thenN (To.seq (To.reg (To.m ?_))))
   refine To.m ?_
   refine To.r (Rd.remW rfl rfl rfl (by assumption)) ?_
   refine To.a (To.nil (To.thenN (To.ret (To.blockR (To.thenR ?_)))))
   refine To.end1 (.inl rfl) Tryz.results43 rfl ?_
   first | (exfalso; omega) | (simp [binV, divV, k8, k13, k24, g28, k31]; done) | simp [binV, show op = 23 from by omega, k8, k13, k24, g28, k31]
  refine To.seq (To.reg ?_)
  refine To.r (Rd.eql rfl rfl rfl) ?_
  refine To.a (To.nil (To.thenN ?_))
  refine To.condP rfl (fun k35 => ?_) (fun k35 => ?_)
  ·
   refine To.seq (To.reg (To.m ?_))
   refine To.m ?_
   refine To.r (Rd.addW rfl rfl rfl) ?_
   refine To.a (To.nil (To.thenN (To.ret (To.blockR (To.thenR ?_)))))
   refine To.end1 (.inl rfl) Tryz.results43 rfl ?_
   first | (exfalso; omega) | (simp [binV, divV, k8, k13, k24, k35]; done) | simp [binV, show op = 23 from by omega, k8, k13, k24, k35]
  refine To.seq (To.reg ?_)
  refine To.r (Rd.eql rfl rfl rfl) ?_
  refine To.a (To.nil (To.thenN ?_))
  refine To.condP rfl (fun k40 => ?_) (fun k40 => ?_)
  ·
   refine To.seq (To.reg (To.m ?_))
   refine To.m ?_
   refine To.r (Rd.subW rfl rfl rfl) ?_
   refine To.a (To.nil (To.thenN (To.ret (To.blockR (To.thenR ?_)))))
   refine To.end1 (.inl rfl) Tryz.results43 rfl ?_
   first | (exfalso; omega) | (simp [binV, divV, k8, k13, k24, k35, k40]; done) | simp [binV, show op = 23 from by omega, k8, k13, k24, k35, k40]
  refine To.seq (To.reg ?_)
  refine To.r (Rd.eql rfl rfl rfl) ?_
  refine To.a (To.nil (To.thenN ?_))
  refine To.condP rfl (fun k45 => ?_) (fun k45 => ?_)
  ·
   refine To.seq (To.reg (To.m ?_))
   refine To.m ?_
   refine To.r (Rd.eql rfl rfl rfl) ?_
   refine To.callV rfl rfl rfl (Ent.fn rfl rfl ca73) (num_fn (decide (a = b))) rfl (oks_nil _) ?_
   refine To.a (To.nil (To.thenN (To.ret (To.blockR (To.thenR ?_)))))
   refine To.end1 (.inl rfl) Tryz.results43 rfl ?_
   first | (exfalso; omega) | (simp [binV, divV, k8, k13, k24, k35, k40, k45]; done) | simp [binV, show op = 23 from by omega, k8, k13, k24, k35, k40, k45]
  refine To.seq (To.reg ?_)
  refine To.r (Rd.eql rfl rfl rfl) ?_
  refine To.a (To.nil (To.thenN ?_))
  refine To.condP rfl (fun k51 => ?_) (fun k51 => ?_)
  ·
   refine To.seq (To.reg (To.m ?_))
   refine To.m ?_
   refine To.r (Rd.neq rfl rfl rfl) ?_
   refine To.callV rfl rfl rfl (Ent.fn rfl rfl ca73) (num_fn (decide (a ≠ b))) rfl (oks_nil _) ?_
   refine To.a (To.nil (To.thenN (To.ret (To.blockR (To.thenR ?_)))))
   refine To.end1 (.inl rfl) Tryz.results43 rfl ?_
   first | (exfalso; omega) | (simp [binV, divV, k8, k13, k24, k35, k40, k45, k51]; done) | simp [binV, show op = 23 from by omega, k8, k13, k24, k35, k40, k45, k51]
  refine To.seq (To.reg ?_)
  refine To.r (Rd.eql rfl rfl rfl) ?_
  refine To.a (To.nil (To.thenN ?_))
  refine To.condP rfl (fun k57 => ?_) (fun k57 => ?_)
  ·
   refine To.seq (To.reg (To.m ?_))
   refine To.m ?_
   refine To.r (Rd.lss rfl rfl rfl) ?_
   refine To.callV rfl rfl rfl (Ent.fn rfl rfl ca73) (num_fn (decide (a < b))) rfl (oks_nil _) ?_
   refine To.a (To.nil (To.thenN (To.ret (To.blockR (To.thenR ?_)))))
   refine To.end1 (.inl rfl) Tryz.results43 rfl ?_
   first | (exfalso; omega) | (simp [binV, divV, k8, k13, k24, k35, k40, k45, k51, k57]; done) | simp [binV, show op = 23 from by omega, k8, k13, k24, k35, k40, k45, k51, k57]
  refine To.seq (To.reg ?_)
  refine To.r (Rd.eql rfl rfl rfl) ?_
  refine To.a (To.nil (To.thenN ?_))
  refine To.condP rfl (fun k63 => ?_) (fun k63 => ?_)
  ·
   refine To.seq (To.reg (To.m ?_))
   refine To.m ?_
   refine To.r (Rd.leq rfl rfl rfl) ?_
   refine To.callV rfl rfl rfl (Ent.fn rfl rfl ca73) (num_fn (decide (a ≤ b))) rfl (oks_nil _) ?_
   refine To.a (To.nil (To.thenN (To.ret (To.blockR (To.thenR ?_)))))
   refine To.end1 (.inl rfl) Tryz.results43 rfl ?_
   first | (exfalso; omega) | (simp [binV, divV, k8, k13, k24, k35, k40, k45, k51, k57, k63]; done) | simp [binV, show op = 23 from by omega, k8, k13, k24, k35, k40, k45, k51, k57, k63]
  refine To.seq (To.reg ?_)
  refine To.r (Rd.eql rfl rfl rfl) ?_
  refine To.a (To.nil (To.thenN ?_))
  refine To.condP rfl (fun k69 => ?_) (fun k69 => ?_)
  ·
   refine To.seq (To.reg (To.m ?_))
   refine To.m ?_
   refine To.r (Rd.gtr rfl rfl rfl) ?_
   refine To.callV rfl rfl rfl (Ent.fn rfl rfl ca73) (num_fn (decide (b < a))) rfl (oks_nil _) ?_
   refine To.a (To.nil (To.thenN (To.ret (To.blockR (To.thenR ?_)))))
   refine To.end1 (.inl rfl) Tryz.results43 rfl ?_
   first | (exfalso; omega) | (simp [binV, divV, k8, k13, k24, k35, k40, k45, k51, k57, k63, k69]; done) | simp [binV, show op = 23 from by omega, k8, k13, k24, k35, k40, k45, k51, k57, k63, k69]
  refine To.seq (To.reg ?_)
  refine To.r (Rd.eql rfl rfl rfl) ?_
  refine To.a (To.nil (To.thenN ?_))
  refine To.condP rfl (fun k75 => ?_) (fun k75 => ?_)
  ·
   refine To.seq (To.reg (To.m ?_))
   refine To.m ?_
   refine To.r (Rd.geq rfl rfl rfl) ?_
   refine To.callV rfl rfl rfl (Ent.fn rfl rfl ca73) (num_fn (decide (b ≤ a))) rfl (oks_nil _) ?_
   refine To.a (To.nil (To.thenN (To.ret (To.blockR (To.thenR ?_)))))
   refine To.end1 (.inl rfl) Tryz.results43 rfl ?_
   first | (exfalso; omega) | (simp [binV, divV, k8, k13, k24, k35, k40, k45, k51, k57, k63, k69, k75]; done) | simp [binV, show op = 23 from by omega, k8, k13, k24, k35, k40, k45, k51, k57, k63, k69, k75]
  refine To.seq (To.reg ?_)
  refine To.r (Rd.eql rfl rfl rfl) ?_
  refine To.a (To.nil (To.thenN ?_))
  refine To.condP rfl (fun k81 => ?_) (fun k81 => ?_)
  ·
   refine To.seq (To.reg (To.m ?_))
   refine To.r (Rd.neq rfl rfl rfl) ?_
   refine To.rdP rfl rfl rfl (Rd.move rfl rfl) (fun g85 => ?_) (fun g85 => ?_)
   ·
    refine To.m ?_
    refine To.r (Rd.neq rfl rfl rfl) ?_
    refine To.r (Rd.pickT rfl rfl rfl) ?_
    refine To.callV rfl rfl rfl (Ent.fn rfl rfl ca73) (num_fn (decide (b ≠ 0))) rfl (oks_nil _) ?_
    refine To.a (To.nil (To.thenN (To.ret (To.blockR (To.thenR ?_)))))
    refine To.end1 (.inl rfl) Tryz.results43 rfl ?_
    first | (exfalso; omega) | (simp [binV, divV, k8, k13, k24, k35, k40, k45, k51, k57, k63, k69, k75, k81, g85]; done) | simp [binV, show op = 23 from by omega, k8, k13, k24, k35, k40, k45, k51, k57, k63, k69, k75, k81, g85]
   refine To.k ?_
   refine To.k ?_
   refine To.r (Rd.pickF rfl rfl rfl) ?_
   refine To.callV rfl rfl rfl (Ent.fn rfl rfl ca73) (num_fn false) rfl (oks_nil _) ?_
   refine To.a (To.nil (To.thenN (To.ret (To.blockR (To.thenR ?_)))))
   refine To.end1 (.inl rfl) Tryz.results43 rfl ?_
   first | (exfalso; omega) | (simp [binV, divV, k8, k13, k24, k35, k40, k45, k51, k57, k63, k69, k75, k81, g85]; done) | simp [binV, show op = 23 from by omega, k8, k13, k24, k35, k40, k45, k51, k57, k63, k69, k75, k81, g85]
  refine To.skip (To.blockN (To.thenN (To.seq (To.reg (To.m ?_)))))
  refine To.r (Rd.neq rfl rfl rfl) ?_
  refine To.rdP rfl rfl rfl (Rd.move rfl rfl) (fun g92 => ?_) (fun g92 => ?_)
  ·
   refine To.k ?_
   refine To.k ?_
   refine To.r (Rd.pickT rfl rfl rfl) ?_
   refine To.callV rfl rfl rfl (Ent.fn rfl rfl ca73) (num_fn true) rfl (oks_nil _) ?_
   refine To.a (To.nil (To.thenN (To.ret ?_)))
   refine To.end1 (.inl rfl) Tryz.results43 rfl ?_
   first | (exfalso; omega) | (simp [binV, divV, k8, k13, k24, k35, k40, k45, k51, k57, k63, k69, k75, k81, g92]; done) | simp [binV, show op = 23 from by omega, k8, k13, k24, k35, k40, k45, k51, k57, k63, k69, k75, k81, g92]
  refine To.m ?_
  refine To.r (Rd.neq rfl rfl rfl) ?_
  refine To.r (Rd.pickF rfl rfl rfl) ?_
  refine To.callV rfl rfl rfl (Ent.fn rfl rfl ca73) (num_fn (decide (b ≠ 0))) rfl (oks_nil _) ?_
  refine To.a (To.nil (To.thenN (To.ret ?_)))
  refine To.end1 (.inl rfl) Tryz.results43 rfl ?_
  first | (exfalso; omega) | (simp [binV, divV, k8, k13, k24, k35, k40, k45, k51, k57, k63, k69, k75, k81, g92]; done) | simp [binV, show op = 23 from by omega, k8, k13, k24, k35, k40, k45, k51, k57, k63, k69, k75, k81, g92]
theorem get_app (l m : List (Int × Int)) (k : Int) : getT (l ++ m) k = (getT l k).or (getT m k) := by
  unfold getT
  rw [List.find?_append]
  cases l.find? (fun e => decide (e.1 = k)) <;> rfl
theorem get_snoc {l : List (Int × Int)} {i : Nat} {x : Int × Int} {k : Int} (hx : l[i]? = some x) : getT (l.take (i + 1)) k = (getT (l.take i) k).or (if x.1 = k then some x.2 else none) := by
  rw [take_of_get hx, get_app, get_cons]; rfl
theorem get_found {l : List (Int × Int)} {i : Nat} {x : Int × Int} {k : Int} (hx : l[i]? = some x) (h : getT (l.take i) k = none) (hk : x.1 = k) : getT l k = some x.2 := by
  conv => lhs; rw [← List.take_append_drop i l]
  rw [get_app, h, drop_of_get hx, get_cons, if_pos hk]; rfl
set_option maxHeartbeats 2000000 in
set_option maxRecDepth 100000 in
theorem rget_fn (A : Option Addr) (ca : Nat) (l : List (Int × Int)) (k : Int) (hl : l.length ≤ 1000000) :
    Does Tryz.prog 74 [.slice A l.length ca, .int .i64 k] [ros encEn A l] (fun v _ => v = .tuple #[.int .i64 ((getT l k).getD 0), .bool (getT l k).isSome]) := by
  refine Does.enter Tryz.func74 rfl Tryz.ntmps74 rfl (fun w0 => ?_)
  refine To.seq (To.reg (To.a ?_))
  refine To.a (To.nil (To.thenN (To.seq (To.seq (To.reg ?_)))))
  refine To.m ?_
  refine To.r (Rd.len rfl rfl Tryz.underlying44) ?_
  refine To.m (To.nil (To.thenN (To.block ?_)))
  refine To.sub [(1, .int .i64 k), (8, .slice A l.length ca), (9, .int .i64 ((l.length : Nat) : Int)), (10, .int .i64 ((0 : Nat) : Int))] ⟨rfl, rfl, rfl, rfl, trivial⟩ ?_
  refine To.only [0] rfl ?_
  refine To.loop (fun mz ρ Γ => ∃ (i : Nat), ρ = [(1, .int .i64 k), (8, .slice A l.length ca), (9, .int .i64 ((l.length : Nat) : Int)), (10, .int .i64 ((i : Nat) : Int))] ∧ Γ = [ros encEn A l] ∧ mz = l.length - i ∧ (i ≤ l.length) ∧ (getT (l.take i) k = none)) (l.length - 0) ⟨0, rfl, rfl, rfl, (Nat.zero_le _), rfl⟩ ?_
  rintro mz _ _ ⟨i, rfl, rfl, rfl, hi, hI⟩
  refine To.seq (To.reg ?_)
  refine To.r (Rd.lss rfl rfl rfl) ?_
  refine To.nil (To.thenN (To.seq ?_))
  refine To.condP rfl (fun c11 => ?_) (fun c11 => ?_)
  ·
   obtain ⟨x, hx⟩ : ∃ z0, l[i]? = some z0 := ⟨l[i]'(by omega), List.getElem?_eq_getElem _⟩
   refine To.skip (To.thenN (To.seq (To.block (To.seq (To.reg ?_)))))
   refine To.r (Rd.indexRos encEn_ok (i := 0) (j := i) rfl rfl rfl s44 rfl hx) ?_
   refine To.r (Rd.loadS (i := 0) rfl rfl r108 rfl (ros_gives encEn_ok hx) (encEn_ok.len _)) ?_
   refine To.alloc rfl rfl rfl rfl z108 (fun b7 => ?_)
   refine To.u (Up.storeS (i := 0) rfl rfl rfl r108 rfl rfl rfl (box_takesAll rfl)) ?_
   refine To.nil (To.thenN (To.seq (To.reg ?_)))
   refine To.r (Rd.indexArr (j := 0) rfl (ArrTy.of (size := 1) Tryz.underlying108 (by kernel_rfl)) rfl rfl (by decide)) ?_
   refine To.lo 0 c2 ?_
   refine To.m ?_
   refine To.r (Rd.eql rfl rfl rfl) ?_
   refine To.nil (To.thenN ?_)
   refine To.condP rfl (fun c17 => ?_) (fun c17 => ?_)
   ·
    refine To.seq (To.reg ?_)
    refine To.r (Rd.indexArr (j := 1) rfl (ArrTy.of (size := 1) Tryz.underlying108 (by kernel_rfl)) rfl rfl (by decide)) ?_
    refine To.lo 0 c2 ?_
    refine To.a ?_
    refine To.a (To.nil (To.thenN (To.ret (To.blockR (To.thenR (To.thenR (To.blockR (To.thenR ?_))))))))
    refine To.end2 (.inl rfl) Tryz.results74 rfl rfl ?_
    show Value.tuple #[_, _] = Value.tuple #[_, _]
    rw [get_found hx hI c17]; rfl
   refine To.skip (To.blockN (To.thenN (To.reg ?_)))
   refine To.r (Rd.inc rfl rfl rfl (by omega)) ?_
   refine To.m (To.nil (To.thenN ?_))
   refine To.sub [(1, .int .i64 k), (8, .slice A l.length ca), (9, .int .i64 ((l.length : Nat) : Int)), (10, .int .i64 (((i + 1) : Nat) : Int))] ⟨rfl, rfl, rfl, rfl, trivial⟩ ?_
   refine To.only [1] rfl ?_
   refine To.again (l.length - (i + 1)) (by omega) ⟨i + 1, rfl, rfl, rfl, (by omega), (by rw [get_snoc hx, hI, if_neg c17]; rfl)⟩
  refine To.exit (To.thenX (To.thenX (To.blockX (To.thenN (To.seq (To.reg (To.a ?_)))))))
  refine To.a (To.nil (To.thenN (To.ret ?_)))
  refine To.end2 (.inl rfl) Tryz.results74 rfl rfl ?_
  show Value.tuple #[_, _] = Value.tuple #[_, _]
  rw [show l = l.take i from (List.take_of_length_le (by omega)).symm, hI]; rfl
set_option maxHeartbeats 2000000 in
set_option maxRecDepth 100000 in
theorem rput2_fn (A : Option Addr) (ca : Nat) (l : List (Int × Int)) (k v : Int) (hg : Good l) :
    Does Tryz.prog 44 [.slice A l.length ca, .int .i64 k, .int .i64 v] [ros encEn A l] (fun r Γ' => ∃ B q, r = .slice B (putR l k v).length q ∧ Γ' = [ros encEn B (putR l k v)]) := by
  have hl := hg.len
  refine Does.enter Tryz.func44 rfl Tryz.ntmps44 rfl (fun w0 => ?_)
  refine To.seq (To.reg (To.a (To.nil (To.thenN (To.seq (To.seq (To.reg ?_)))))))
  refine To.m ?_
  refine To.m ?_
  refine To.callV rfl rfl rfl (Ent.fn rfl rfl ca74) (rget_fn A ca l k (by omega)) rfl (oks_cons (oks_at 0 rfl) (oks_nil _)) ?_
  refine To.m ?_
  refine To.r (Rd.extract rfl rfl rfl) ?_
  refine To.r (Rd.extract rfl rfl rfl) ?_
  refine To.a ?_
  refine To.a (To.nil (To.thenN (To.seq (To.reg ?_))))
  refine To.m ?_
  refine To.r (Rd.not rfl rfl) ?_
  refine To.rdB rfl rfl rfl (Rd.move rfl rfl) (fun g17 => ?_) (fun g17 => ?_)
  ·
   refine To.m ?_
   refine To.r (Rd.len rfl rfl Tryz.underlying44) ?_
   refine To.r (Rd.geq rfl rfl rfl) ?_
   refine To.r (Rd.pickT rfl rfl rfl) ?_
   refine To.nil (To.thenN ?_)
   refine To.condP rfl (fun c21 => ?_) (fun c21 => ?_)
   ·
    refine To.seq (To.reg (To.m ?_))
    refine To.a (To.nil (To.thenN (To.ret (To.thenR ?_))))
    refine To.only [0] rfl ?_
    refine To.end1 (.inl rfl) Tryz.results44 rfl ?_
    have hfin : putR l k v = l := by rw [← rputR hg k v, if_pos ⟨by simpa using g17, by omega⟩]
    exact ⟨A, ca, by rw [hfin], by rw [hfin]⟩
   refine To.skip (To.thenN (To.seq (To.reg (To.m ?_))))
   refine To.m ?_
   refine To.m ?_
   refine To.callQ rfl rfl rfl (Ent.fn rfl rfl ca31) (rput_fn A ca l k v (by omega)) rfl (oks_cons (oks_at 0 rfl) (oks_nil _)) ?_
   rintro _ _ ⟨B, q, rfl, rfl⟩
   refine ⟨rfl, ?_⟩
   refine To.a (To.nil (To.thenN (To.ret ?_)))
   refine To.only [0, 0] rfl ?_
   refine To.layRow ?_
   refine To.only [0] rfl ?_
   refine To.end1 (.inl rfl) Tryz.results44 rfl ?_
   have hfin : putR l k v = rputT l k v := by rw [← rputR hg k v, if_neg (by rintro ⟨h, h2⟩; omega)]
   exact ⟨B, q, by rw [hfin], by rw [hfin]⟩
  refine To.k ?_
  refine To.k ?_
  refine To.k ?_
  refine To.r (Rd.pickF rfl rfl rfl) ?_
  refine To.nil (To.thenN ?_)
  refine To.condF rfl ?_
  refine To.skip (To.thenN (To.seq (To.reg (To.m ?_))))
  refine To.m ?_
  refine To.m ?_
  refine To.callQ rfl rfl rfl (Ent.fn rfl rfl ca31) (rput_fn A ca l k v (by omega)) rfl (oks_cons (oks_at 0 rfl) (oks_nil _)) ?_
  rintro _ _ ⟨B, q, rfl, rfl⟩
  refine ⟨rfl, ?_⟩
  refine To.a (To.nil (To.thenN (To.ret ?_)))
  refine To.only [0, 0] rfl ?_
  refine To.layRow ?_
  refine To.only [0] rfl ?_
  refine To.end1 (.inl rfl) Tryz.results44 rfl ?_
  have hfin : putR l k v = rputT l k v := by rw [← rputR hg k v, if_neg (by rintro ⟨h, h2⟩; simp at g17; rw [g17] at h; exact h rfl)]
  exact ⟨B, q, by rw [hfin], by rw [hfin]⟩
set_option maxHeartbeats 2000000 in
set_option maxRecDepth 100000 in
theorem rpush_fn (b : Nat) (s : Sm) (d : Dm) (x : Int) (hl : d.stack.length ≤ 1000000) :
    Does Tryz.prog 42 [.pointer (some ⟨b, 0, none⟩), .int .i64 x] [box b [.slice s.Aa s.args.length s.qa, .int .i64 s.now, .slice s.Ag s.flags.length s.qg, .int .i64 s.dsk, .slice s.Af s.fail.length s.qf, .slice d.Av d.vars.length d.qv, .slice d.At d.tabs.length d.qt, .slice d.dk.A d.dk.l.length d.dk.q, .slice d.Ae d.effs.length d.qe, .int .i64 d.cost, .slice d.As d.stack.length d.qs, .int .i64 d.disks, .int .i64 d.sends, .bool d.fault, .string ByteArray.empty, .slice none 0 0, .slice none 0 0, .string ByteArray.empty, .slice none 0 0, .slice none 0 0, .slice none 0 0, .int .i64 0] 106, rows encI 2 1 d.As d.qs d.stack] (fun v Γ' => v = .tuple #[] ∧ ∃ A q, Γ' = [box b (xc s { d with As := A, qs := q, stack := d.stack ++ [x] }) 106, rows encI 2 1 A q (d.stack ++ [x])]) := by
  refine Does.enter Tryz.func42 rfl Tryz.ntmps42 rfl (fun w0 => ?_)
  refine To.reg (To.m ?_)
  refine To.m ?_
  refine To.r (Rd.nilCheck rfl rfl) ?_
  refine To.f fl106_2 ?_
  refine To.lo 0 c24 ?_
  refine To.m ?_
  refine To.mk rfl rfl rfl (Mk.sliceN (us := [.int .i64 x]) rfl s24 rfl rfl rfl rfl rfl rfl) ?_
  rintro _ _ ⟨b10, rfl, rfl⟩
  refine To.ge rfl rfl rfl (Ge.append1 encI_ok (i := 2) (j := 0) (el := x) rfl s24 rfl rfl rfl rfl rfl (by first | omega | (simp only [List.length_append, List.length_cons, List.length_nil]; omega)) (by first | omega | (simp only [List.length_append, List.length_cons, List.length_nil]; omega))) ?_
  rintro _ _ ⟨A11, q11, rfl, rfl⟩
  refine To.r (Rd.nilCheck rfl rfl) ?_
  refine To.f fl106_2 ?_
  refine To.u (Up.store (i := 1) rfl rfl rfl c24 rfl rfl (box_takes1 rfl)) ?_
  refine To.nil ?_
  refine To.only [1, 1] rfl ?_
  refine To.end0 (.inr rfl) Tryz.results42 ?_
  exact ⟨rfl, _, _, rfl⟩
set_option maxHeartbeats 2000000 in
set_option maxRecDepth 100000 in
theorem rpop_fn (b : Nat) (s : Sm) (d : Dm) (n : Nat) (hn : n ≤ d.stack.length ∧ d.stack.length ≤ 1000000) :
    Does Tryz.prog 41 [.pointer (some ⟨b, 0, none⟩), .int .i64 ((n : Nat) : Int)] [box b [.slice s.Aa s.args.length s.qa, .int .i64 s.now, .slice s.Ag s.flags.length s.qg, .int .i64 s.dsk, .slice s.Af s.fail.length s.qf, .slice d.Av d.vars.length d.qv, .slice d.At d.tabs.length d.qt, .slice d.dk.A d.dk.l.length d.dk.q, .slice d.Ae d.effs.length d.qe, .int .i64 d.cost, .slice d.As d.stack.length d.qs, .int .i64 d.disks, .int .i64 d.sends, .bool d.fault, .string ByteArray.empty, .slice none 0 0, .slice none 0 0, .string ByteArray.empty, .slice none 0 0, .slice none 0 0, .slice none 0 0, .int .i64 0] 106, rows encI 2 1 d.As d.qs d.stack] (fun v Γ' => ∃ B q, v = .slice B (d.stack.drop (d.stack.length - n)).length q ∧ Γ' = [box b (xc s { d with stack := (d.stack.take (d.stack.length - n)) }) 106, rows encI 2 1 d.As d.qs (d.stack.take (d.stack.length - n)), rows encI 2 1 B q (d.stack.drop (d.stack.length - n))]) := by
  refine Does.enter Tryz.func41 rfl Tryz.ntmps41 rfl (fun w0 => ?_)
  refine To.seq (To.reg (To.a (To.nil (To.thenN (To.seq (To.reg ?_))))))
  refine To.m ?_
  refine To.r (Rd.nilCheck rfl rfl) ?_
  refine To.f fl106_2 ?_
  refine To.lo 0 c24 ?_
  refine To.r (Rd.len rfl rfl Tryz.underlying24) ?_
  refine To.m ?_
  refine To.r (Rd.as (v' := .int .i64 ((d.stack.length - n : Nat) : Int)) (congrArg (Value.int .i64) (by omega)) (Rd.sub64 rfl rfl rfl (by omega))) ?_
  refine To.a (To.nil (To.thenN (To.seq ?_)))
  refine To.know (p := d.stack.length ≤ d.qs) (fun w hw => rows_capD 1 rfl hw) (fun hqs => ?_)
  refine To.reg ?_
  refine To.mk rfl rfl rfl (Mk.slice0R (enc := encI) rfl s24) ?_
  rintro _ _ ⟨A14, rfl, rfl⟩
  refine To.m ?_
  refine To.r (Rd.nilCheck rfl rfl) ?_
  refine To.f fl106_2 ?_
  refine To.lo 1 c24 ?_
  refine To.m ?_
  refine To.r (Rd.as (v' := .slice (slAt d.As d.qs (d.stack.length - n) 1) (d.stack.drop (d.stack.length - n)).length (d.qs - (d.stack.length - n))) (congrArg (fun z => Value.slice (slAt d.As d.qs (d.stack.length - n) 1) z (d.qs - (d.stack.length - n))) (List.length_drop).symm) (Rd.sliceLo (lo := d.stack.length - n) rfl s24 rfl rfl (by omega))) ?_
  refine To.ge rfl rfl rfl (Ge.appendL encI_ok (i := 0) (m := (d.stack.drop (d.stack.length - n))) rfl s24 rfl rfl rfl (fun w hs => oks_dropRow (lo := d.stack.length - n) encI_ok 2 rfl hqs (by omega) w hs.each) (by rw [List.length_drop]; simp only [List.length_nil]; omega) (by rw [List.length_drop]; simp only [List.length_nil]; omega)) ?_
  rintro _ _ ⟨Bo, qo, rfl, rfl⟩
  refine To.a (To.nil (To.thenN (To.seq (To.reg ?_))))
  refine To.m ?_
  refine To.m ?_
  refine To.r (Rd.nilCheck rfl rfl) ?_
  refine To.f fl106_2 ?_
  refine To.lo 1 c24 ?_
  refine To.m ?_
  refine To.r (Rd.as (v' := .slice d.As (d.stack.take (d.stack.length - n)).length d.qs) (congrArg (fun z => Value.slice d.As z d.qs) (by rw [List.length_take]; omega)) (Rd.sliceHi (hi := d.stack.length - n) rfl s24 rfl rfl (by omega))) ?_
  refine To.r (Rd.nilCheck rfl rfl) ?_
  refine To.f fl106_2 ?_
  refine To.u (Up.store (i := 1) rfl rfl rfl c24 rfl rfl (box_takes1 rfl)) ?_
  refine To.nil (To.thenN (To.seq (To.reg (To.m ?_))))
  refine To.a (To.nil (To.thenN (To.ret ?_)))
  refine To.up2 ?_
  refine To.shrink encI_ok (d.stack.length - n) (by omega) ?_
  refine To.up2 ?_
  refine To.end1 (.inl rfl) Tryz.results41 rfl ?_
  exact ⟨_, _, rfl, rfl⟩
end Go.Proofs.YtoehnbacbobhiaaGreatDoor
