/- Equality of lists of events, few and Project. Own text (walks printed by sx.py). -/
import Derived.Test.YtneimfacccgaeaaV3
namespace Go.Proofs.Ytneimfacccgaeaa
open Go.RowKit Go.Flow Go.Mem Go.Sep
def Ev.same (x y : Ev) : Bool := decide (x.val = y.val)
theorem same_args {x y : Ev} (h : x.args ≠ y.args) : x.same y = false := by simp [Ev.same, val_eq, h]
theorem args_step {l m : List Int} {i : Nat} {u v : Int} (hx : l[i]? = some u) (hy : m[i]? = some v) (h : l.take i = m.take i) (e : u = v) : l.take (i + 1) = m.take (i + 1) := by
  rw [take_of_get hx, take_of_get hy, h, e]
theorem args_no {l m : List Int} {i : Nat} {u v : Int} (hx : l[i]? = some u) (hy : m[i]? = some v) (e : u ≠ v) : l ≠ m := fun h => by
  rw [h, hy] at hx; exact e (Option.some.inj hx).symm
set_option maxHeartbeats 2000000 in
set_option maxRecDepth 100000 in
theorem same_fn (x y : Ev) (hl : x.args.length ≤ 1000000000000) :
    Does Try.prog 18 [.agg (Ev.cells x).toArray, .agg (Ev.cells y).toArray] [ros encI x.A x.args, ros encI y.A y.args] (fun v _ => v = .bool (x.same y)) := by
  refine Does.enter Try.func18 rfl Try.ntmps18 rfl (fun w0 => ?_)
  refine To.seq ?_
  refine To.reg ?_
  refine To.boxed rfl rfl rfl rfl rfl rfl (fun b2 => ?_)
  refine To.boxed rfl rfl rfl rfl rfl rfl (fun b3 => ?_)
  refine To.rd rfl rfl rfl (Rd.assign rfl rfl) ?_
  refine To.nil ?_
  refine To.thenN ?_
  refine To.seq ?_
  refine To.seq ?_
  refine To.reg ?_
  refine To.meet (T := Bool) (fun t => ([(2, .pointer (some ⟨b2, 0, none⟩)), (3, .pointer (some ⟨b3, 0, none⟩)), (68, .bool t)], [box b2 [.int .i64 x.t, .int .i64 x.c, .int .u8 x.k, .int .i64 x.p, .int .i64 x.n, .int .i64 x.cp, .int .i64 x.h, .int .i64 x.d, .slice x.A x.args.length x.cap] 37, box b3 [.int .i64 y.t, .int .i64 y.c, .int .u8 y.k, .int .i64 y.p, .int .i64 y.n, .int .i64 y.cp, .int .i64 y.h, .int .i64 y.d, .slice y.A y.args.length y.cap] 37, ros encI x.A x.args, ros encI y.A y.args])) (fun t => t = !decide (x.t = y.t ∧ x.c = y.c ∧ x.k = y.k ∧ x.p = y.p ∧ x.n = y.n ∧ x.cp = y.cp ∧ x.h = y.h ∧ x.d = y.d ∧ x.args.length = y.args.length)) ?_ (fun t ht => ?_)
  ·
    refine To.rd rfl rfl rfl (Rd.field rfl rfl fl37_0) ?_
    refine To.rd rfl rfl rfl (Rd.load (i := 1) rfl rfl c3 rfl (box_gives1 rfl)) ?_
    refine To.rd rfl rfl rfl (Rd.field rfl rfl fl37_0) ?_
    refine To.rd rfl rfl rfl (Rd.load (i := 0) rfl rfl c3 rfl (box_gives1 rfl)) ?_
    refine To.rd rfl rfl rfl (Rd.neq rfl rfl rfl) ?_
    refine To.rdP rfl rfl rfl (Rd.move rfl rfl) (fun g11 => ?_) (fun g11 => ?_)
    ·
      refine To.sk rfl rfl rfl ?_
      refine To.sk rfl rfl rfl ?_
      refine To.sk rfl rfl rfl ?_
      refine To.sk rfl rfl rfl ?_
      refine To.sk rfl rfl rfl ?_
      refine To.rd rfl rfl rfl (Rd.pickT rfl rfl rfl) ?_
      refine To.rd rfl rfl rfl (Rd.move rfl rfl) ?_
      refine To.sk rfl rfl rfl ?_
      refine To.sk rfl rfl rfl ?_
      refine To.sk rfl rfl rfl ?_
      refine To.sk rfl rfl rfl ?_
      refine To.sk rfl rfl rfl ?_
      refine To.rd rfl rfl rfl (Rd.pickT rfl rfl rfl) ?_
      refine To.rd rfl rfl rfl (Rd.move rfl rfl) ?_
      refine To.sk rfl rfl rfl ?_
      refine To.sk rfl rfl rfl ?_
      refine To.sk rfl rfl rfl ?_
      refine To.sk rfl rfl rfl ?_
      refine To.sk rfl rfl rfl ?_
      refine To.rd rfl rfl rfl (Rd.pickT rfl rfl rfl) ?_
      refine To.rd rfl rfl rfl (Rd.move rfl rfl) ?_
      refine To.sk rfl rfl rfl ?_
      refine To.sk rfl rfl rfl ?_
      refine To.sk rfl rfl rfl ?_
      refine To.sk rfl rfl rfl ?_
      refine To.sk rfl rfl rfl ?_
      refine To.rd rfl rfl rfl (Rd.pickT rfl rfl rfl) ?_
      refine To.rd rfl rfl rfl (Rd.move rfl rfl) ?_
      refine To.sk rfl rfl rfl ?_
      refine To.sk rfl rfl rfl ?_
      refine To.sk rfl rfl rfl ?_
      refine To.sk rfl rfl rfl ?_
      refine To.sk rfl rfl rfl ?_
      refine To.rd rfl rfl rfl (Rd.pickT rfl rfl rfl) ?_
      refine To.rd rfl rfl rfl (Rd.move rfl rfl) ?_
      refine To.sk rfl rfl rfl ?_
      refine To.sk rfl rfl rfl ?_
      refine To.sk rfl rfl rfl ?_
      refine To.sk rfl rfl rfl ?_
      refine To.sk rfl rfl rfl ?_
      refine To.rd rfl rfl rfl (Rd.pickT rfl rfl rfl) ?_
      refine To.rd rfl rfl rfl (Rd.move rfl rfl) ?_
      refine To.sk rfl rfl rfl ?_
      refine To.sk rfl rfl rfl ?_
      refine To.sk rfl rfl rfl ?_
      refine To.sk rfl rfl rfl ?_
      refine To.sk rfl rfl rfl ?_
      refine To.rd rfl rfl rfl (Rd.pickT rfl rfl rfl) ?_
      refine To.rd rfl rfl rfl (Rd.move rfl rfl) ?_
      refine To.sk rfl rfl rfl ?_
      refine To.sk rfl rfl rfl ?_
      refine To.sk rfl rfl rfl ?_
      refine To.sk rfl rfl rfl ?_
      refine To.sk rfl rfl rfl ?_
      refine To.sk rfl rfl rfl ?_
      refine To.sk rfl rfl rfl ?_
      refine To.rd rfl rfl rfl (Rd.pickT rfl rfl rfl) ?_
      refine To.nil (To.thenN ?_)
      refine To.only [1, 0, 0, 0] rfl ?_
      refine To.here true (by first | (simp_all; done) | (simp_all; omega)) ⟨rfl, rfl, rfl, trivial⟩ rfl
    ·
      refine To.rd rfl rfl rfl (Rd.field rfl rfl fl37_1) ?_
      refine To.rd rfl rfl rfl (Rd.load (i := 1) rfl rfl c3 rfl (box_gives1 rfl)) ?_
      refine To.rd rfl rfl rfl (Rd.field rfl rfl fl37_1) ?_
      refine To.rd rfl rfl rfl (Rd.load (i := 0) rfl rfl c3 rfl (box_gives1 rfl)) ?_
      refine To.rd rfl rfl rfl (Rd.neq rfl rfl rfl) ?_
      refine To.rd rfl rfl rfl (Rd.pickF rfl rfl rfl) ?_
      refine To.rdP rfl rfl rfl (Rd.move rfl rfl) (fun g18 => ?_) (fun g18 => ?_)
      ·
        refine To.sk rfl rfl rfl ?_
        refine To.sk rfl rfl rfl ?_
        refine To.sk rfl rfl rfl ?_
        refine To.sk rfl rfl rfl ?_
        refine To.sk rfl rfl rfl ?_
        refine To.rd rfl rfl rfl (Rd.pickT rfl rfl rfl) ?_
        refine To.rd rfl rfl rfl (Rd.move rfl rfl) ?_
        refine To.sk rfl rfl rfl ?_
        refine To.sk rfl rfl rfl ?_
        refine To.sk rfl rfl rfl ?_
        refine To.sk rfl rfl rfl ?_
        refine To.sk rfl rfl rfl ?_
        refine To.rd rfl rfl rfl (Rd.pickT rfl rfl rfl) ?_
        refine To.rd rfl rfl rfl (Rd.move rfl rfl) ?_
        refine To.sk rfl rfl rfl ?_
        refine To.sk rfl rfl rfl ?_
        refine To.sk rfl rfl rfl ?_
        refine To.sk rfl rfl rfl ?_
        refine To.sk rfl rfl rfl ?_
        refine To.rd rfl rfl rfl (Rd.pickT rfl rfl rfl) ?_
        refine To.rd rfl rfl rfl (Rd.move rfl rfl) ?_
        refine To.sk rfl rfl rfl ?_
        refine To.sk rfl rfl rfl ?_
        refine To.sk rfl rfl rfl ?_
        refine To.sk rfl rfl rfl ?_
        refine To.sk rfl rfl rfl ?_
        refine To.rd rfl rfl rfl (Rd.pickT rfl rfl rfl) ?_
        refine To.rd rfl rfl rfl (Rd.move rfl rfl) ?_
        refine To.sk rfl rfl rfl ?_
        refine To.sk rfl rfl rfl ?_
        refine To.sk rfl rfl rfl ?_
        refine To.sk rfl rfl rfl ?_
        refine To.sk rfl rfl rfl ?_
        refine To.rd rfl rfl rfl (Rd.pickT rfl rfl rfl) ?_
        refine To.rd rfl rfl rfl (Rd.move rfl rfl) ?_
        refine To.sk rfl rfl rfl ?_
        refine To.sk rfl rfl rfl ?_
        refine To.sk rfl rfl rfl ?_
        refine To.sk rfl rfl rfl ?_
        refine To.sk rfl rfl rfl ?_
        refine To.rd rfl rfl rfl (Rd.pickT rfl rfl rfl) ?_
        refine To.rd rfl rfl rfl (Rd.move rfl rfl) ?_
        refine To.sk rfl rfl rfl ?_
        refine To.sk rfl rfl rfl ?_
        refine To.sk rfl rfl rfl ?_
        refine To.sk rfl rfl rfl ?_
        refine To.sk rfl rfl rfl ?_
        refine To.sk rfl rfl rfl ?_
        refine To.sk rfl rfl rfl ?_
        refine To.rd rfl rfl rfl (Rd.pickT rfl rfl rfl) ?_
        refine To.nil (To.thenN ?_)
        refine To.only [1, 0, 0, 0] rfl ?_
        refine To.here true (by first | (simp_all; done) | (simp_all; omega)) ⟨rfl, rfl, rfl, trivial⟩ rfl
      ·
        refine To.rd rfl rfl rfl (Rd.field rfl rfl fl37_2) ?_
        refine To.rd rfl rfl rfl (Rd.load (i := 1) rfl rfl c34 rfl (box_gives1 rfl)) ?_
        refine To.rd rfl rfl rfl (Rd.field rfl rfl fl37_2) ?_
        refine To.rd rfl rfl rfl (Rd.load (i := 0) rfl rfl c34 rfl (box_gives1 rfl)) ?_
        refine To.rd rfl rfl rfl (Rd.neq rfl rfl rfl) ?_
        refine To.rd rfl rfl rfl (Rd.pickF rfl rfl rfl) ?_
        refine To.rdP rfl rfl rfl (Rd.move rfl rfl) (fun g25 => ?_) (fun g25 => ?_)
        ·
          refine To.sk rfl rfl rfl ?_
          refine To.sk rfl rfl rfl ?_
          refine To.sk rfl rfl rfl ?_
          refine To.sk rfl rfl rfl ?_
          refine To.sk rfl rfl rfl ?_
          refine To.rd rfl rfl rfl (Rd.pickT rfl rfl rfl) ?_
          refine To.rd rfl rfl rfl (Rd.move rfl rfl) ?_
          refine To.sk rfl rfl rfl ?_
          refine To.sk rfl rfl rfl ?_
          refine To.sk rfl rfl rfl ?_
          refine To.sk rfl rfl rfl ?_
          refine To.sk rfl rfl rfl ?_
          refine To.rd rfl rfl rfl (Rd.pickT rfl rfl rfl) ?_
          refine To.rd rfl rfl rfl (Rd.move rfl rfl) ?_
          refine To.sk rfl rfl rfl ?_
          refine To.sk rfl rfl rfl ?_
          refine To.sk rfl rfl rfl ?_
          refine To.sk rfl rfl rfl ?_
          refine To.sk rfl rfl rfl ?_
          refine To.rd rfl rfl rfl (Rd.pickT rfl rfl rfl) ?_
          refine To.rd rfl rfl rfl (Rd.move rfl rfl) ?_
          refine To.sk rfl rfl rfl ?_
          refine To.sk rfl rfl rfl ?_
          refine To.sk rfl rfl rfl ?_
          refine To.sk rfl rfl rfl ?_
          refine To.sk rfl rfl rfl ?_
          refine To.rd rfl rfl rfl (Rd.pickT rfl rfl rfl) ?_
          refine To.rd rfl rfl rfl (Rd.move rfl rfl) ?_
          refine To.sk rfl rfl rfl ?_
          refine To.sk rfl rfl rfl ?_
          refine To.sk rfl rfl rfl ?_
          refine To.sk rfl rfl rfl ?_
          refine To.sk rfl rfl rfl ?_
          refine To.rd rfl rfl rfl (Rd.pickT rfl rfl rfl) ?_
          refine To.rd rfl rfl rfl (Rd.move rfl rfl) ?_
          refine To.sk rfl rfl rfl ?_
          refine To.sk rfl rfl rfl ?_
          refine To.sk rfl rfl rfl ?_
          refine To.sk rfl rfl rfl ?_
          refine To.sk rfl rfl rfl ?_
          refine To.sk rfl rfl rfl ?_
          refine To.sk rfl rfl rfl ?_
          refine To.rd rfl rfl rfl (Rd.pickT rfl rfl rfl) ?_
          refine To.nil (To.thenN ?_)
          refine To.only [1, 0, 0, 0] rfl ?_
          refine To.here true (by first | (simp_all; done) | (simp_all; omega)) ⟨rfl, rfl, rfl, trivial⟩ rfl
        ·
          refine To.rd rfl rfl rfl (Rd.field rfl rfl fl37_3) ?_
          refine To.rd rfl rfl rfl (Rd.load (i := 1) rfl rfl c3 rfl (box_gives1 rfl)) ?_
          refine To.rd rfl rfl rfl (Rd.field rfl rfl fl37_3) ?_
          refine To.rd rfl rfl rfl (Rd.load (i := 0) rfl rfl c3 rfl (box_gives1 rfl)) ?_
          refine To.rd rfl rfl rfl (Rd.neq rfl rfl rfl) ?_
          refine To.rd rfl rfl rfl (Rd.pickF rfl rfl rfl) ?_
          refine To.rdP rfl rfl rfl (Rd.move rfl rfl) (fun g32 => ?_) (fun g32 => ?_)
          ·
            refine To.sk rfl rfl rfl ?_
            refine To.sk rfl rfl rfl ?_
            refine To.sk rfl rfl rfl ?_
            refine To.sk rfl rfl rfl ?_
            refine To.sk rfl rfl rfl ?_
            refine To.rd rfl rfl rfl (Rd.pickT rfl rfl rfl) ?_
            refine To.rd rfl rfl rfl (Rd.move rfl rfl) ?_
            refine To.sk rfl rfl rfl ?_
            refine To.sk rfl rfl rfl ?_
            refine To.sk rfl rfl rfl ?_
            refine To.sk rfl rfl rfl ?_
            refine To.sk rfl rfl rfl ?_
            refine To.rd rfl rfl rfl (Rd.pickT rfl rfl rfl) ?_
            refine To.rd rfl rfl rfl (Rd.move rfl rfl) ?_
            refine To.sk rfl rfl rfl ?_
            refine To.sk rfl rfl rfl ?_
            refine To.sk rfl rfl rfl ?_
            refine To.sk rfl rfl rfl ?_
            refine To.sk rfl rfl rfl ?_
            refine To.rd rfl rfl rfl (Rd.pickT rfl rfl rfl) ?_
            refine To.rd rfl rfl rfl (Rd.move rfl rfl) ?_
            refine To.sk rfl rfl rfl ?_
            refine To.sk rfl rfl rfl ?_
            refine To.sk rfl rfl rfl ?_
            refine To.sk rfl rfl rfl ?_
            refine To.sk rfl rfl rfl ?_
            refine To.rd rfl rfl rfl (Rd.pickT rfl rfl rfl) ?_
            refine To.rd rfl rfl rfl (Rd.move rfl rfl) ?_
            refine To.sk rfl rfl rfl ?_
            refine To.sk rfl rfl rfl ?_
            refine To.sk rfl rfl rfl ?_
            refine To.sk rfl rfl rfl ?_
            refine To.sk rfl rfl rfl ?_
            refine To.sk rfl rfl rfl ?_
            refine To.sk rfl rfl rfl ?_
            refine To.rd rfl rfl rfl (Rd.pickT rfl rfl rfl) ?_
            refine To.nil (To.thenN ?_)
            refine To.only [1, 0, 0, 0] rfl ?_
            refine To.here true (by first | (simp_all; done) | (simp_all; omega)) ⟨rfl, rfl, rfl, trivial⟩ rfl
          ·
            refine To.rd rfl rfl rfl (Rd.field rfl rfl fl37_4) ?_
            refine To.rd rfl rfl rfl (Rd.load (i := 1) rfl rfl c3 rfl (box_gives1 rfl)) ?_
            refine To.rd rfl rfl rfl (Rd.field rfl rfl fl37_4) ?_
            refine To.rd rfl rfl rfl (Rd.load (i := 0) rfl rfl c3 rfl (box_gives1 rfl)) ?_
            refine To.rd rfl rfl rfl (Rd.neq rfl rfl rfl) ?_
            refine To.rd rfl rfl rfl (Rd.pickF rfl rfl rfl) ?_
            refine To.rdP rfl rfl rfl (Rd.move rfl rfl) (fun g39 => ?_) (fun g39 => ?_)
            ·
              refine To.sk rfl rfl rfl ?_
              refine To.sk rfl rfl rfl ?_
              refine To.sk rfl rfl rfl ?_
              refine To.sk rfl rfl rfl ?_
              refine To.sk rfl rfl rfl ?_
              refine To.rd rfl rfl rfl (Rd.pickT rfl rfl rfl) ?_
              refine To.rd rfl rfl rfl (Rd.move rfl rfl) ?_
              refine To.sk rfl rfl rfl ?_
              refine To.sk rfl rfl rfl ?_
              refine To.sk rfl rfl rfl ?_
              refine To.sk rfl rfl rfl ?_
              refine To.sk rfl rfl rfl ?_
              refine To.rd rfl rfl rfl (Rd.pickT rfl rfl rfl) ?_
              refine To.rd rfl rfl rfl (Rd.move rfl rfl) ?_
              refine To.sk rfl rfl rfl ?_
              refine To.sk rfl rfl rfl ?_
              refine To.sk rfl rfl rfl ?_
              refine To.sk rfl rfl rfl ?_
              refine To.sk rfl rfl rfl ?_
              refine To.rd rfl rfl rfl (Rd.pickT rfl rfl rfl) ?_
              refine To.rd rfl rfl rfl (Rd.move rfl rfl) ?_
              refine To.sk rfl rfl rfl ?_
              refine To.sk rfl rfl rfl ?_
              refine To.sk rfl rfl rfl ?_
              refine To.sk rfl rfl rfl ?_
              refine To.sk rfl rfl rfl ?_
              refine To.sk rfl rfl rfl ?_
              refine To.sk rfl rfl rfl ?_
              refine To.rd rfl rfl rfl (Rd.pickT rfl rfl rfl) ?_
              refine To.nil (To.thenN ?_)
              refine To.only [1, 0, 0, 0] rfl ?_
              refine To.here true (by first | (simp_all; done) | (simp_all; omega)) ⟨rfl, rfl, rfl, trivial⟩ rfl
            ·
              refine To.rd rfl rfl rfl (Rd.field rfl rfl fl37_5) ?_
              refine To.rd rfl rfl rfl (Rd.load (i := 1) rfl rfl c3 rfl (box_gives1 rfl)) ?_
              refine To.rd rfl rfl rfl (Rd.field rfl rfl fl37_5) ?_
              refine To.rd rfl rfl rfl (Rd.load (i := 0) rfl rfl c3 rfl (box_gives1 rfl)) ?_
              refine To.rd rfl rfl rfl (Rd.neq rfl rfl rfl) ?_
              refine To.rd rfl rfl rfl (Rd.pickF rfl rfl rfl) ?_
              refine To.rdP rfl rfl rfl (Rd.move rfl rfl) (fun g46 => ?_) (fun g46 => ?_)
              ·
                refine To.sk rfl rfl rfl ?_
                refine To.sk rfl rfl rfl ?_
                refine To.sk rfl rfl rfl ?_
                refine To.sk rfl rfl rfl ?_
                refine To.sk rfl rfl rfl ?_
                refine To.rd rfl rfl rfl (Rd.pickT rfl rfl rfl) ?_
                refine To.rd rfl rfl rfl (Rd.move rfl rfl) ?_
                refine To.sk rfl rfl rfl ?_
                refine To.sk rfl rfl rfl ?_
                refine To.sk rfl rfl rfl ?_
                refine To.sk rfl rfl rfl ?_
                refine To.sk rfl rfl rfl ?_
                refine To.rd rfl rfl rfl (Rd.pickT rfl rfl rfl) ?_
                refine To.rd rfl rfl rfl (Rd.move rfl rfl) ?_
                refine To.sk rfl rfl rfl ?_
                refine To.sk rfl rfl rfl ?_
                refine To.sk rfl rfl rfl ?_
                refine To.sk rfl rfl rfl ?_
                refine To.sk rfl rfl rfl ?_
                refine To.sk rfl rfl rfl ?_
                refine To.sk rfl rfl rfl ?_
                refine To.rd rfl rfl rfl (Rd.pickT rfl rfl rfl) ?_
                refine To.nil (To.thenN ?_)
                refine To.only [1, 0, 0, 0] rfl ?_
                refine To.here true (by first | (simp_all; done) | (simp_all; omega)) ⟨rfl, rfl, rfl, trivial⟩ rfl
              ·
                refine To.rd rfl rfl rfl (Rd.field rfl rfl fl37_6) ?_
                refine To.rd rfl rfl rfl (Rd.load (i := 1) rfl rfl c3 rfl (box_gives1 rfl)) ?_
                refine To.rd rfl rfl rfl (Rd.field rfl rfl fl37_6) ?_
                refine To.rd rfl rfl rfl (Rd.load (i := 0) rfl rfl c3 rfl (box_gives1 rfl)) ?_
                refine To.rd rfl rfl rfl (Rd.neq rfl rfl rfl) ?_
                refine To.rd rfl rfl rfl (Rd.pickF rfl rfl rfl) ?_
                refine To.rdP rfl rfl rfl (Rd.move rfl rfl) (fun g53 => ?_) (fun g53 => ?_)
                ·
                  refine To.sk rfl rfl rfl ?_
                  refine To.sk rfl rfl rfl ?_
                  refine To.sk rfl rfl rfl ?_
                  refine To.sk rfl rfl rfl ?_
                  refine To.sk rfl rfl rfl ?_
                  refine To.rd rfl rfl rfl (Rd.pickT rfl rfl rfl) ?_
                  refine To.rd rfl rfl rfl (Rd.move rfl rfl) ?_
                  refine To.sk rfl rfl rfl ?_
                  refine To.sk rfl rfl rfl ?_
                  refine To.sk rfl rfl rfl ?_
                  refine To.sk rfl rfl rfl ?_
                  refine To.sk rfl rfl rfl ?_
                  refine To.sk rfl rfl rfl ?_
                  refine To.sk rfl rfl rfl ?_
                  refine To.rd rfl rfl rfl (Rd.pickT rfl rfl rfl) ?_
                  refine To.nil (To.thenN ?_)
                  refine To.only [1, 0, 0, 0] rfl ?_
                  refine To.here true (by first | (simp_all; done) | (simp_all; omega)) ⟨rfl, rfl, rfl, trivial⟩ rfl
                ·
                  refine To.rd rfl rfl rfl (Rd.field rfl rfl fl37_7) ?_
                  refine To.rd rfl rfl rfl (Rd.load (i := 1) rfl rfl c2 rfl (box_gives1 rfl)) ?_
                  refine To.rd rfl rfl rfl (Rd.field rfl rfl fl37_7) ?_
                  refine To.rd rfl rfl rfl (Rd.load (i := 0) rfl rfl c2 rfl (box_gives1 rfl)) ?_
                  refine To.rd rfl rfl rfl (Rd.neq rfl rfl rfl) ?_
                  refine To.rd rfl rfl rfl (Rd.pickF rfl rfl rfl) ?_
                  refine To.rdP rfl rfl rfl (Rd.move rfl rfl) (fun g60 => ?_) (fun g60 => ?_)
                  ·
                    refine To.sk rfl rfl rfl ?_
                    refine To.sk rfl rfl rfl ?_
                    refine To.sk rfl rfl rfl ?_
                    refine To.sk rfl rfl rfl ?_
                    refine To.sk rfl rfl rfl ?_
                    refine To.sk rfl rfl rfl ?_
                    refine To.sk rfl rfl rfl ?_
                    refine To.rd rfl rfl rfl (Rd.pickT rfl rfl rfl) ?_
                    refine To.nil (To.thenN ?_)
                    refine To.only [1, 0, 0, 0] rfl ?_
                    refine To.here true (by first | (simp_all; done) | (simp_all; omega)) ⟨rfl, rfl, rfl, trivial⟩ rfl
                  ·
                    refine To.rd rfl rfl rfl (Rd.field rfl rfl fl37_8) ?_
                    refine To.rd rfl rfl rfl (Rd.load (i := 1) rfl rfl c35 rfl (box_gives1 rfl)) ?_
                    refine To.rd rfl rfl rfl (Rd.len rfl rfl Try.underlying35) ?_
                    refine To.rd rfl rfl rfl (Rd.field rfl rfl fl37_8) ?_
                    refine To.rd rfl rfl rfl (Rd.load (i := 0) rfl rfl c35 rfl (box_gives1 rfl)) ?_
                    refine To.rd rfl rfl rfl (Rd.len rfl rfl Try.underlying35) ?_
                    refine To.rd rfl rfl rfl (Rd.neq rfl rfl rfl) ?_
                    refine To.rd rfl rfl rfl (Rd.pickF rfl rfl rfl) ?_
                    refine To.nil (To.thenN ?_)
                    refine To.only [1, 0, 0, 0] rfl ?_
                    refine To.here (decide (((x.args.length : Nat) : Int) ≠ ((y.args.length : Nat) : Int))) (by first | (simp_all; done) | (simp_all; omega)) ⟨rfl, rfl, rfl, trivial⟩ rfl
  show To _ [(2, .pointer (some ⟨b2, 0, none⟩)), (3, .pointer (some ⟨b3, 0, none⟩)), (68, .bool t)] [box b2 [.int .i64 x.t, .int .i64 x.c, .int .u8 x.k, .int .i64 x.p, .int .i64 x.n, .int .i64 x.cp, .int .i64 x.h, .int .i64 x.d, .slice x.A x.args.length x.cap] 37, box b3 [.int .i64 y.t, .int .i64 y.c, .int .u8 y.k, .int .i64 y.p, .int .i64 y.n, .int .i64 y.cp, .int .i64 y.h, .int .i64 y.d, .slice y.A y.args.length y.cap] 37, ros encI x.A x.args, ros encI y.A y.args] _
  refine To.cond rfl (fun c68 => ?_) (fun c68 => ?_)
  ·
    refine To.seq ?_
    refine To.reg ?_
    refine To.rd rfl rfl rfl (Rd.assign rfl rfl) ?_
    refine To.nil ?_
    refine To.thenN ?_
    refine To.ret ?_
    refine To.thenR ?_
    refine To.end1 (.inl rfl) Try.results18 rfl ?_
    rw [ht] at c68
    have hs : ¬ (x.t = y.t ∧ x.c = y.c ∧ x.k = y.k ∧ x.p = y.p ∧ x.n = y.n ∧ x.cp = y.cp ∧ x.h = y.h ∧ x.d = y.d ∧ x.args.length = y.args.length) := by
      intro hh; rw [decide_eq_true hh] at c68; cases c68
    have : x.val ≠ y.val := fun h => hs (by rw [val_eq] at h; simp [h])
    simp [Ev.same, this]
  ·
    rw [ht] at c68
    have hs : x.t = y.t ∧ x.c = y.c ∧ x.k = y.k ∧ x.p = y.p ∧ x.n = y.n ∧ x.cp = y.cp ∧ x.h = y.h ∧ x.d = y.d ∧ x.args.length = y.args.length := by simpa using c68
    obtain ⟨s1, s2, s3, s4, s5, s6, s7, s8, s9⟩ := hs
    clear ht c68
    refine To.skip ?_
    refine To.thenN ?_
    refine To.seq ?_
    refine To.seq ?_
    refine To.reg ?_
    refine To.rd rfl rfl rfl (Rd.field rfl rfl fl37_8) ?_
    refine To.rd rfl rfl rfl (Rd.load (i := 0) rfl rfl c35 rfl (box_gives1 rfl)) ?_
    refine To.rd rfl rfl rfl (Rd.len rfl rfl Try.underlying35) ?_
    refine To.rd rfl rfl rfl (Rd.move rfl rfl) ?_
    refine To.nil ?_
    refine To.thenN ?_
    refine To.block ?_
    refine To.sub [(2, .pointer (some ⟨b2, 0, none⟩)), (3, .pointer (some ⟨b3, 0, none⟩)), (71, .int .i64 ((x.args.length : Nat) : Int)), (72, .int .i64 ((0 : Nat) : Int))] ⟨rfl, rfl, rfl, rfl, trivial⟩ ?_
    refine To.only [0, 0, 0, 0] rfl ?_
    refine To.loop (fun mz ρ Γ => ∃ (i : Nat), ρ = [(2, .pointer (some ⟨b2, 0, none⟩)), (3, .pointer (some ⟨b3, 0, none⟩)), (71, .int .i64 ((x.args.length : Nat) : Int)), (72, .int .i64 ((i : Nat) : Int))] ∧ Γ = [box b2 x.cells 37, box b3 y.cells 37, ros encI x.A x.args, ros encI y.A y.args] ∧ mz = x.args.length - i ∧ (i ≤ x.args.length) ∧ (x.args.take i = y.args.take i)) (x.args.length - 0) ⟨0, rfl, rfl, rfl, (Nat.zero_le _), rfl⟩ ?_
    rintro mz _ _ ⟨i, rfl, rfl, rfl, hi, hI⟩
    refine To.seq ?_
    refine To.reg ?_
    refine To.rd rfl rfl rfl (Rd.lss rfl rfl rfl) ?_
    refine To.nil ?_
    refine To.thenN ?_
    refine To.seq ?_
    refine To.condP rfl (fun c73 => ?_) (fun c73 => ?_)
    ·
      obtain ⟨u, hx⟩ : ∃ z0, x.args[i]? = some z0 := ⟨x.args[i]'(by omega), List.getElem?_eq_getElem _⟩
      obtain ⟨v, hy⟩ : ∃ z0, y.args[i]? = some z0 := ⟨y.args[i]'(by omega), List.getElem?_eq_getElem _⟩
      refine To.skip ?_
      refine To.thenN ?_
      refine To.seq ?_
      refine To.block ?_
      refine To.seq ?_
      refine To.reg ?_
      refine To.rd rfl rfl rfl (Rd.move rfl rfl) ?_
      refine To.rd rfl rfl rfl (Rd.assign rfl rfl) ?_
      refine To.nil ?_
      refine To.thenN ?_
      refine To.seq ?_
      refine To.flow [box b2 x.cells 37, box b3 y.cells 37, ros encI x.A x.args, ros encI y.A y.args] [⟨0, [], 0⟩, ⟨2, [], 0⟩, ⟨5, [], 0⟩, ⟨7, [], 0⟩, ⟨1, [], 1⟩, ⟨3, [], 1⟩, ⟨4, [], 1⟩, ⟨6, [], 1⟩, ⟨8, [], 1⟩, ⟨9, [], 1⟩, ⟨10, [], 0⟩] mixed (by kernel_rfl) (oks_cons (oks_at 0 rfl) (oks_cons (oks_at 1 rfl) (oks_cons (oks_at 2 rfl) (oks_cons (oks_at 3 rfl) (oks_nil _))))) ?_
      refine FlowS.free rfl rfl rfl rfl (Rd.field rfl rfl fl37_8) ?_
      refine FlowS.free rfl rfl rfl rfl (Rd.move rfl rfl) ?_
      refine FlowS.free rfl rfl rfl rfl (Rd.field rfl rfl fl37_8) ?_
      refine FlowS.free rfl rfl rfl rfl (Rd.move rfl rfl) ?_
      refine FlowS.rd rfl rfl rfl rfl (Rd.load (i := 0) rfl rfl c35 rfl (box_gives1 rfl)) ?_
      refine FlowS.rd rfl rfl rfl rfl (Rd.indexRos encI_ok (i := 2) (j := i) rfl rfl rfl s35 rfl hx) ?_
      refine FlowS.rd rfl rfl rfl rfl (Rd.load (i := 2) rfl rfl c2 rfl (gives_1 (ros_gives encI_ok hx) rfl)) ?_
      refine FlowS.rd rfl rfl rfl rfl (Rd.load (i := 1) rfl rfl c35 rfl (box_gives1 rfl)) ?_
      refine FlowS.rd rfl rfl rfl rfl (Rd.indexRos encI_ok (i := 3) (j := i) rfl rfl rfl s35 rfl hy) ?_
      refine FlowS.rd rfl rfl rfl rfl (Rd.load (i := 3) rfl rfl c2 rfl (gives_1 (ros_gives encI_ok hy) rfl)) ?_
      refine FlowS.free rfl rfl rfl rfl (Rd.neq rfl rfl rfl) ?_
      refine FlowS.fin ?_
      refine To.as [box b2 x.cells 37, box b3 y.cells 37, ros encI x.A x.args, ros encI y.A y.args] rfl ?_
      refine To.thenN ?_
      refine To.condP rfl (fun c85 => ?_) (fun c85 => ?_)
      ·
        refine To.seq ?_
        refine To.reg ?_
        refine To.rd rfl rfl rfl (Rd.assign rfl rfl) ?_
        refine To.nil ?_
        refine To.thenN ?_
        refine To.ret ?_
        refine To.blockR ?_
        refine To.thenR ?_
        refine To.thenR ?_
        refine To.blockR ?_
        refine To.thenR ?_
        refine To.end1 (.inl rfl) Try.results18 rfl ?_
        rw [same_args (args_no hx hy (by simpa using c85))]
      ·
        refine To.skip ?_
        refine To.blockN ?_
        refine To.thenN ?_
        refine To.reg ?_
        refine To.rd rfl rfl rfl (Rd.inc rfl rfl rfl (by omega)) ?_
        refine To.rd rfl rfl rfl (Rd.move rfl rfl) ?_
        refine To.nil ?_
        refine To.thenN ?_
        refine To.sub [(2, .pointer (some ⟨b2, 0, none⟩)), (3, .pointer (some ⟨b3, 0, none⟩)), (71, .int .i64 ((x.args.length : Nat) : Int)), (72, .int .i64 (((i + 1) : Nat) : Int))] ⟨rfl, rfl, rfl, rfl, trivial⟩ ?_
        refine To.only [0, 0, 0, 0] rfl ?_
        refine To.again (x.args.length - (i + 1)) (by omega) ⟨i + 1, rfl, rfl, rfl, (by omega), (args_step hx hy hI (by simpa using c85))⟩
    ·
      refine To.exit ?_
      refine To.thenX ?_
      refine To.thenX ?_
      refine To.blockX ?_
      refine To.thenN ?_
      refine To.seq ?_
      refine To.reg ?_
      refine To.rd rfl rfl rfl (Rd.assign rfl rfl) ?_
      refine To.nil ?_
      refine To.thenN ?_
      refine To.ret ?_
      refine To.end1 (.inl rfl) Try.results18 rfl ?_
      obtain rfl : i = x.args.length := by omega
      rw [List.take_length, s9, List.take_length] at hI
      have : x.val = y.val := by rw [val_eq]; simp [*]
      simp [Ev.same, this]
theorem vals_step {l m : List Ev} {i : Nat} {x y : Ev} (hx : l[i]? = some x) (hy : m[i]? = some y) (h : (l.take i).map Ev.val = (m.take i).map Ev.val) (e : x.same y = true) : (l.take (i + 1)).map Ev.val = (m.take (i + 1)).map Ev.val := by
  rw [take_of_get hx, take_of_get hy, List.map_append, List.map_append, h]; simp [of_decide_eq_true e]
theorem vals_no {l m : List Ev} {i : Nat} {x y : Ev} (hx : l[i]? = some x) (hy : m[i]? = some y) (e : x.same y = false) : l.map Ev.val ≠ m.map Ev.val := fun h => by
  have h1 : (l.map Ev.val)[i]? = (m.map Ev.val)[i]? := by rw [h]
  simp [hx, hy] at h1
  exact of_decide_eq_false e h1
set_option maxHeartbeats 2000000 in
set_option maxRecDepth 100000 in
theorem sames_fn (Al Am : Option Addr) (cl cm : Nat) (l m : List Ev) (hl : ∀ e ∈ l, e.args.length ≤ 1000000000000) (hl2 : l.length ≤ 1000000000000) :
    Does Try.prog 25 [.slice Al l.length cl, .slice Am m.length cm] [ros Ev.cells Al l, ros Ev.cells Am m, argsS (l.map Ev.ar), argsS (m.map Ev.ar)] (fun v _ => v = .bool (decide (l.map Ev.val = m.map Ev.val))) := by
  refine Does.enter Try.func25 rfl Try.ntmps25 rfl (fun w0 => ?_)
  refine To.seq ?_
  refine To.reg ?_
  refine To.rd rfl rfl rfl (Rd.assign rfl rfl) ?_
  refine To.nil ?_
  refine To.thenN ?_
  refine To.seq ?_
  refine To.seq ?_
  refine To.reg ?_
  refine To.rd rfl rfl rfl (Rd.move rfl rfl) ?_
  refine To.rd rfl rfl rfl (Rd.len rfl rfl Try.underlying22) ?_
  refine To.rd rfl rfl rfl (Rd.move rfl rfl) ?_
  refine To.rd rfl rfl rfl (Rd.len rfl rfl Try.underlying22) ?_
  refine To.rd rfl rfl rfl (Rd.neq rfl rfl rfl) ?_
  refine To.nil ?_
  refine To.thenN ?_
  refine To.condP rfl (fun c10 => ?_) (fun c10 => ?_)
  ·
    refine To.seq ?_
    refine To.reg ?_
    refine To.rd rfl rfl rfl (Rd.assign rfl rfl) ?_
    refine To.nil ?_
    refine To.thenN ?_
    refine To.ret ?_
    refine To.thenR ?_
    refine To.end1 (.inl rfl) Try.results25 rfl ?_
    have : l.map Ev.val ≠ m.map Ev.val := fun h => by have := congrArg List.length h; simp at this; omega
    simp [this]
  ·
    have hlen : l.length = m.length := by omega
    refine To.skip ?_
    refine To.thenN ?_
    refine To.seq ?_
    refine To.seq ?_
    refine To.reg ?_
    refine To.rd rfl rfl rfl (Rd.move rfl rfl) ?_
    refine To.rd rfl rfl rfl (Rd.len rfl rfl Try.underlying22) ?_
    refine To.rd rfl rfl rfl (Rd.move rfl rfl) ?_
    refine To.nil ?_
    refine To.thenN ?_
    refine To.block ?_
    refine To.sub [(0, .slice Al l.length cl), (1, .slice Am m.length cm), (12, .int .i64 ((l.length : Nat) : Int)), (13, .int .i64 ((0 : Nat) : Int))] ⟨rfl, rfl, rfl, rfl, trivial⟩ ?_
    refine To.only [0, 0, 0, 0] rfl ?_
    refine To.loop (fun mz ρ Γ => ∃ (i : Nat), ρ = [(0, .slice Al l.length cl), (1, .slice Am m.length cm), (12, .int .i64 ((l.length : Nat) : Int)), (13, .int .i64 ((i : Nat) : Int))] ∧ Γ = [ros Ev.cells Al l, ros Ev.cells Am m, argsS (l.map Ev.ar), argsS (m.map Ev.ar)] ∧ mz = l.length - i ∧ (i ≤ l.length) ∧ ((l.take i).map Ev.val = (m.take i).map Ev.val)) (l.length - 0) ⟨0, rfl, rfl, rfl, (Nat.zero_le _), rfl⟩ ?_
    rintro mz _ _ ⟨i, rfl, rfl, rfl, hi, hI⟩
    refine To.seq ?_
    refine To.reg ?_
    refine To.rd rfl rfl rfl (Rd.lss rfl rfl rfl) ?_
    refine To.nil ?_
    refine To.thenN ?_
    refine To.seq ?_
    refine To.condP rfl (fun c14 => ?_) (fun c14 => ?_)
    ·
      obtain ⟨x, hx⟩ : ∃ z0, l[i]? = some z0 := ⟨l[i]'(by omega), List.getElem?_eq_getElem _⟩
      obtain ⟨y, hy⟩ : ∃ z0, m[i]? = some z0 := ⟨m[i]'(by omega), List.getElem?_eq_getElem _⟩
      refine To.skip ?_
      refine To.thenN ?_
      refine To.seq ?_
      refine To.block ?_
      refine To.seq ?_
      refine To.reg ?_
      refine To.rd rfl rfl rfl (Rd.move rfl rfl) ?_
      refine To.rd rfl rfl rfl (Rd.assign rfl rfl) ?_
      refine To.nil ?_
      refine To.thenN ?_
      refine To.seq ?_
      refine To.flow [ros Ev.cells Al l, ros Ev.cells Am m, argsS (l.map Ev.ar), argsS (m.map Ev.ar)] [⟨0, [], 0⟩, ⟨1, [], 0⟩, ⟨4, [], 0⟩, ⟨5, [], 0⟩, ⟨2, [], 1⟩, ⟨3, [], 1⟩, ⟨6, [], 1⟩, ⟨7, [], 1⟩, ⟨8, [], 3⟩, ⟨9, [], 0⟩] mixed (by kernel_rfl) (oks_cons (oks_at 0 rfl) (oks_cons (oks_at 1 rfl) (oks_cons (oks_at 2 rfl) (oks_cons (oks_at 3 rfl) (oks_nil _))))) ?_
      refine FlowS.free rfl rfl rfl rfl (Rd.move rfl rfl) ?_
      refine FlowS.free rfl rfl rfl rfl (Rd.move rfl rfl) ?_
      refine FlowS.free rfl rfl rfl rfl (Rd.move rfl rfl) ?_
      refine FlowS.free rfl rfl rfl rfl (Rd.move rfl rfl) ?_
      refine FlowS.rd rfl rfl rfl rfl (Rd.indexRos encE (i := 0) (j := i) rfl rfl rfl s22 rfl hx) ?_
      refine FlowS.rd rfl rfl rfl rfl (Rd.loadS (i := 0) rfl rfl r37 rfl (ros_gives encE hx) (encE.len _)) ?_
      refine FlowS.rd rfl rfl rfl rfl (Rd.indexRos encE (i := 1) (j := i) rfl rfl rfl s22 rfl hy) ?_
      refine FlowS.rd rfl rfl rfl rfl (Rd.loadS (i := 1) rfl rfl r37 rfl (ros_gives encE hy) (encE.len _)) ?_
      refine FlowS.callQ rfl rfl rfl rfl (Ent.fn rfl rfl ca18) (same_fn x y (hl x (List.mem_of_getElem? hx))) rfl (oks_cons (oks_S 2 rfl (mem_at hx Ev.ar)) (oks_cons (oks_S 3 rfl (mem_at hy Ev.ar)) (oks_nil _))) ?_
      refine FlowS.free rfl rfl rfl rfl (Rd.not rfl rfl) ?_
      refine FlowS.fin ?_
      refine To.as [ros Ev.cells Al l, ros Ev.cells Am m, argsS (l.map Ev.ar), argsS (m.map Ev.ar)] rfl ?_
      refine To.thenN ?_
      refine To.cond rfl (fun c25 => ?_) (fun c25 => ?_)
      ·
        refine To.seq ?_
        refine To.reg ?_
        refine To.rd rfl rfl rfl (Rd.assign rfl rfl) ?_
        refine To.nil ?_
        refine To.thenN ?_
        refine To.ret ?_
        refine To.blockR ?_
        refine To.thenR ?_
        refine To.thenR ?_
        refine To.blockR ?_
        refine To.thenR ?_
        refine To.end1 (.inl rfl) Try.results25 rfl ?_
        simp [vals_no hx hy (by simpa using c25)]
      ·
        refine To.skip ?_
        refine To.blockN ?_
        refine To.thenN ?_
        refine To.reg ?_
        refine To.rd rfl rfl rfl (Rd.inc rfl rfl rfl (by omega)) ?_
        refine To.rd rfl rfl rfl (Rd.move rfl rfl) ?_
        refine To.nil ?_
        refine To.thenN ?_
        refine To.sub [(0, .slice Al l.length cl), (1, .slice Am m.length cm), (12, .int .i64 ((l.length : Nat) : Int)), (13, .int .i64 (((i + 1) : Nat) : Int))] ⟨rfl, rfl, rfl, rfl, trivial⟩ ?_
        refine To.only [0, 0, 0, 0] rfl ?_
        refine To.again (l.length - (i + 1)) (by omega) ⟨i + 1, rfl, rfl, rfl, (by omega), (vals_step hx hy hI (by simpa using c25))⟩
    ·
      refine To.exit ?_
      refine To.thenX ?_
      refine To.thenX ?_
      refine To.blockX ?_
      refine To.thenN ?_
      refine To.seq ?_
      refine To.reg ?_
      refine To.rd rfl rfl rfl (Rd.assign rfl rfl) ?_
      refine To.nil ?_
      refine To.thenN ?_
      refine To.ret ?_
      refine To.end1 (.inl rfl) Try.results25 rfl ?_
      obtain rfl : i = l.length := by omega
      rw [List.take_length, hlen, List.take_length] at hI
      simp [hI]
end Go.Proofs.Ytneimfacccgaeaa
