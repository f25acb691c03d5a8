/- Tables looked up. Own text (walks printed by sx.py). -/
import Derived.Test.YtoehnbacbobhiaaGreatDoorL1
import Derived.Test.YtoehnbacbobhiaaGreatDoorX23
set_option linter.unusedVariables false
set_option linter.unusedSimpArgs false
namespace Go.Proofs.YtoehnbacbobhiaaGreatDoor
open Go.RowKit Go.Flow Go.Mem Go.Sep
set_option maxHeartbeats 2000000 in
set_option maxRecDepth 100000 in
theorem tfc_fn (x : Int × Int) (k : Int) :
    Does Tryz.prog 102 [.agg (encEn x).toArray, .int .i64 k] [] (fun v _ => v = .int .i64 (cmpI x.1 k)) := by
  refine Does.enter Tryz.func102 rfl Tryz.ntmps102 rfl (fun w0 => ?_)
  refine To.seq (To.reg ?_)
  refine To.boxed rfl rfl rfl rfl rfl rfl (fun b2 => ?_)
  refine To.a (To.nil (To.thenN (To.seq (To.reg ?_))))
  refine To.f fl110_0 ?_
  refine To.lo 0 c2 ?_
  refine To.m ?_
  refine To.callV rfl rfl rfl (Ent.fn rfl rfl ca30) (cmp30 x.1 k) rfl (oks_nil _) ?_
  refine To.a (To.nil (To.thenN (To.ret ?_)))
  refine To.end1 (.inl rfl) Tryz.results102 rfl ?_
  rfl
set_option maxHeartbeats 2000000 in
set_option maxRecDepth 100000 in
theorem bsf_fn (A : Option Addr) (ca : Nat) (l : List (Int × Int)) (k : Int) (hl : l.length ≤ 1000000) (ha : Asc l) :
    Does Tryz.prog 101 [.slice A l.length ca, .int .i64 k, .func (.func 102) #[] #[]] [ros encEn A l] (fun v _ => v = .tuple #[.int .i64 ((lowN l k : Nat) : Int), .bool (getT l k).isSome]) := by
  refine Does.enter Tryz.func101 rfl Tryz.ntmps101 rfl (fun w0 => ?_)
  refine To.seq (To.reg (To.a ?_))
  refine To.a (To.nil (To.thenN (To.seq (To.reg ?_))))
  refine To.m ?_
  refine To.r (Rd.len rfl rfl Tryz.underlying38) ?_
  refine To.a (To.nil (To.thenN (To.seq (To.reg ?_))))
  refine To.m ?_
  refine To.a ?_
  refine To.a (To.nil (To.thenN (To.seq (To.block ?_))))
  refine To.sub [(0, .slice A l.length ca), (1, .int .i64 k), (2, .func (.func 102) #[] #[]), (8, .int .i64 ((l.length : Nat) : Int)), (9, .int .i64 ((0 : Nat) : Int)), (10, .int .i64 ((l.length : Nat) : Int))] ⟨rfl, rfl, rfl, rfl, rfl, rfl, trivial⟩ ?_
  refine To.only [0] rfl ?_
  refine To.loop (fun mz ρ Γ => ∃ (i : Nat) (j : Nat), ρ = [(0, .slice A l.length ca), (1, .int .i64 k), (2, .func (.func 102) #[] #[]), (8, .int .i64 ((l.length : Nat) : Int)), (9, .int .i64 ((i : Nat) : Int)), (10, .int .i64 ((j : Nat) : Int))] ∧ Γ = [ros encEn A l] ∧ mz = j - i ∧ (i ≤ lowN l k ∧ lowN l k ≤ j ∧ j ≤ l.length)) (l.length - 0) ⟨0, l.length, rfl, rfl, rfl, ⟨Nat.zero_le _, low_le _ _, Nat.le_refl _⟩⟩ ?_
  rintro mz _ _ ⟨i, j, rfl, rfl, rfl, hij⟩
  refine To.seq (To.seq (To.reg (To.m ?_)))
  refine To.m ?_
  refine To.r (Rd.lss rfl rfl rfl) ?_
  refine To.nil (To.thenN ?_)
  refine To.condP rfl (fun c17 => ?_) (fun c17 => ?_)
  ·
   refine To.skip (To.thenN (To.block (To.seq (To.reg (To.m ?_)))))
   refine To.m ?_
   refine To.r (Rd.addN (a := i) (b := j) rfl rfl rfl (by omega)) ?_
   refine To.r (Rd.conv rfl rfl Tryz.underlying3 Tryz.underlying117 (wrapU (by first | omega | (simp only [List.length_append, List.length_cons, List.length_nil]; omega)))) ?_
   refine To.r (Rd.shrK (a := (i + j)) (j := 1) rfl rfl rfl (by simp only [IntKind.bits]; omega)) ?_
   refine To.r (Rd.conv rfl rfl Tryz.underlying117 Tryz.underlying3 (IntWalk.i64_in _ (by omega))) ?_
   refine To.a (To.nil (To.thenN (To.seq ?_)))
   have hm1 : i ≤ (i + j) / 2 ^ 1 ∧ (i + j) / 2 ^ 1 < j := by omega
   obtain ⟨x, hx⟩ : ∃ z0, l[((i + j) / 2 ^ 1)]? = some z0 := ⟨l[((i + j) / 2 ^ 1)]'(by omega), List.getElem?_eq_getElem _⟩
   have hcm : cmpI x.1 k < 0 ↔ (i + j) / 2 ^ 1 < lowN l k := cmpI_neg.trans (low_iff ha hx)
   refine To.reg (To.m ?_)
   refine To.m ?_
   refine To.m ?_
   refine To.r (Rd.indexRos encEn_ok (i := 0) (j := ((i + j) / 2 ^ 1)) rfl rfl rfl s38 rfl hx) ?_
   refine To.r (Rd.loadS (i := 0) rfl rfl r110 rfl (ros_gives encEn_ok hx) (encEn_ok.len _)) ?_
   refine To.m ?_
   refine To.callV rfl rfl rfl (Ent.func (first := []) (captured := []) rfl rfl rfl ca102) (tfc_fn x k) rfl (oks_nil _) ?_
   refine To.r (Rd.lss rfl rfl rfl) ?_
   refine To.nil (To.thenN ?_)
   refine To.condP rfl (fun c31 => ?_) (fun c31 => ?_)
   ·
    refine To.reg (To.m ?_)
    refine To.r (Rd.inc rfl rfl rfl (by omega)) ?_
    refine To.a (To.nil (To.blockN (To.thenN ?_)))
    refine To.sub [(0, .slice A l.length ca), (1, .int .i64 k), (2, .func (.func 102) #[] #[]), (8, .int .i64 ((l.length : Nat) : Int)), (9, .int .i64 (((((i + j) / 2 ^ 1) + 1) : Nat) : Int)), (10, .int .i64 ((j : Nat) : Int))] ⟨rfl, rfl, rfl, rfl, rfl, rfl, trivial⟩ ?_
    refine To.only [0] rfl ?_
    refine To.again (j - (((i + j) / 2 ^ 1) + 1)) (by omega) ⟨((i + j) / 2 ^ 1) + 1, j, rfl, rfl, rfl, (by omega)⟩
   refine To.reg (To.m ?_)
   refine To.a (To.nil (To.blockN (To.thenN ?_)))
   refine To.sub [(0, .slice A l.length ca), (1, .int .i64 k), (2, .func (.func 102) #[] #[]), (8, .int .i64 ((l.length : Nat) : Int)), (9, .int .i64 ((i : Nat) : Int)), (10, .int .i64 ((((i + j) / 2 ^ 1) : Nat) : Int))] ⟨rfl, rfl, rfl, rfl, rfl, rfl, trivial⟩ ?_
   refine To.only [0] rfl ?_
   refine To.again (((i + j) / 2 ^ 1) - i) (by omega) ⟨i, ((i + j) / 2 ^ 1), rfl, rfl, rfl, (by omega)⟩
  refine To.exit (To.thenX (To.thenX (To.blockX (To.thenN (To.seq ?_)))))
  obtain rfl : i = lowN l k := by omega
  refine To.sub [(0, .slice A l.length ca), (1, .int .i64 k), (2, .func (.func 102) #[] #[]), (8, .int .i64 ((l.length : Nat) : Int)), (9, .int .i64 (((lowN l k) : Nat) : Int))] ⟨rfl, rfl, rfl, rfl, rfl, trivial⟩ ?_
  refine To.reg (To.m ?_)
  refine To.m ?_
  refine To.m ?_
  refine To.r (Rd.lss rfl rfl rfl) ?_
  refine To.rdP rfl rfl rfl (Rd.move rfl rfl) (fun g39 => ?_) (fun g39 => ?_)
  ·
   obtain ⟨x, hx⟩ : ∃ z0, l[(lowN l k)]? = some z0 := ⟨l[(lowN l k)]'(by omega), List.getElem?_eq_getElem _⟩
   refine To.m ?_
   refine To.m ?_
   refine To.m ?_
   refine To.r (Rd.indexRos encEn_ok (i := 0) (j := (lowN l k)) rfl rfl rfl s38 rfl hx) ?_
   refine To.r (Rd.loadS (i := 0) rfl rfl r110 rfl (ros_gives encEn_ok hx) (encEn_ok.len _)) ?_
   refine To.m ?_
   refine To.callV rfl rfl rfl (Ent.func (first := []) (captured := []) rfl rfl rfl ca102) (tfc_fn x k) rfl (oks_nil _) ?_
   refine To.r (Rd.eql rfl rfl rfl) ?_
   refine To.r (Rd.pickT rfl rfl rfl) ?_
   refine To.a ?_
   refine To.a (To.nil (To.thenN (To.ret ?_)))
   refine To.end2 (.inl rfl) Tryz.results101 rfl rfl ?_
   show Value.tuple #[_, _] = Value.tuple #[_, _]
   rw [get_at ha hx]
   by_cases hk : x.1 = k
   · have hc0 : cmpI x.1 k = 0 := cmpI_zero.2 hk
     rw [if_pos hk, hc0]; rfl
   · simp [hk, mt cmpI_zero.1 hk]
  refine To.k ?_
  refine To.k ?_
  refine To.k ?_
  refine To.k ?_
  refine To.k ?_
  refine To.k ?_
  refine To.k ?_
  refine To.k ?_
  refine To.r (Rd.pickF rfl rfl rfl) ?_
  refine To.a ?_
  refine To.a (To.nil (To.thenN (To.ret ?_)))
  refine To.end2 (.inl rfl) Tryz.results101 rfl rfl ?_
  show Value.tuple #[_, _] = Value.tuple #[_, _]
  rw [get_end ha (by omega)]; rfl
set_option maxHeartbeats 2000000 in
set_option maxRecDepth 100000 in
theorem find_fn (A : Option Addr) (ca : Nat) (l : List (Int × Int)) (k : Int) (hl : l.length ≤ 1000000) (ha : Asc l) :
    Does Tryz.prog 97 [.agg #[.slice A l.length ca], .int .i64 k] [ros encEn A l] (fun v _ => v = .tuple #[.int .i64 ((lowN l k : Nat) : Int), .bool (getT l k).isSome]) := by
  refine Does.enter Tryz.func97 rfl Tryz.ntmps97 rfl (fun w0 => ?_)
  refine To.seq (To.reg ?_)
  refine To.boxed rfl rfl rfl rfl rfl rfl (fun b2 => ?_)
  refine To.a ?_
  refine To.a (To.nil (To.thenN (To.seq (To.reg ?_))))
  refine To.f fl40_0 ?_
  refine To.lo 0 c38 ?_
  refine To.m ?_
  refine To.callV rfl rfl rfl (Ent.fn rfl rfl ca101) (bsf_fn A ca l k hl ha) rfl (oks_cons (oks_at 1 rfl) (oks_nil _)) ?_
  refine To.r (Rd.extract rfl rfl rfl) ?_
  refine To.r (Rd.extract rfl rfl rfl) ?_
  refine To.a ?_
  refine To.a (To.nil (To.thenN (To.ret ?_)))
  refine To.end2 (.inl rfl) Tryz.results97 rfl rfl ?_
  rfl
set_option maxHeartbeats 2000000 in
set_option maxRecDepth 100000 in
theorem tget_fn (A : Option Addr) (ca : Nat) (l : List (Int × Int)) (k : Int) (hl : l.length ≤ 1000000) (ha : Asc l) :
    Does Tryz.prog 87 [.agg #[.slice A l.length ca], .int .i64 k] [ros encEn A l] (fun v _ => v = .tuple #[.int .i64 ((getT l k).getD 0), .bool (getT l k).isSome]) := by
  refine Does.enter Tryz.func87 rfl Tryz.ntmps87 rfl (fun w0 => ?_)
  refine To.seq (To.reg ?_)
  refine To.boxed rfl rfl rfl rfl rfl rfl (fun b2 => ?_)
  refine To.a ?_
  refine To.a (To.nil (To.thenN (To.seq (To.reg ?_))))
  refine To.r (Rd.loadS (i := 0) rfl rfl r40 rfl box_whole rfl) ?_
  refine To.m ?_
  refine To.callV rfl rfl rfl (Ent.fn rfl rfl ca97) (find_fn A ca l k hl ha) rfl (oks_cons (oks_at 1 rfl) (oks_nil _)) ?_
  refine To.m ?_
  refine To.r (Rd.extract rfl rfl rfl) ?_
  refine To.r (Rd.extract rfl rfl rfl) ?_
  refine To.a ?_
  refine To.a (To.nil (To.thenN (To.seq (To.seq (To.reg ?_)))))
  refine To.m ?_
  refine To.r (Rd.not rfl rfl) ?_
  refine To.nil (To.thenN ?_)
  refine To.cond rfl (fun c15 => ?_) (fun c15 => ?_)
  ·
   refine To.seq (To.reg (To.a ?_))
   refine To.a (To.nil (To.thenN (To.ret (To.thenR ?_))))
   refine To.end2 (.inl rfl) Tryz.results87 rfl rfl ?_
   have hn : getT l k = none := by rw [← Option.not_isSome_iff_eq_none]; simpa using c15
   show Value.tuple #[_, _] = Value.tuple #[_, _]
   rw [hn]; rfl
  refine To.skip (To.thenN (To.seq ?_))
  have his : (getT l k).isSome = true := by simpa using c15
  obtain ⟨y, hy, hyk, hg⟩ := get_is ha his
  refine To.reg ?_
  refine To.f fl40_0 ?_
  refine To.lo 0 c38 ?_
  refine To.m ?_
  refine To.r (Rd.indexRos encEn_ok (i := 1) (j := (lowN l k)) rfl rfl rfl s38 rfl hy) ?_
  refine To.f fl110_1 ?_
  refine To.r (Rd.load (i := 1) rfl rfl c2 rfl (gives_at (ros_gives encEn_ok hy) rfl)) ?_
  refine To.a ?_
  refine To.a (To.nil (To.thenN (To.ret ?_)))
  refine To.end2 (.inl rfl) Tryz.results87 rfl rfl ?_
  show Value.tuple #[_, _] = Value.tuple #[_, _]
  rw [hg]; rfl
set_option maxHeartbeats 2000000 in
set_option maxRecDepth 100000 in
theorem tlen_fn (A : Option Addr) (n ca : Nat) :
    Does Tryz.prog 88 [.agg #[.slice A n ca]] [] (fun v _ => v = .int .i64 ((n : Nat) : Int)) := by
  refine Does.enter Tryz.func88 rfl Tryz.ntmps88 rfl (fun w0 => ?_)
  refine To.seq (To.reg ?_)
  refine To.boxed rfl rfl rfl rfl rfl rfl (fun b1 => ?_)
  refine To.a (To.nil (To.thenN (To.seq (To.reg ?_))))
  refine To.f fl40_0 ?_
  refine To.lo 0 c38 ?_
  refine To.r (Rd.len rfl rfl Tryz.underlying38) ?_
  refine To.a (To.nil (To.thenN (To.ret ?_)))
  refine To.end1 (.inl rfl) Tryz.results88 rfl ?_
  rfl
end Go.Proofs.YtoehnbacbobhiaaGreatDoor
