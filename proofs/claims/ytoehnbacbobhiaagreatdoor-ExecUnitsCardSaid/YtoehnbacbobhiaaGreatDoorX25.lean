/- Tables changed: Grow, Concat, Put, Delete. Own text (walks printed by sx.py). -/
import Derived.Test.YtoehnbacbobhiaaGreatDoorL1
import Derived.Test.YtoehnbacbobhiaaGreatDoorX24
set_option linter.unusedVariables false
set_option linter.unusedSimpArgs false
namespace Go.Proofs.YtoehnbacbobhiaaGreatDoor
open Go.RowKit Go.Flow Go.Mem Go.Sep
set_option maxHeartbeats 2000000 in
set_option maxRecDepth 100000 in
theorem growE_fn (n : Nat) (hn : n ≤ 1000000) :
    Does Tryz.prog 103 [.slice none 0 0, .int .i64 ((n : Nat) : Int)] [] (fun v Γ' => ∃ A q, v = .slice A 0 q ∧ n ≤ q ∧ Γ' = [rows encEn 110 2 A q []]) := by
  refine Does.enter Tryz.func103 rfl Tryz.ntmps103 rfl (fun w0 => ?_)
  refine To.seq (To.reg (To.a (To.nil (To.thenN (To.seq (To.seq (To.reg ?_)))))))
  refine To.m ?_
  refine To.r (Rd.lss rfl rfl rfl) ?_
  refine To.nil (To.thenN ?_)
  refine To.condP rfl (fun c6 => ?_) (fun c6 => ?_)
  ·
   exfalso; omega
  refine To.skip (To.thenN (To.seq (To.seq (To.reg (To.m ?_)))))
  refine To.m ?_
  refine To.r (Rd.cap rfl Tryz.underlying38 rfl) ?_
  refine To.m ?_
  refine To.r (Rd.len rfl rfl Tryz.underlying38) ?_
  refine To.r (Rd.as (v' := .int .i64 (0)) rfl (Rd.sub64 (m := 0) (n := 0) rfl rfl rfl (by decide))) ?_
  refine To.r (Rd.as (v' := .int .i64 ((n : Nat) : Int)) (congrArg (Value.int .i64) (by omega)) (Rd.sub64 rfl rfl rfl (by omega))) ?_
  refine To.a (To.nil (To.thenN (To.seq (To.reg ?_))))
  refine To.m ?_
  refine To.r (Rd.gtr rfl rfl rfl) ?_
  refine To.nil (To.thenN ?_)
  refine To.condP rfl (fun c16 => ?_) (fun c16 => ?_)
  ·
   refine To.reg (To.m ?_)
   refine To.m ?_
   refine To.r (Rd.cap rfl Tryz.underlying38 rfl) ?_
   refine To.r (Rd.sliceHi (hi := 0) rfl s38 rfl rfl (by omega)) ?_
   refine To.m ?_
   refine To.mk rfl rfl rfl (Mk.appendZeros (enc := encEn) (n := n) rfl s38 Tryz.underlying3 rfl rfl (by omega) (by omega) (by omega)) ?_
   rintro _ _ ⟨A22, q22, ⟨rfl, hq22⟩, rfl⟩
   refine To.m ?_
   refine To.r (Rd.len rfl rfl Tryz.underlying38) ?_
   refine To.r (Rd.sliceHi (hi := 0) rfl s38 rfl rfl (by omega)) ?_
   refine To.a (To.nil (To.thenN (To.seq (To.reg ?_))))
   refine To.m ?_
   refine To.a (To.nil (To.thenN (To.ret ?_)))
   refine To.only [0] rfl ?_
   refine To.end1 (.inl rfl) Tryz.results103 rfl ?_
   exact ⟨_, _, rfl, by omega, rfl⟩
  refine To.skip (To.thenN (To.seq (To.reg (To.m ?_))))
  refine To.a (To.nil (To.thenN (To.ret ?_)))
  obtain rfl : n = 0 := by omega
  refine To.nilRow (encEn) 110 2 ?_
  refine To.only [0] rfl ?_
  refine To.end1 (.inl rfl) Tryz.results103 rfl ?_
  exact ⟨_, _, rfl, by omega, rfl⟩
def cat (l : List Tb) : List (Int × Int) := l.flatMap Tb.l
theorem cat_succ {l : List Tb} {i : Nat} {x : Tb} (hx : l[i]? = some x) : cat (l.take (i + 1)) = cat (l.take i) ++ x.l := by rw [take_of_get hx]; simp [cat]
theorem cat_le (l : List Tb) (i : Nat) : (cat (l.take i)).length ≤ (cat l).length := by
  have e : cat l = cat (l.take i) ++ cat (l.drop i) := by rw [cat, cat, cat, ← List.flatMap_append, List.take_append_drop]
  rw [e, List.length_append]; omega
set_option maxHeartbeats 2000000 in
set_option maxRecDepth 100000 in
theorem concat_fn (As : Option Addr) (cp : Nat) (ps : List Tb) (hpl : ps.length ≤ 1000000) (hcl0 : (cat ps).length ≤ 1000000) :
    Does Tryz.prog 98 [.slice As ps.length cp] [ros Tb.cells As ps, rosS encEn (ps.map Tb.ar)] (fun v Γ' => ∃ B q, v = .slice B (cat ps).length q ∧ Γ' = [rows encEn 110 2 B q (cat ps)]) := by
  refine Does.enter Tryz.func98 rfl Tryz.ntmps98 rfl (fun w0 => ?_)
  refine To.seq (To.reg (To.a (To.nil (To.thenN (To.seq (To.reg ?_))))))
  refine To.a (To.nil (To.thenN (To.seq (To.seq (To.reg ?_)))))
  refine To.m ?_
  refine To.r (Rd.len rfl rfl Tryz.underlying185) ?_
  refine To.m (To.nil (To.thenN (To.block ?_)))
  refine To.sub [(0, .slice As ps.length cp), (3, .int .i64 ((0 : Nat) : Int)), (9, .slice As ps.length cp), (10, .int .i64 ((ps.length : Nat) : Int)), (11, .int .i64 ((0 : Nat) : Int))] ⟨rfl, rfl, rfl, rfl, rfl, trivial⟩ ?_
  refine To.only [0, 0] rfl ?_
  refine To.loop (fun mz ρ Γ => ∃ (i : Nat) (n : Nat), ρ = [(0, .slice As ps.length cp), (3, .int .i64 ((n : Nat) : Int)), (9, .slice As ps.length cp), (10, .int .i64 ((ps.length : Nat) : Int)), (11, .int .i64 ((i : Nat) : Int))] ∧ Γ = [ros Tb.cells As ps, rosS encEn (ps.map Tb.ar)] ∧ mz = ps.length - i ∧ (i ≤ ps.length) ∧ (n = (cat (ps.take i)).length)) (ps.length - 0) ⟨0, 0, rfl, rfl, rfl, (Nat.zero_le _), rfl⟩ ?_
  rintro mz _ _ ⟨i, n, rfl, rfl, rfl, hi, hn⟩
  refine To.seq (To.reg ?_)
  refine To.r (Rd.lss rfl rfl rfl) ?_
  refine To.nil (To.thenN (To.seq ?_))
  refine To.condP rfl (fun c12 => ?_) (fun c12 => ?_)
  ·
   obtain ⟨y, hy⟩ : ∃ z0, ps[i]? = some z0 := ⟨ps[i]'(by omega), List.getElem?_eq_getElem _⟩
   refine To.skip (To.thenN (To.seq (To.block (To.seq (To.reg ?_)))))
   refine To.r (Rd.indexRos encTb (i := 0) (j := i) rfl rfl rfl s185 rfl hy) ?_
   refine To.r (Rd.load (i := 0) rfl rfl c38 rfl (gives_1 (ros_gives encTb hy) rfl)) ?_
   refine To.a (To.nil (To.thenN (To.seq ?_)))
   have hcs := cat_succ hy
   have hcl := cat_le ps (i + 1)
   have hcl2 : (cat (ps.take (i + 1))).length = (cat (ps.take i)).length + y.l.length := by rw [hcs, List.length_append]
   refine To.reg (To.m ?_)
   refine To.m ?_
   refine To.r (Rd.len rfl rfl Tryz.underlying38) ?_
   refine To.r (Rd.addN (a := n) (b := y.l.length) rfl rfl rfl (by omega)) ?_
   refine To.a (To.nil (To.thenN (To.seq (To.reg ?_))))
   refine To.m ?_
   refine To.r (Rd.lss rfl rfl rfl) ?_
   refine To.nil (To.thenN ?_)
   refine To.condP rfl (fun c20 => ?_) (fun c20 => ?_)
   ·
    exfalso; omega
   refine To.skip (To.blockN (To.thenN (To.reg ?_)))
   refine To.r (Rd.inc rfl rfl rfl (by omega)) ?_
   refine To.m (To.nil (To.thenN ?_))
   refine To.sub [(0, .slice As ps.length cp), (3, .int .i64 (((n + y.l.length) : Nat) : Int)), (9, .slice As ps.length cp), (10, .int .i64 ((ps.length : Nat) : Int)), (11, .int .i64 (((i + 1) : Nat) : Int))] ⟨rfl, rfl, rfl, rfl, rfl, trivial⟩ ?_
   refine To.only [0, 0] rfl ?_
   refine To.again (ps.length - (i + 1)) (by omega) ⟨i + 1, (n + y.l.length), rfl, rfl, rfl, (by omega), (by omega)⟩
  refine To.exit (To.thenX (To.thenX (To.blockX (To.thenN (To.seq ?_)))))
  obtain rfl : n = (cat ps).length := by rw [hn, List.take_of_length_le (by omega)]
  refine To.sub [(0, .slice As ps.length cp), (3, .int .i64 (((cat ps).length : Nat) : Int))] ⟨rfl, rfl, trivial⟩ ?_
  refine To.reg (To.m ?_)
  refine To.callQ rfl rfl rfl (Ent.fn rfl rfl ca103) (growE_fn (cat ps).length (by omega)) rfl (oks_nil _) ?_
  rintro _ _ ⟨Ag, qg, rfl, hqg, rfl⟩
  refine ⟨rfl, ?_⟩
  refine To.a (To.nil (To.thenN (To.seq (To.seq (To.reg ?_)))))
  refine To.m ?_
  refine To.r (Rd.len rfl rfl Tryz.underlying185) ?_
  refine To.m (To.nil (To.thenN (To.block ?_)))
  refine To.sub [(6, .slice Ag ([] : List (Int × Int)).length qg), (25, .slice As ps.length cp), (26, .int .i64 ((ps.length : Nat) : Int)), (27, .int .i64 ((0 : Nat) : Int))] ⟨rfl, rfl, rfl, rfl, trivial⟩ ?_
  refine To.only [1, 1, 0] rfl ?_
  refine To.loop (fun mz ρ Γ => ∃ (i : Nat) (Ao : Option Addr) (qo : Nat) (O : List (Int × Int)), ρ = [(6, .slice Ao O.length qo), (25, .slice As ps.length cp), (26, .int .i64 ((ps.length : Nat) : Int)), (27, .int .i64 ((i : Nat) : Int))] ∧ Γ = [ros Tb.cells As ps, rosS encEn (ps.map Tb.ar), rows encEn 110 2 Ao qo O] ∧ mz = ps.length - i ∧ (i ≤ ps.length) ∧ (O = cat (ps.take i))) (ps.length - 0) ⟨0, Ag, qg, ([] : List (Int × Int)), rfl, rfl, rfl, (Nat.zero_le _), rfl⟩ ?_
  rintro mz _ _ ⟨i, Ao, qo, O, rfl, rfl, rfl, hi2, hO⟩
  refine To.seq (To.reg ?_)
  refine To.r (Rd.lss rfl rfl rfl) ?_
  refine To.nil (To.thenN (To.seq ?_))
  refine To.condP rfl (fun c28 => ?_) (fun c28 => ?_)
  ·
   obtain ⟨y, hy⟩ : ∃ z0, ps[i]? = some z0 := ⟨ps[i]'(by omega), List.getElem?_eq_getElem _⟩
   refine To.skip (To.thenN (To.seq (To.block (To.seq (To.reg ?_)))))
   refine To.r (Rd.indexRos encTb (i := 0) (j := i) rfl rfl rfl s185 rfl hy) ?_
   refine To.r (Rd.load (i := 0) rfl rfl c38 rfl (gives_1 (ros_gives encTb hy) rfl)) ?_
   refine To.a (To.nil (To.thenN ?_))
   have hcs := cat_succ hy
   have hcl := cat_le ps (i + 1)
   have hcl2 : (cat (ps.take (i + 1))).length = (cat (ps.take i)).length + y.l.length := by rw [hcs, List.length_append]
   have hOl : O.length + y.l.length ≤ 1000000 := by rw [hO]; omega
   refine To.oneS 1 rfl (mem_at hy Tb.ar) ?_
   refine To.reg (To.m ?_)
   refine To.m ?_
   refine To.ge rfl rfl rfl (Ge.appendL encEn_ok (i := 3) (m := y.l) rfl s38 rfl rfl rfl (src_ro (i := 0) rfl) (by first | omega | (simp only [List.length_append, List.length_cons, List.length_nil]; omega)) (by first | omega | (simp only [List.length_append, List.length_cons, List.length_nil]; omega))) ?_
   rintro _ _ ⟨A33, q33, rfl, rfl⟩
   refine To.a (To.nil (To.blockN (To.thenN (To.reg ?_))))
   refine To.r (Rd.inc rfl rfl rfl (by omega)) ?_
   refine To.m (To.nil (To.thenN ?_))
   refine To.sub [(6, .slice A33 (O ++ y.l).length q33), (25, .slice As ps.length cp), (26, .int .i64 ((ps.length : Nat) : Int)), (27, .int .i64 (((i + 1) : Nat) : Int))] ⟨rfl, rfl, rfl, rfl, trivial⟩ ?_
   refine To.only [1, 1, 1] rfl ?_
   refine To.again (ps.length - (i + 1)) (by omega) ⟨i + 1, A33, q33, (O ++ y.l), rfl, rfl, rfl, (by omega), (by rw [hO, hcs])⟩
  refine To.exit (To.thenX (To.thenX (To.blockX (To.thenN (To.seq (To.reg (To.m ?_)))))))
  refine To.a (To.nil (To.thenN (To.ret ?_)))
  refine To.only [2] rfl ?_
  refine To.end1 (.inl rfl) Tryz.results98 rfl ?_
  exact ⟨_, _, by rw [hO, List.take_of_length_le (by omega)], by rw [hO, List.take_of_length_le (by omega)]⟩
set_option maxHeartbeats 2000000 in
set_option maxRecDepth 100000 in
theorem tput_fn (A : Option Addr) (ca : Nat) (l : List (Int × Int)) (k v : Int) (hl : l.length ≤ 1000) (hca : l.length ≤ ca) (ha : Asc l) :
    Does Tryz.prog 96 [.agg #[.slice A l.length ca], .int .i64 k, .int .i64 v] [ros encEn A l] (fun r Γ' => ∃ B q, r = .agg #[.slice B (putT l k v).length q] ∧ (putT l k v).length ≤ q ∧ Γ' = [ros encEn B (putT l k v)]) := by
  refine Does.enter Tryz.func96 rfl Tryz.ntmps96 rfl (fun w0 => ?_)
  refine To.seq (To.reg ?_)
  refine To.boxed rfl rfl rfl rfl rfl rfl (fun b3 => ?_)
  refine To.alloc rfl rfl rfl rfl z40 (fun b6 => ?_)
  refine To.nil (To.thenN (To.seq (To.reg ?_)))
  refine To.r (Rd.loadS (i := 1) rfl rfl r40 rfl box_whole rfl) ?_
  refine To.m ?_
  refine To.callV rfl rfl rfl (Ent.fn rfl rfl ca97) (find_fn A ca l k (by omega) ha) rfl (oks_cons (oks_at 2 rfl) (oks_nil _)) ?_
  refine To.m ?_
  refine To.r (Rd.extract rfl rfl rfl) ?_
  refine To.r (Rd.extract rfl rfl rfl) ?_
  refine To.a ?_
  refine To.a (To.nil (To.thenN (To.seq (To.seq (To.reg ?_)))))
  refine To.m ?_
  refine To.rdB rfl rfl rfl (Rd.move rfl rfl) (fun g17 => ?_) (fun g17 => ?_)
  ·
   obtain ⟨y, hy, hyk, hg⟩ := get_is ha g17
   have hnl := (List.getElem?_eq_some_iff.1 hy).1
   refine To.f fl40_0 ?_
   refine To.lo 1 c38 ?_
   refine To.m ?_
   refine To.r (Rd.indexRos encEn_ok (i := 2) (j := (lowN l k)) rfl rfl rfl s38 rfl hy) ?_
   refine To.f fl110_1 ?_
   refine To.r (Rd.load (i := 2) rfl rfl c2 rfl (gives_at (ros_gives encEn_ok hy) rfl)) ?_
   refine To.m ?_
   refine To.r (Rd.eql rfl rfl rfl) ?_
   refine To.r (Rd.pickT rfl rfl rfl) ?_
   refine To.nil (To.thenN ?_)
   refine To.condP rfl (fun c26 => ?_) (fun c26 => ?_)
   ·
    refine To.seq (To.reg ?_)
    refine To.r (Rd.loadS (i := 1) rfl rfl r40 rfl box_whole rfl) ?_
    refine To.u (Up.storeS (i := 0) rfl rfl rfl r40 rfl rfl rfl (box_takesAll rfl)) ?_
    refine To.nil (To.thenN (To.ret (To.thenR ?_)))
    refine To.endC [2] rfl (.inl rfl) Tryz.results96 rfl (i := 0) rfl r40 rfl ?_
    have hsm : putT l k v = l := put_same ha (by rw [hg, c26])
    exact ⟨A, ca, by rw [hsm], by rw [hsm]; exact hca, by rw [hsm]⟩
   refine To.skip (To.thenN (To.seq ?_))
   have hlo := low_le k l
   refine To.reg ?_
   refine To.f fl40_0 ?_
   refine To.lo 1 c38 ?_
   refine To.m ?_
   refine To.r (Rd.as (v' := .slice (slAt A ca (lowN l k) 2) (l.drop (lowN l k)).length (ca - lowN l k)) (congrArg (fun z => Value.slice (slAt A ca (lowN l k) 2) z (ca - lowN l k)) (by rw [List.length_drop])) (Rd.sliceLo (lo := lowN l k) rfl s38 rfl rfl (by omega))) ?_
   refine To.a (To.nil (To.thenN (To.seq (To.seq (To.reg ?_)))))
   refine To.m (To.nil (To.thenN ?_))
   refine To.cond rfl (fun c32 => ?_) (fun c32 => ?_)
   ·
    refine To.reg (To.m ?_)
    refine To.r (Rd.as (v' := .slice (slAt (slAt A ca (lowN l k) 2) (ca - lowN l k) 1 2) ((l.drop (lowN l k)).drop 1).length ((ca - lowN l k) - 1)) (congrArg (fun z => Value.slice (slAt (slAt A ca (lowN l k) 2) (ca - lowN l k) 1 2) z ((ca - lowN l k) - 1)) (List.length_drop).symm) (Rd.sliceLo (lo := 1) rfl s38 rfl rfl (by rw [List.length_drop]; omega))) ?_
    refine To.a (To.nil (To.thenN (To.seq (To.reg ?_))))
    refine To.f fl40_0 ?_
    refine To.lo 1 c38 ?_
    refine To.m ?_
    refine To.r (Rd.as (v' := .slice A (l.take (lowN l k)).length ca) (congrArg (fun z => Value.slice A z ca) (by rw [List.length_take]; omega)) (Rd.sliceHi (hi := lowN l k) rfl s38 rfl rfl (by omega))) ?_
    refine To.m ?_
    refine To.m ?_
    refine To.r (Rd.build (vs := [(0, .int .i64 k), (1, .int .i64 v)]) (cells := [.int .i64 k, .int .i64 v]) rfl rfl rfl (by kernel_rfl)) ?_
    refine To.mk rfl rfl rfl (Mk.sliceN (us := [.int .i64 k, .int .i64 v]) rfl s38 rfl rfl rfl rfl rfl rfl) ?_
    rintro _ _ ⟨b42, rfl, rfl⟩
    have hlo := low_le k l
    refine To.tailR encEn_ok ca (lowN l k) 3 rfl hca (by omega) ?_
    refine To.tailR encEn_ok (ca - lowN l k) 1 0 rfl (by rw [List.length_drop]; omega) (by rw [List.length_drop]; omega) ?_
    refine To.take (lowN l k) 5 rfl ?_
    refine To.as [ros encEn A (l.take (lowN l k)), ros encEn (slAt (slAt A ca (lowN l k) 2) (ca - lowN l k) 1 2) ((l.drop (lowN l k)).drop 1), ros encEn (slAt A ca (lowN l k) 2) (l.drop (lowN l k)), rows encEn 110 2 (some ⟨b42, 0, none⟩) 1 [(k, v)], box b6 [.slice none 0 0] 40, box b3 [.slice A l.length ca] 40, ros encEn A l] rfl ?_
    refine To.up3 ?_
    refine To.layRow ?_
    refine To.nilS (enc := encEn) ?_
    refine To.famS ([(⟨A, ca, l.take (lowN l k)⟩ : Tb), (⟨(some ⟨b42, 0, none⟩), 1, [(k, v)]⟩ : Tb), (⟨(slAt (slAt A ca (lowN l k) 2) (ca - lowN l k) 1 2), ((ca - lowN l k) - 1), ((l.drop (lowN l k)).drop 1)⟩ : Tb)].map Tb.ar) 0 rfl (fun p hp => .inr ?_) ?_
    · simp only [List.map_cons, List.map_nil, List.mem_cons, List.not_mem_nil, or_false] at hp
      rcases hp with rfl | rfl | rfl <;> simp [Tb.ar]
    refine To.m ?_
    refine To.mk rfl rfl rfl (Mk.sliceN (us := [.slice A ((l.take (lowN l k)).length) ca, .slice (some ⟨b42, 0, none⟩) 1 1, .slice (slAt (slAt A ca (lowN l k) 2) (ca - lowN l k) 1 2) (((l.drop (lowN l k)).drop 1).length) ((ca - lowN l k) - 1)]) rfl s185 rfl rfl rfl rfl rfl rfl) ?_
    rintro _ _ ⟨b44, rfl, rfl⟩
    refine To.callQ rfl rfl rfl (Ent.fn rfl rfl ca98) (concat_fn (some ⟨b44, 0, none⟩) 3 [(⟨A, ca, l.take (lowN l k)⟩ : Tb), (⟨(some ⟨b42, 0, none⟩), 1, [(k, v)]⟩ : Tb), (⟨(slAt (slAt A ca (lowN l k) 2) (ca - lowN l k) 1 2), ((ca - lowN l k) - 1), ((l.drop (lowN l k)).drop 1)⟩ : Tb)] (by simp) (by simp only [cat, List.flatMap_cons, List.flatMap_nil, List.length_append, List.length_take, List.length_drop, List.length_cons, List.length_nil]; omega)) rfl (oks_cons (oks_row 0 rfl) (oks_cons (oks_at 1 rfl) (oks_nil _))) ?_
    rintro _ _ ⟨Bc, qc, rfl, rfl⟩
    refine ⟨rfl, ?_⟩
    refine To.r (Rd.build (vs := [(0, .slice Bc ((cat [(⟨A, ca, l.take (lowN l k)⟩ : Tb), (⟨(some ⟨b42, 0, none⟩), 1, [(k, v)]⟩ : Tb), (⟨(slAt (slAt A ca (lowN l k) 2) (ca - lowN l k) 1 2), ((ca - lowN l k) - 1), ((l.drop (lowN l k)).drop 1)⟩ : Tb)]).length) qc)]) (cells := [.slice Bc ((cat [(⟨A, ca, l.take (lowN l k)⟩ : Tb), (⟨(some ⟨b42, 0, none⟩), 1, [(k, v)]⟩ : Tb), (⟨(slAt (slAt A ca (lowN l k) 2) (ca - lowN l k) 1 2), ((ca - lowN l k) - 1), ((l.drop (lowN l k)).drop 1)⟩ : Tb)]).length) qc]) rfl rfl rfl (by kernel_rfl)) ?_
    refine To.u (Up.storeS (i := 8) rfl rfl rfl r40 rfl rfl rfl (box_takesAll rfl)) ?_
    refine To.nil (To.thenN (To.ret ?_))
    have hfin : cat [(⟨A, ca, l.take (lowN l k)⟩ : Tb), (⟨(some ⟨b42, 0, none⟩), 1, [(k, v)]⟩ : Tb), (⟨(slAt (slAt A ca (lowN l k) 2) (ca - lowN l k) 1 2), ((ca - lowN l k) - 1), ((l.drop (lowN l k)).drop 1)⟩ : Tb)] = putT l k v := by
      rw [put_low ha, if_pos g17]
      simp [cat]
    refine To.know (p := (cat [(⟨A, ca, l.take (lowN l k)⟩ : Tb), (⟨(some ⟨b42, 0, none⟩), 1, [(k, v)]⟩ : Tb), (⟨(slAt (slAt A ca (lowN l k) 2) (ca - lowN l k) 1 2), ((ca - lowN l k) - 1), ((l.drop (lowN l k)).drop 1)⟩ : Tb)]).length ≤ qc) (fun w hw => rows_capD 0 rfl hw) (fun hqc => ?_)
    refine To.layRow ?_
    refine To.endC [0] rfl (.inl rfl) Tryz.results96 rfl (i := 8) rfl r40 rfl ?_
    exact ⟨Bc, qc, by rw [← hfin], by rw [← hfin]; exact hqc, by rw [← hfin]⟩
   rw [g17] at c32; cases c32
  refine To.k ?_
  refine To.k ?_
  refine To.k ?_
  refine To.k ?_
  refine To.k ?_
  refine To.k ?_
  refine To.k ?_
  refine To.k ?_
  refine To.r (Rd.pickF rfl rfl rfl) ?_
  refine To.nil (To.thenN ?_)
  refine To.condF rfl ?_
  refine To.skip (To.thenN (To.seq ?_))
  have hlo := low_le k l
  refine To.reg ?_
  refine To.f fl40_0 ?_
  refine To.lo 1 c38 ?_
  refine To.m ?_
  refine To.r (Rd.as (v' := .slice (slAt A ca (lowN l k) 2) (l.drop (lowN l k)).length (ca - lowN l k)) (congrArg (fun z => Value.slice (slAt A ca (lowN l k) 2) z (ca - lowN l k)) (by rw [List.length_drop])) (Rd.sliceLo (lo := lowN l k) rfl s38 rfl rfl (by omega))) ?_
  refine To.a (To.nil (To.thenN (To.seq (To.seq (To.reg ?_)))))
  refine To.m (To.nil (To.thenN ?_))
  refine To.cond rfl (fun c32 => ?_) (fun c32 => ?_)
  ·
   rw [g17] at c32; cases c32
  refine To.skip (To.thenN (To.seq (To.reg ?_)))
  refine To.f fl40_0 ?_
  refine To.lo 1 c38 ?_
  refine To.m ?_
  refine To.r (Rd.as (v' := .slice A (l.take (lowN l k)).length ca) (congrArg (fun z => Value.slice A z ca) (by rw [List.length_take]; omega)) (Rd.sliceHi (hi := lowN l k) rfl s38 rfl rfl (by omega))) ?_
  refine To.m ?_
  refine To.m ?_
  refine To.r (Rd.build (vs := [(0, .int .i64 k), (1, .int .i64 v)]) (cells := [.int .i64 k, .int .i64 v]) rfl rfl rfl (by kernel_rfl)) ?_
  refine To.mk rfl rfl rfl (Mk.sliceN (us := [.int .i64 k, .int .i64 v]) rfl s38 rfl rfl rfl rfl rfl rfl) ?_
  rintro _ _ ⟨b42_2, rfl, rfl⟩
  have hlo := low_le k l
  refine To.tailR encEn_ok ca (lowN l k) 3 rfl hca (by omega) ?_
  refine To.take (lowN l k) 4 rfl ?_
  refine To.as [ros encEn A (l.take (lowN l k)), ros encEn (slAt A ca (lowN l k) 2) (l.drop (lowN l k)), rows encEn 110 2 (some ⟨b42_2, 0, none⟩) 1 [(k, v)], box b6 [.slice none 0 0] 40, box b3 [.slice A l.length ca] 40, ros encEn A l] rfl ?_
  refine To.up2 ?_
  refine To.layRow ?_
  refine To.nilS (enc := encEn) ?_
  refine To.famS ([(⟨A, ca, l.take (lowN l k)⟩ : Tb), (⟨(some ⟨b42_2, 0, none⟩), 1, [(k, v)]⟩ : Tb), (⟨(slAt A ca (lowN l k) 2), (ca - lowN l k), (l.drop (lowN l k))⟩ : Tb)].map Tb.ar) 0 rfl (fun p hp => .inr ?_) ?_
  · simp only [List.map_cons, List.map_nil, List.mem_cons, List.not_mem_nil, or_false] at hp
    rcases hp with rfl | rfl | rfl <;> simp [Tb.ar]
  refine To.m ?_
  refine To.mk rfl rfl rfl (Mk.sliceN (us := [.slice A ((l.take (lowN l k)).length) ca, .slice (some ⟨b42_2, 0, none⟩) 1 1, .slice (slAt A ca (lowN l k) 2) ((l.drop (lowN l k)).length) (ca - lowN l k)]) rfl s185 rfl rfl rfl rfl rfl rfl) ?_
  rintro _ _ ⟨b44_2, rfl, rfl⟩
  refine To.callQ rfl rfl rfl (Ent.fn rfl rfl ca98) (concat_fn (some ⟨b44_2, 0, none⟩) 3 [(⟨A, ca, l.take (lowN l k)⟩ : Tb), (⟨(some ⟨b42_2, 0, none⟩), 1, [(k, v)]⟩ : Tb), (⟨(slAt A ca (lowN l k) 2), (ca - lowN l k), (l.drop (lowN l k))⟩ : Tb)] (by simp) (by simp only [cat, List.flatMap_cons, List.flatMap_nil, List.length_append, List.length_take, List.length_drop, List.length_cons, List.length_nil]; omega)) rfl (oks_cons (oks_row 0 rfl) (oks_cons (oks_at 1 rfl) (oks_nil _))) ?_
  rintro _ _ ⟨Bc, qc, rfl, rfl⟩
  refine ⟨rfl, ?_⟩
  refine To.r (Rd.build (vs := [(0, .slice Bc ((cat [(⟨A, ca, l.take (lowN l k)⟩ : Tb), (⟨(some ⟨b42_2, 0, none⟩), 1, [(k, v)]⟩ : Tb), (⟨(slAt A ca (lowN l k) 2), (ca - lowN l k), (l.drop (lowN l k))⟩ : Tb)]).length) qc)]) (cells := [.slice Bc ((cat [(⟨A, ca, l.take (lowN l k)⟩ : Tb), (⟨(some ⟨b42_2, 0, none⟩), 1, [(k, v)]⟩ : Tb), (⟨(slAt A ca (lowN l k) 2), (ca - lowN l k), (l.drop (lowN l k))⟩ : Tb)]).length) qc]) rfl rfl rfl (by kernel_rfl)) ?_
  refine To.u (Up.storeS (i := 7) rfl rfl rfl r40 rfl rfl rfl (box_takesAll rfl)) ?_
  refine To.nil (To.thenN (To.ret ?_))
  have hfin : cat [(⟨A, ca, l.take (lowN l k)⟩ : Tb), (⟨(some ⟨b42_2, 0, none⟩), 1, [(k, v)]⟩ : Tb), (⟨(slAt A ca (lowN l k) 2), (ca - lowN l k), (l.drop (lowN l k))⟩ : Tb)] = putT l k v := by
    rw [put_low ha, if_neg (by rw [g17]; decide)]
    simp [cat]
  refine To.know (p := (cat [(⟨A, ca, l.take (lowN l k)⟩ : Tb), (⟨(some ⟨b42_2, 0, none⟩), 1, [(k, v)]⟩ : Tb), (⟨(slAt A ca (lowN l k) 2), (ca - lowN l k), (l.drop (lowN l k))⟩ : Tb)]).length ≤ qc) (fun w hw => rows_capD 0 rfl hw) (fun hqc => ?_)
  refine To.layRow ?_
  refine To.endC [0] rfl (.inl rfl) Tryz.results96 rfl (i := 7) rfl r40 rfl ?_
  exact ⟨Bc, qc, by rw [← hfin], by rw [← hfin]; exact hqc, by rw [← hfin]⟩
set_option maxHeartbeats 2000000 in
set_option maxRecDepth 100000 in
theorem tdel_fn (A : Option Addr) (ca : Nat) (l : List (Int × Int)) (k : Int) (hl : l.length ≤ 1000) (hca : l.length ≤ ca) (ha : Asc l) :
    Does Tryz.prog 89 [.agg #[.slice A l.length ca], .int .i64 k] [ros encEn A l] (fun r Γ' => ∃ B q, r = .agg #[.slice B (delT l k).length q] ∧ (delT l k).length ≤ q ∧ Γ' = [ros encEn B (delT l k)]) := by
  refine Does.enter Tryz.func89 rfl Tryz.ntmps89 rfl (fun w0 => ?_)
  refine To.seq (To.reg ?_)
  refine To.boxed rfl rfl rfl rfl rfl rfl (fun b2 => ?_)
  refine To.alloc rfl rfl rfl rfl z40 (fun b4 => ?_)
  refine To.nil (To.thenN (To.seq (To.reg ?_)))
  refine To.r (Rd.loadS (i := 1) rfl rfl r40 rfl box_whole rfl) ?_
  refine To.m ?_
  refine To.callV rfl rfl rfl (Ent.fn rfl rfl ca97) (find_fn A ca l k (by omega) ha) rfl (oks_cons (oks_at 2 rfl) (oks_nil _)) ?_
  refine To.m ?_
  refine To.r (Rd.extract rfl rfl rfl) ?_
  refine To.r (Rd.extract rfl rfl rfl) ?_
  refine To.a ?_
  refine To.a (To.nil (To.thenN (To.seq (To.seq (To.reg ?_)))))
  refine To.m ?_
  refine To.r (Rd.not rfl rfl) ?_
  refine To.nil (To.thenN ?_)
  refine To.cond rfl (fun c14 => ?_) (fun c14 => ?_)
  ·
   refine To.seq (To.reg ?_)
   refine To.r (Rd.loadS (i := 1) rfl rfl r40 rfl box_whole rfl) ?_
   refine To.u (Up.storeS (i := 0) rfl rfl rfl r40 rfl rfl rfl (box_takesAll rfl)) ?_
   refine To.nil (To.thenN (To.ret (To.thenR ?_)))
   refine To.endC [2] rfl (.inl rfl) Tryz.results89 rfl (i := 0) rfl r40 rfl ?_
   have hsm : delT l k = l := by rw [del_low ha, if_neg (by simpa using c14)]
   exact ⟨A, ca, by rw [hsm], by rw [hsm]; exact hca, by rw [hsm]⟩
  refine To.skip (To.thenN (To.seq ?_))
  have his : (getT l k).isSome = true := by simpa using c14
  obtain ⟨y, hy, hyk, hg⟩ := get_is ha his
  have hnl := (List.getElem?_eq_some_iff.1 hy).1
  have hlo := low_le k l
  refine To.tailR encEn_ok ca (lowN l k + 1) 2 rfl hca (by omega) ?_
  refine To.take (lowN l k) 3 rfl ?_
  refine To.nilS (enc := encEn) ?_
  refine To.famS ([(⟨A, ca, l.take (lowN l k)⟩ : Tb), (⟨(slAt A ca (lowN l k + 1) 2), (ca - (lowN l k + 1)), (l.drop (lowN l k + 1))⟩ : Tb)].map Tb.ar) 0 rfl (fun p hp => .inr ?_) ?_
  · simp only [List.map_cons, List.map_nil, List.mem_cons, List.not_mem_nil, or_false] at hp
    rcases hp with rfl | rfl <;> simp [Tb.ar]
  refine To.flow [] [⟨0, [], 0⟩, ⟨2, [], 0⟩, ⟨4, [], 0⟩, ⟨6, [], 0⟩, ⟨7, [], 0⟩, ⟨1, [], 1⟩, ⟨3, [], 0⟩, ⟨5, [], 1⟩, ⟨8, [], 0⟩, ⟨9, [], 2⟩, ⟨10, [9], 4⟩, ⟨11, [9, 10], 0⟩, ⟨12, [9, 10], 5⟩] mixed (by kernel_rfl) (oks_nil _) ?_
  refine FlowS.fi fl40_0 ?_
  refine FlowS.mo ?_
  refine FlowS.fi fl40_0 ?_
  refine FlowS.mo ?_
  refine FlowS.f rfl (Rd.inc rfl rfl rfl (by omega)) ?_
  refine FlowS.lo 5 c38 ?_
  refine FlowS.f rfl (Rd.as (v' := .slice A (l.take (lowN l k)).length ca) (congrArg (fun z => Value.slice A z ca) (by rw [List.length_take]; omega)) (Rd.sliceHi (hi := lowN l k) rfl s38 rfl rfl (by omega))) ?_
  refine FlowS.lo 5 c38 ?_
  refine FlowS.f rfl (Rd.as (v' := .slice (slAt A ca (lowN l k + 1) 2) (l.drop (lowN l k + 1)).length (ca - (lowN l k + 1))) (congrArg (fun z => Value.slice (slAt A ca (lowN l k + 1) 2) z (ca - (lowN l k + 1))) (by rw [List.length_drop])) (Rd.sliceLo (lo := lowN l k + 1) rfl s38 rfl rfl (by omega))) ?_
  refine FlowS.mk rfl rfl rfl rfl rfl (Mk.sliceN (us := [.slice A ((l.take (lowN l k)).length) ca, .slice (slAt A ca (lowN l k + 1) 2) ((l.drop (lowN l k + 1)).length) (ca - (lowN l k + 1))]) rfl s185 rfl rfl rfl rfl rfl rfl) ?_
  rintro _ _ ⟨b25, rfl, rfl⟩
  refine FlowS.callM rfl rfl rfl rfl rfl (Ent.fn rfl rfl ca98) (concat_fn (some ⟨b25, 0, none⟩) 2 [(⟨A, ca, l.take (lowN l k)⟩ : Tb), (⟨(slAt A ca (lowN l k + 1) 2), (ca - (lowN l k + 1)), (l.drop (lowN l k + 1))⟩ : Tb)] (by simp) (by simp only [cat, List.flatMap_cons, List.flatMap_nil, List.length_append, List.length_take, List.length_drop, List.length_cons, List.length_nil]; omega)) rfl (oks_cons (oks_row 0 rfl) (oks_cons (oks_at 1 rfl) (oks_nil _))) ?_
  rintro _ _ ⟨Bc, qc, rfl, rfl⟩
  refine ⟨rfl, ?_⟩
  refine FlowS.f rfl (Rd.build (vs := [(0, .slice Bc ((cat [(⟨A, ca, l.take (lowN l k)⟩ : Tb), (⟨(slAt A ca (lowN l k + 1) 2), (ca - (lowN l k + 1)), (l.drop (lowN l k + 1))⟩ : Tb)]).length) qc)]) (cells := [.slice Bc ((cat [(⟨A, ca, l.take (lowN l k)⟩ : Tb), (⟨(slAt A ca (lowN l k + 1) 2), (ca - (lowN l k + 1)), (l.drop (lowN l k + 1))⟩ : Tb)]).length) qc]) rfl rfl rfl (by kernel_rfl)) ?_
  refine FlowS.up rfl rfl rfl (Up.storeS (i := 6) rfl rfl rfl r40 rfl rfl rfl (box_takesAll rfl)) (oks_nil _) ?_
  refine FlowS.fin ?_
  refine To.thenN (To.ret ?_)
  have hfin : cat [(⟨A, ca, l.take (lowN l k)⟩ : Tb), (⟨(slAt A ca (lowN l k + 1) 2), (ca - (lowN l k + 1)), (l.drop (lowN l k + 1))⟩ : Tb)] = delT l k := by
    rw [del_low ha, if_pos his]
    simp [cat]
  refine To.know (p := (cat [(⟨A, ca, l.take (lowN l k)⟩ : Tb), (⟨(slAt A ca (lowN l k + 1) 2), (ca - (lowN l k + 1)), (l.drop (lowN l k + 1))⟩ : Tb)]).length ≤ qc) (fun w hw => rows_capD 0 rfl hw) (fun hqc => ?_)
  refine To.layRow ?_
  refine To.endC [0] rfl (.inl rfl) Tryz.results89 rfl (i := 6) rfl r40 rfl ?_
  exact ⟨Bc, qc, by rw [← hfin], by rw [← hfin]; exact hqc, by rw [← hfin]⟩
set_option maxHeartbeats 2000000 in
set_option maxRecDepth 100000 in
theorem putB_fn (b : Nat) (s : Sm) (d : Dm) (k v : Int) (hg : Good d.dk.l) (hq : d.dk.l.length ≤ d.dk.q) :
    Does Tryz.prog 86 [.pointer (some ⟨b, 2, none⟩), .int .i64 k, .int .i64 v] [box b [.slice d.Av d.vars.length d.qv, .slice d.At d.tabs.length d.qt, .slice d.dk.A d.dk.l.length d.dk.q, .slice d.Ae d.effs.length d.qe, .int .i64 d.cost, .slice s.Ac s.code.length s.qc, .slice s.Aa s.args.length s.qa, .int .i64 s.now, .slice s.Ag s.flags.length s.qg, .int .i64 s.dsk, .slice s.Af s.fail.length s.qf, .slice d.As d.stack.length d.qs, .int .i64 d.next, .int .i64 d.sends, .int .i64 d.disks, .bool d.fault] 77, ros encEn d.dk.A d.dk.l] (fun r Γ' => r = .tuple #[] ∧ ∃ t : Tb, Γ' = [box b (mc s { d with dk := t }) 77, ros encEn t.A t.l] ∧ t.l = putR d.dk.l k v ∧ t.l.length ≤ t.q) := by
  refine Does.enter Tryz.func86 rfl Tryz.ntmps86 rfl (fun w0 => ?_)
  refine To.seq (To.reg (To.m ?_))
  refine To.r (Rd.nilCheck rfl rfl) ?_
  refine To.r (Rd.loadS (i := 0) (us := [.slice d.dk.A d.dk.l.length d.dk.q]) rfl rfl r40 rfl (box_gives (n := 1) rfl) rfl) ?_
  refine To.m ?_
  refine To.callV rfl rfl rfl (Ent.fn rfl rfl ca87) (tget_fn d.dk.A d.dk.q d.dk.l k (by have := hg.len; omega) hg.asc) rfl (oks_cons (oks_at 1 rfl) (oks_nil _)) ?_
  refine To.m ?_
  refine To.r (Rd.extract rfl rfl rfl) ?_
  refine To.r (Rd.extract rfl rfl rfl) ?_
  refine To.a ?_
  refine To.a (To.nil (To.thenN (To.seq (To.reg ?_))))
  refine To.m ?_
  refine To.rdB rfl rfl rfl (Rd.move rfl rfl) (fun g17 => ?_) (fun g17 => ?_)
  ·
   refine To.k ?_
   refine To.k ?_
   refine To.k ?_
   refine To.k ?_
   refine To.k ?_
   refine To.r (Rd.pickT rfl rfl rfl) ?_
   refine To.nil (To.thenN ?_)
   refine To.condT rfl ?_
   refine To.reg (To.m ?_)
   refine To.m ?_
   refine To.r (Rd.nilCheck rfl rfl) ?_
   refine To.r (Rd.loadS (i := 0) (us := [.slice d.dk.A d.dk.l.length d.dk.q]) rfl rfl r40 rfl (box_gives (n := 1) rfl) rfl) ?_
   refine To.m ?_
   refine To.m ?_
   refine To.call [1] rfl rfl rfl (Ent.fn rfl rfl ca96) rfl (tput_fn d.dk.A d.dk.q d.dk.l k v (by have := hg.len; omega) hq hg.asc) ?_
   rintro _ _ ⟨Bp, qp, rfl, hqp, rfl⟩
   refine To.r (Rd.nilCheck rfl rfl) ?_
   refine To.u (Up.storeS (i := 1) rfl rfl rfl r40 rfl rfl rfl (box_takes (ds := [.slice d.Av d.vars.length d.qv, .slice d.At d.tabs.length d.qt, .slice Bp ((putT d.dk.l k v).length) qp, .slice d.Ae d.effs.length d.qe, .int .i64 d.cost, .slice s.Ac s.code.length s.qc, .slice s.Aa s.args.length s.qa, .int .i64 s.now, .slice s.Ag s.flags.length s.qg, .int .i64 s.dsk, .slice s.Af s.fail.length s.qf, .slice d.As d.stack.length d.qs, .int .i64 d.next, .int .i64 d.sends, .int .i64 d.disks, .bool d.fault]) rfl rfl)) ?_
   refine To.nil ?_
   refine To.up1 ?_
   refine To.end0 (.inr rfl) Tryz.results86 ?_
   exact ⟨rfl, ⟨Bp, qp, putT d.dk.l k v⟩, rfl, (by unfold putR; rw [if_pos (.inl g17)]), hqp⟩
  refine To.m ?_
  refine To.r (Rd.nilCheck rfl rfl) ?_
  refine To.r (Rd.loadS (i := 0) (us := [.slice d.dk.A d.dk.l.length d.dk.q]) rfl rfl r40 rfl (box_gives (n := 1) rfl) rfl) ?_
  refine To.callV rfl rfl rfl (Ent.fn rfl rfl ca88) (tlen_fn d.dk.A d.dk.l.length d.dk.q) rfl (oks_nil _) ?_
  refine To.r (Rd.lss rfl rfl rfl) ?_
  refine To.r (Rd.pickF rfl rfl rfl) ?_
  refine To.nil (To.thenN ?_)
  refine To.condP rfl (fun c23 => ?_) (fun c23 => ?_)
  ·
   refine To.reg (To.m ?_)
   refine To.m ?_
   refine To.r (Rd.nilCheck rfl rfl) ?_
   refine To.r (Rd.loadS (i := 0) (us := [.slice d.dk.A d.dk.l.length d.dk.q]) rfl rfl r40 rfl (box_gives (n := 1) rfl) rfl) ?_
   refine To.m ?_
   refine To.m ?_
   refine To.call [1] rfl rfl rfl (Ent.fn rfl rfl ca96) rfl (tput_fn d.dk.A d.dk.q d.dk.l k v (by have := hg.len; omega) hq hg.asc) ?_
   rintro _ _ ⟨Bp, qp, rfl, hqp, rfl⟩
   refine To.r (Rd.nilCheck rfl rfl) ?_
   refine To.u (Up.storeS (i := 1) rfl rfl rfl r40 rfl rfl rfl (box_takes (ds := [.slice d.Av d.vars.length d.qv, .slice d.At d.tabs.length d.qt, .slice Bp ((putT d.dk.l k v).length) qp, .slice d.Ae d.effs.length d.qe, .int .i64 d.cost, .slice s.Ac s.code.length s.qc, .slice s.Aa s.args.length s.qa, .int .i64 s.now, .slice s.Ag s.flags.length s.qg, .int .i64 s.dsk, .slice s.Af s.fail.length s.qf, .slice d.As d.stack.length d.qs, .int .i64 d.next, .int .i64 d.sends, .int .i64 d.disks, .bool d.fault]) rfl rfl)) ?_
   refine To.nil ?_
   refine To.up1 ?_
   refine To.end0 (.inr rfl) Tryz.results86 ?_
   exact ⟨rfl, ⟨Bp, qp, putT d.dk.l k v⟩, rfl, (by unfold putR; rw [if_pos (.inr (by omega))]), hqp⟩
  refine To.skip ?_
  refine To.end0 (.inr rfl) Tryz.results86 ?_
  exact ⟨rfl, d.dk, rfl, (by unfold putR; rw [if_neg (by rintro (h | h); exact absurd h (by rw [g17]; decide); omega)]), hq⟩
theorem set_same {α : Type} {l : List α} {j : Nat} {x : α} (hx : l[j]? = some x) : l.set j x = l := by
  apply List.ext_getElem?
  intro i
  by_cases h : j = i
  · subst h; rw [List.getElem?_set_self (List.getElem?_eq_some_iff.1 hx).1, hx]
  · rw [List.getElem?_set_ne h]
set_option maxHeartbeats 2000000 in
set_option maxRecDepth 100000 in
theorem putT_fn (At : Option Addr) (qt : Nat) (T : List Tb) (j : Nat) (x : Tb) (hx : T[j]? = some x) (k v : Int) (hg : Good x.l) (hq : x.l.length ≤ x.q) :
    Does Tryz.prog 86 [.pointer (some ⟨blk At, ofs At + j * 1, none⟩), .int .i64 k, .int .i64 v] [rows Tb.cells 40 1 At qt T, ros encEn x.A x.l] (fun r Γ' => r = .tuple #[] ∧ ∃ t : Tb, Γ' = [rows Tb.cells 40 1 At qt (T.set j t), ros encEn t.A t.l] ∧ t.l = putR x.l k v ∧ t.l.length ≤ t.q) := by
  have hjl : j < T.length := (List.getElem?_eq_some_iff.1 hx).1
  refine Does.enter Tryz.func86 rfl Tryz.ntmps86 rfl (fun w0 => ?_)
  refine To.seq (To.reg (To.m ?_))
  refine To.r (Rd.nilCheck rfl rfl) ?_
  refine To.r (Rd.loadS (i := 0) rfl rfl r40 rfl (rows_gives encTb hx) (encTb.len _)) ?_
  refine To.m ?_
  refine To.callV rfl rfl rfl (Ent.fn rfl rfl ca87) (tget_fn x.A x.q x.l k (by have := hg.len; omega) hg.asc) rfl (oks_cons (oks_at 1 rfl) (oks_nil _)) ?_
  refine To.m ?_
  refine To.r (Rd.extract rfl rfl rfl) ?_
  refine To.r (Rd.extract rfl rfl rfl) ?_
  refine To.a ?_
  refine To.a (To.nil (To.thenN (To.seq (To.reg ?_))))
  refine To.m ?_
  refine To.rdB rfl rfl rfl (Rd.move rfl rfl) (fun g17 => ?_) (fun g17 => ?_)
  ·
   refine To.k ?_
   refine To.k ?_
   refine To.k ?_
   refine To.k ?_
   refine To.k ?_
   refine To.r (Rd.pickT rfl rfl rfl) ?_
   refine To.nil (To.thenN ?_)
   refine To.condT rfl ?_
   refine To.reg (To.m ?_)
   refine To.m ?_
   refine To.r (Rd.nilCheck rfl rfl) ?_
   refine To.r (Rd.loadS (i := 0) rfl rfl r40 rfl (rows_gives encTb hx) (encTb.len _)) ?_
   refine To.m ?_
   refine To.m ?_
   refine To.call [1] rfl rfl rfl (Ent.fn rfl rfl ca96) rfl (tput_fn x.A x.q x.l k v (by have := hg.len; omega) hq hg.asc) ?_
   rintro _ _ ⟨Bp, qp, rfl, hqp, rfl⟩
   refine To.r (Rd.nilCheck rfl rfl) ?_
   refine To.u (Up.storeS (i := 1) (us := Tb.cells (⟨Bp, qp, (putT x.l k v)⟩ : Tb)) rfl rfl rfl r40 (encTb.len _) rfl rfl (rows_takes encTb (by decide) (by omega))) ?_
   refine To.nil ?_
   refine To.up1 ?_
   refine To.end0 (.inr rfl) Tryz.results86 ?_
   exact ⟨rfl, ⟨Bp, qp, putT x.l k v⟩, rfl, (by unfold putR; rw [if_pos (.inl g17)]), hqp⟩
  refine To.m ?_
  refine To.r (Rd.nilCheck rfl rfl) ?_
  refine To.r (Rd.loadS (i := 0) rfl rfl r40 rfl (rows_gives encTb hx) (encTb.len _)) ?_
  refine To.callV rfl rfl rfl (Ent.fn rfl rfl ca88) (tlen_fn x.A x.l.length x.q) rfl (oks_nil _) ?_
  refine To.r (Rd.lss rfl rfl rfl) ?_
  refine To.r (Rd.pickF rfl rfl rfl) ?_
  refine To.nil (To.thenN ?_)
  refine To.condP rfl (fun c23 => ?_) (fun c23 => ?_)
  ·
   refine To.reg (To.m ?_)
   refine To.m ?_
   refine To.r (Rd.nilCheck rfl rfl) ?_
   refine To.r (Rd.loadS (i := 0) rfl rfl r40 rfl (rows_gives encTb hx) (encTb.len _)) ?_
   refine To.m ?_
   refine To.m ?_
   refine To.call [1] rfl rfl rfl (Ent.fn rfl rfl ca96) rfl (tput_fn x.A x.q x.l k v (by have := hg.len; omega) hq hg.asc) ?_
   rintro _ _ ⟨Bp, qp, rfl, hqp, rfl⟩
   refine To.r (Rd.nilCheck rfl rfl) ?_
   refine To.u (Up.storeS (i := 1) (us := Tb.cells (⟨Bp, qp, (putT x.l k v)⟩ : Tb)) rfl rfl rfl r40 (encTb.len _) rfl rfl (rows_takes encTb (by decide) (by omega))) ?_
   refine To.nil ?_
   refine To.up1 ?_
   refine To.end0 (.inr rfl) Tryz.results86 ?_
   exact ⟨rfl, ⟨Bp, qp, putT x.l k v⟩, rfl, (by unfold putR; rw [if_pos (.inr (by omega))]), hqp⟩
  refine To.skip ?_
  refine To.end0 (.inr rfl) Tryz.results86 ?_
  exact ⟨rfl, x, by rw [set_same hx], (by unfold putR; rw [if_neg (by rintro (h | h); exact absurd h (by rw [g17]; decide); omega)]), hq⟩
end Go.Proofs.YtoehnbacbobhiaaGreatDoor
