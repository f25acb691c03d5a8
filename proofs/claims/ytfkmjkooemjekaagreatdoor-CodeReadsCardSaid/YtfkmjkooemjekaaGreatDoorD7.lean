/- The reference reads a unit. Own text (walks printed by sx.py). -/
import Derived.Test.YtfkmjkooemjekaaGreatDoorL1
import Derived.Test.YtfkmjkooemjekaaGreatDoorD6
set_option linter.unusedVariables false
set_option linter.unusedSimpArgs false
namespace Go.Proofs.YtfkmjkooemjekaaGreatDoor
open Go.RowKit Go.Flow Go.Mem Go.Sep
def encU (n : Nat) : List Value := [.int .u64 ((n : Nat) : Int)]
theorem encU_ok : Enc encU 1 := ⟨fun _ => rfl, fun x u hu => by simp [encU] at hu; subst hu; rfl⟩
set_option maxHeartbeats 2000000 in
set_option maxRecDepth 100000 in
theorem rread_fn (A : Option Addr) (q : Nat) (p : List Nat) (hl : p.length ≤ 140737488355327) (hok : okS p) (hc : p.length ≤ q) :
    Does Tryz.prog 11 [.slice A p.length q] [ros encY A p] (fun r Γ' => ∃ (B : Option Addr) (q' : Nat), r = .tuple #[.agg #[.int .i64 (((readV p).1.1 : Nat) : Int), .int .i64 (((readV p).1.2.1 : Nat) : Int), .slice B (readV p).1.2.2.length q'], .int .i64 (((readV p).2.1 : Nat) : Int), .int .i64 (readV p).2.2] ∧ Γ' = [rows Ins.rcells 61 4 B q' (readV p).1.2.2]) := by
  refine Does.enter Tryz.func11 rfl Tryz.ntmps11 rfl (fun w0 => ?_)
  refine To.seq (To.reg ?_)
  refine To.alloc rfl rfl rfl rfl z28 (fun b2 => ?_)
  refine To.a ?_
  refine To.a (To.nil (To.thenN (To.seq (To.reg ?_))))
  refine To.a (To.nil (To.thenN (To.seq (To.reg ?_))))
  refine To.mk rfl rfl rfl (Mk.slice0R (α := Nat) (enc := encU) rfl s79) ?_
  rintro _ _ ⟨A0, rfl, rfl⟩
  refine To.a (To.nil (To.thenN (To.seq (To.seq (To.reg ?_)))))
  refine To.a (To.nil (To.thenN (To.block ?_)))
  refine To.rounds 4 ?_
  refine To.roundS ?_
  refine To.seq (To.seq (To.reg (To.m ?_)))
  refine To.r (Rd.lss rfl rfl rfl) ?_
  refine To.nil (To.thenN ?_)
  refine To.condT rfl ?_
  refine To.skip (To.thenN (To.seq (To.block (To.seq ?_))))
  refine To.tailR encY_ok q 0 2 rfl hc (by omega) ?_
  have hul0 := (uV_lt (p.drop 0)).2
  rw [List.length_drop] at hul0
  refine To.reg (To.m ?_)
  refine To.m ?_
  refine To.r (Rd.as (v' := .slice (slAt A q 0 1) (p.drop 0).length (q - 0)) (congrArg (fun z => Value.slice (slAt A q 0 1) z (q - 0)) (List.length_drop).symm) (Rd.sliceLo (lo := 0) rfl s38 rfl rfl (by omega))) ?_
  refine To.callV rfl rfl rfl (Ent.fn rfl rfl ca28) (ruint_fn (slAt A q 0 1) (q - 0) (p.drop 0) (hok.drop 0).1 (hok.drop 0).2) rfl (oks_cons (oks_at 0 rfl) (oks_nil _)) ?_
  refine To.m ?_
  refine To.r (Rd.extract rfl rfl rfl) ?_
  refine To.r (Rd.extract rfl rfl rfl) ?_
  refine To.r (Rd.extract rfl rfl rfl) ?_
  refine To.a ?_
  refine To.a ?_
  refine To.a (To.nil (To.thenN (To.seq (To.seq (To.reg ?_)))))
  refine To.m ?_
  refine To.r (Rd.neq rfl rfl rfl) ?_
  refine To.nil (To.thenN ?_)
  refine To.condP rfl (fun k33 => ?_) (fun k33 => ?_)
  ·
   refine To.seq (To.reg ?_)
   refine To.r (Rd.build (vs := []) (cells := [.int .i64 0, .int .i64 0, .slice none 0 0]) rfl rfl rfl (by kernel_rfl)) ?_
   refine To.u (Up.storeS (i := 2) rfl rfl rfl r28 rfl rfl rfl (box_takesAll rfl)) ?_
   refine To.a ?_
   refine To.a (To.nil (To.thenN (To.ret (To.thenR (To.blockR (To.thenR (To.thenR (To.blockR (To.thenR ?_)))))))))
   refine To.nilRow (Ins.rcells) 61 4 ?_
   refine To.endCTT [0] rfl (.inl rfl) Tryz.results11 rfl (i := 3) rfl r28 rfl rfl rfl ?_
   have hR : readV p = ((0, 0, []), 0, 6) := readV_head (headV_1 (natV_no k33))
   rw [hR]
   exact ⟨none, 0, rfl, rfl⟩
  refine To.skip (To.thenN (To.seq (To.reg (To.m ?_))))
  refine To.m ?_
  refine To.mk rfl rfl rfl (Mk.sliceN (us := [.int .u64 ((uV (uintV (p.drop 0)) : Nat) : Int)]) rfl s79 rfl rfl rfl rfl rfl rfl) ?_
  rintro _ _ ⟨b37, rfl, rfl⟩
  refine To.ge rfl rfl rfl (Ge.append1 encU_ok (i := 2) (j := 0) (el := (uV (uintV (p.drop 0)))) rfl s79 rfl rfl rfl rfl rfl (by first | omega | (simp only [List.length_append, List.length_cons, List.length_nil]; omega)) (by first | omega | (simp only [List.length_append, List.length_cons, List.length_nil]; omega))) ?_
  rintro _ _ ⟨A38, q38, rfl, rfl⟩
  refine To.a (To.nil (To.thenN (To.reg ?_)))
  refine To.m ?_
  refine To.m ?_
  refine To.r (Rd.addN (a := 0) (b := (uL (uintV (p.drop 0)))) rfl rfl rfl (by omega)) ?_
  refine To.a (To.nil (To.blockN (To.thenN ?_)))
  obtain ⟨a1, ha1⟩ : ∃ z0, z0 = 0 + (uL (uintV (p.drop 0))) := ⟨_, rfl⟩
  rw [← ha1]
  have hm1 : natV (p.drop 0) = some (uV (uintV (p.drop 0)), p.drop a1) := natV_at (Decidable.not_not.1 k33) ha1
  have hp1 : a1 ≤ p.length := by omega
  refine To.only [0, 1, 1, 1] rfl ?_
  refine To.reg (To.m ?_)
  refine To.r (Rd.as (v' := .int .i64 (1)) rfl (Rd.add64 (m := 0) (n := 1) rfl rfl rfl (by decide))) ?_
  refine To.a (To.nil (To.thenN ?_))
  refine To.roundS ?_
  refine To.seq (To.seq (To.reg (To.m ?_)))
  refine To.r (Rd.lss rfl rfl rfl) ?_
  refine To.nil (To.thenN ?_)
  refine To.condT rfl ?_
  refine To.skip (To.thenN (To.seq (To.block (To.seq ?_))))
  refine To.tailR encY_ok q a1 3 rfl hc (by omega) ?_
  have hul1 := (uV_lt (p.drop a1)).2
  rw [List.length_drop] at hul1
  refine To.reg (To.m ?_)
  refine To.m ?_
  refine To.r (Rd.as (v' := .slice (slAt A q a1 1) (p.drop a1).length (q - a1)) (congrArg (fun z => Value.slice (slAt A q a1 1) z (q - a1)) (List.length_drop).symm) (Rd.sliceLo (lo := a1) rfl s38 rfl rfl (by omega))) ?_
  refine To.callV rfl rfl rfl (Ent.fn rfl rfl ca28) (ruint_fn (slAt A q a1 1) (q - a1) (p.drop a1) (hok.drop a1).1 (hok.drop a1).2) rfl (oks_cons (oks_at 0 rfl) (oks_nil _)) ?_
  refine To.m ?_
  refine To.r (Rd.extract rfl rfl rfl) ?_
  refine To.r (Rd.extract rfl rfl rfl) ?_
  refine To.r (Rd.extract rfl rfl rfl) ?_
  refine To.a ?_
  refine To.a ?_
  refine To.a (To.nil (To.thenN (To.seq (To.seq (To.reg ?_)))))
  refine To.m ?_
  refine To.r (Rd.neq rfl rfl rfl) ?_
  refine To.nil (To.thenN ?_)
  refine To.condP rfl (fun k33_2 => ?_) (fun k33_2 => ?_)
  ·
   refine To.seq (To.reg ?_)
   refine To.r (Rd.build (vs := []) (cells := [.int .i64 0, .int .i64 0, .slice none 0 0]) rfl rfl rfl (by kernel_rfl)) ?_
   refine To.u (Up.storeS (i := 3) rfl rfl rfl r28 rfl rfl rfl (box_takesAll rfl)) ?_
   refine To.a ?_
   refine To.a (To.nil (To.thenN (To.ret (To.thenR (To.blockR (To.thenR (To.thenR (To.blockR (To.thenR ?_)))))))))
   refine To.nilRow (Ins.rcells) 61 4 ?_
   refine To.endCTT [0] rfl (.inl rfl) Tryz.results11 rfl (i := 4) rfl r28 rfl rfl rfl ?_
   have hR : readV p = ((0, 0, []), 0, 6) := readV_head (headV_2 hm1 (natV_no k33_2))
   rw [hR]
   exact ⟨none, 0, rfl, rfl⟩
  refine To.skip (To.thenN (To.seq (To.reg (To.m ?_))))
  refine To.m ?_
  refine To.mk rfl rfl rfl (Mk.sliceN (us := [.int .u64 ((uV (uintV (p.drop a1)) : Nat) : Int)]) rfl s79 rfl rfl rfl rfl rfl rfl) ?_
  rintro _ _ ⟨b37_2, rfl, rfl⟩
  refine To.ge rfl rfl rfl (Ge.append1 encU_ok (i := 3) (j := 0) (el := (uV (uintV (p.drop a1)))) rfl s79 rfl rfl rfl rfl rfl (by first | omega | (simp only [List.length_append, List.length_cons, List.length_nil]; omega)) (by first | omega | (simp only [List.length_append, List.length_cons, List.length_nil]; omega))) ?_
  rintro _ _ ⟨A38_2, q38_2, rfl, rfl⟩
  refine To.a (To.nil (To.thenN (To.reg ?_)))
  refine To.m ?_
  refine To.m ?_
  refine To.r (Rd.addN (a := a1) (b := (uL (uintV (p.drop a1)))) rfl rfl rfl (by omega)) ?_
  refine To.a (To.nil (To.blockN (To.thenN ?_)))
  obtain ⟨a2, ha2⟩ : ∃ z0, z0 = a1 + (uL (uintV (p.drop a1))) := ⟨_, rfl⟩
  rw [← ha2]
  have hm2 : natV (p.drop a1) = some (uV (uintV (p.drop a1)), p.drop a2) := natV_at (Decidable.not_not.1 k33_2) ha2
  have hp2 : a2 ≤ p.length := by omega
  refine To.only [0, 1, 1, 1, 1] rfl ?_
  refine To.reg (To.m ?_)
  refine To.r (Rd.as (v' := .int .i64 (2)) rfl (Rd.add64 (m := 1) (n := 1) rfl rfl rfl (by decide))) ?_
  refine To.a (To.nil (To.thenN ?_))
  refine To.roundS ?_
  refine To.seq (To.seq (To.reg (To.m ?_)))
  refine To.r (Rd.lss rfl rfl rfl) ?_
  refine To.nil (To.thenN ?_)
  refine To.condT rfl ?_
  refine To.skip (To.thenN (To.seq (To.block (To.seq ?_))))
  refine To.tailR encY_ok q a2 4 rfl hc (by omega) ?_
  have hul2 := (uV_lt (p.drop a2)).2
  rw [List.length_drop] at hul2
  refine To.reg (To.m ?_)
  refine To.m ?_
  refine To.r (Rd.as (v' := .slice (slAt A q a2 1) (p.drop a2).length (q - a2)) (congrArg (fun z => Value.slice (slAt A q a2 1) z (q - a2)) (List.length_drop).symm) (Rd.sliceLo (lo := a2) rfl s38 rfl rfl (by omega))) ?_
  refine To.callV rfl rfl rfl (Ent.fn rfl rfl ca28) (ruint_fn (slAt A q a2 1) (q - a2) (p.drop a2) (hok.drop a2).1 (hok.drop a2).2) rfl (oks_cons (oks_at 0 rfl) (oks_nil _)) ?_
  refine To.m ?_
  refine To.r (Rd.extract rfl rfl rfl) ?_
  refine To.r (Rd.extract rfl rfl rfl) ?_
  refine To.r (Rd.extract rfl rfl rfl) ?_
  refine To.a ?_
  refine To.a ?_
  refine To.a (To.nil (To.thenN (To.seq (To.seq (To.reg ?_)))))
  refine To.m ?_
  refine To.r (Rd.neq rfl rfl rfl) ?_
  refine To.nil (To.thenN ?_)
  refine To.condP rfl (fun k33_3 => ?_) (fun k33_3 => ?_)
  ·
   refine To.seq (To.reg ?_)
   refine To.r (Rd.build (vs := []) (cells := [.int .i64 0, .int .i64 0, .slice none 0 0]) rfl rfl rfl (by kernel_rfl)) ?_
   refine To.u (Up.storeS (i := 4) rfl rfl rfl r28 rfl rfl rfl (box_takesAll rfl)) ?_
   refine To.a ?_
   refine To.a (To.nil (To.thenN (To.ret (To.thenR (To.blockR (To.thenR (To.thenR (To.blockR (To.thenR ?_)))))))))
   refine To.nilRow (Ins.rcells) 61 4 ?_
   refine To.endCTT [0] rfl (.inl rfl) Tryz.results11 rfl (i := 5) rfl r28 rfl rfl rfl ?_
   have hR : readV p = ((0, 0, []), 0, 6) := readV_head (headV_3 hm1 hm2 (natV_no k33_3))
   rw [hR]
   exact ⟨none, 0, rfl, rfl⟩
  refine To.skip (To.thenN (To.seq (To.reg (To.m ?_))))
  refine To.m ?_
  refine To.mk rfl rfl rfl (Mk.sliceN (us := [.int .u64 ((uV (uintV (p.drop a2)) : Nat) : Int)]) rfl s79 rfl rfl rfl rfl rfl rfl) ?_
  rintro _ _ ⟨b37_3, rfl, rfl⟩
  refine To.ge rfl rfl rfl (Ge.append1 encU_ok (i := 4) (j := 0) (el := (uV (uintV (p.drop a2)))) rfl s79 rfl rfl rfl rfl rfl (by first | omega | (simp only [List.length_append, List.length_cons, List.length_nil]; omega)) (by first | omega | (simp only [List.length_append, List.length_cons, List.length_nil]; omega))) ?_
  rintro _ _ ⟨A38_3, q38_3, rfl, rfl⟩
  refine To.a (To.nil (To.thenN (To.reg ?_)))
  refine To.m ?_
  refine To.m ?_
  refine To.r (Rd.addN (a := a2) (b := (uL (uintV (p.drop a2)))) rfl rfl rfl (by omega)) ?_
  refine To.a (To.nil (To.blockN (To.thenN ?_)))
  obtain ⟨a3, ha3⟩ : ∃ z0, z0 = a2 + (uL (uintV (p.drop a2))) := ⟨_, rfl⟩
  rw [← ha3]
  have hm3 : natV (p.drop a2) = some (uV (uintV (p.drop a2)), p.drop a3) := natV_at (Decidable.not_not.1 k33_3) ha3
  have hp3 : a3 ≤ p.length := by omega
  refine To.only [0, 1, 1, 1, 1, 1] rfl ?_
  refine To.reg (To.m ?_)
  refine To.r (Rd.as (v' := .int .i64 (3)) rfl (Rd.add64 (m := 2) (n := 1) rfl rfl rfl (by decide))) ?_
  refine To.a (To.nil (To.thenN ?_))
  refine To.roundS ?_
  refine To.seq (To.seq (To.reg (To.m ?_)))
  refine To.r (Rd.lss rfl rfl rfl) ?_
  refine To.nil (To.thenN ?_)
  refine To.condF rfl ?_
  refine To.exit (To.thenX (To.thenX (To.blockX (To.thenN (To.seq (To.seq ?_))))))
  obtain ⟨v1, hv1⟩ : ∃ z0, z0 = uV (uintV (p.drop 0)) := ⟨_, rfl⟩
  rw [← hv1]
  rw [← hv1] at hm1
  obtain ⟨v2, hv2⟩ : ∃ z0, z0 = uV (uintV (p.drop a1)) := ⟨_, rfl⟩
  rw [← hv2]
  rw [← hv2] at hm2
  obtain ⟨v3, hv3⟩ : ∃ z0, z0 = uV (uintV (p.drop a2)) := ⟨_, rfl⟩
  rw [← hv3]
  rw [← hv3] at hm3
  have hv1b : v1 < 18446744073709551616 := by rw [hv1]; exact (uV_lt _).1
  have hv2b : v2 < 18446744073709551616 := by rw [hv2]; exact (uV_lt _).1
  have hv3b : v3 < 18446744073709551616 := by rw [hv3]; exact (uV_lt _).1
  obtain ⟨hs, hhs⟩ : ∃ z0, z0 = (([] : List Nat) ++ [(v1)] ++ [(v2)] ++ [(v3)]) := ⟨_, rfl⟩
  rw [← hhs]
  have hi0 : hs[0]? = some v1 := by rw [hhs]; rfl
  have hi1 : hs[1]? = some v2 := by rw [hhs]; rfl
  have hi2 : hs[2]? = some v3 := by rw [hhs]; rfl
  have hH : headV p = some (v1, v2, v3, p.drop a3) := headV_4 hm1 hm2 hm3
  refine To.reg ?_
  refine To.meet (T := Bool) (fun t => ([(0, .slice A p.length q), (2, .pointer (some ⟨b2, 0, none⟩)), (5, .int .i64 ((a3 : Nat) : Int)), (6, .slice A38_3 hs.length q38_3), (57, .bool t)], [row 72 1 (some ⟨b37_3, 0, none⟩) 1 1 [.int .u64 ((v3 : Nat) : Int)], row 72 1 (some ⟨b37_2, 0, none⟩) 1 1 [.int .u64 ((v2 : Nat) : Int)], row 72 1 (some ⟨b37, 0, none⟩) 1 1 [.int .u64 ((v1 : Nat) : Int)], rows encU 72 1 A38_3 q38_3 hs, box b2 [.int .i64 0, .int .i64 0, .slice none 0 0] 28, ros encY A p])) (fun t => t = (((decide (255 < ((v1 : Nat) : Int))) || decide (255 < ((v2 : Nat) : Int))) || decide (4000 < ((v3 : Nat) : Int)))) ?_ (fun t ht => ?_)
  ·
   refine To.m ?_
   refine To.r (Rd.indexRows (i := 3) (j := 0) rfl rfl rfl s79 rfl hi0) ?_
   refine To.r (Rd.load (i := 3) rfl rfl c72 rfl (gives_1 (rows_gives encU_ok hi0) rfl)) ?_
   refine To.r (Rd.gtr rfl rfl rfl) ?_
   refine To.rdP rfl rfl rfl (Rd.move rfl rfl) (fun g46 => ?_) (fun g46 => ?_)
   ·
    refine To.k ?_
    refine To.k ?_
    refine To.k ?_
    refine To.k ?_
    refine To.r (Rd.pickT rfl rfl rfl) ?_
    refine To.m ?_
    refine To.k ?_
    refine To.k ?_
    refine To.k ?_
    refine To.k ?_
    refine To.r (Rd.pickT rfl rfl rfl) ?_
    refine To.nil (To.thenN ?_)
    refine To.only [0, 0, 0, 0, 0, 0] rfl ?_
    refine To.here true (by first | (simp [g46]; done) | (simp [g46]; omega)) ⟨rfl, rfl, rfl, rfl, rfl, trivial⟩ rfl
   refine To.m ?_
   refine To.r (Rd.indexRows (i := 3) (j := 1) rfl rfl rfl s79 rfl hi1) ?_
   refine To.r (Rd.load (i := 3) rfl rfl c72 rfl (gives_1 (rows_gives encU_ok hi1) rfl)) ?_
   refine To.r (Rd.gtr rfl rfl rfl) ?_
   refine To.r (Rd.pickF rfl rfl rfl) ?_
   refine To.rdP rfl rfl rfl (Rd.move rfl rfl) (fun g52 => ?_) (fun g52 => ?_)
   ·
    refine To.k ?_
    refine To.k ?_
    refine To.k ?_
    refine To.k ?_
    refine To.r (Rd.pickT rfl rfl rfl) ?_
    refine To.nil (To.thenN ?_)
    refine To.only [0, 0, 0, 0, 0, 0] rfl ?_
    refine To.here true (by first | (simp [g46, g52]; done) | (simp [g46, g52]; omega)) ⟨rfl, rfl, rfl, rfl, rfl, trivial⟩ rfl
   refine To.m ?_
   refine To.r (Rd.indexRows (i := 3) (j := 2) rfl rfl rfl s79 rfl hi2) ?_
   refine To.r (Rd.load (i := 3) rfl rfl c72 rfl (gives_1 (rows_gives encU_ok hi2) rfl)) ?_
   refine To.r (Rd.gtr rfl rfl rfl) ?_
   refine To.r (Rd.pickF rfl rfl rfl) ?_
   refine To.nil (To.thenN ?_)
   refine To.only [0, 0, 0, 0, 0, 0] rfl ?_
   refine To.here (decide (4000 < ((v3 : Nat) : Int))) (by first | (simp [g46, g52]; done) | (simp [g46, g52]; omega)) ⟨rfl, rfl, rfl, rfl, rfl, trivial⟩ rfl
  subst ht
  show To _ [(0, .slice A p.length q), (2, .pointer (some ⟨b2, 0, none⟩)), (5, .int .i64 ((a3 : Nat) : Int)), (6, .slice A38_3 hs.length q38_3), (57, .bool (((decide (255 < ((v1 : Nat) : Int))) || decide (255 < ((v2 : Nat) : Int))) || decide (4000 < ((v3 : Nat) : Int))))] [row 72 1 (some ⟨b37_3, 0, none⟩) 1 1 [.int .u64 ((v3 : Nat) : Int)], row 72 1 (some ⟨b37_2, 0, none⟩) 1 1 [.int .u64 ((v2 : Nat) : Int)], row 72 1 (some ⟨b37, 0, none⟩) 1 1 [.int .u64 ((v1 : Nat) : Int)], rows encU 72 1 A38_3 q38_3 hs, box b2 [.int .i64 0, .int .i64 0, .slice none 0 0] 28, ros encY A p] _
  refine To.cond rfl (fun k57 => ?_) (fun k57 => ?_)
  ·
   refine To.seq (To.reg ?_)
   refine To.r (Rd.build (vs := []) (cells := [.int .i64 0, .int .i64 0, .slice none 0 0]) rfl rfl rfl (by kernel_rfl)) ?_
   refine To.u (Up.storeS (i := 4) rfl rfl rfl r28 rfl rfl rfl (box_takesAll rfl)) ?_
   refine To.a ?_
   refine To.a (To.nil (To.thenN (To.ret (To.thenR ?_))))
   refine To.nilRow (Ins.rcells) 61 4 ?_
   refine To.endCTT [0] rfl (.inl rfl) Tryz.results11 rfl (i := 5) rfl r28 rfl rfl rfl ?_
   simp only [Bool.or_eq_false_iff, Bool.or_eq_true, decide_eq_true_eq, decide_eq_false_iff_not] at k57
   have hR : readV p = ((0, 0, []), 0, 3) := readV_limit hH (by omega)
   rw [hR]
   exact ⟨none, 0, rfl, rfl⟩
  simp only [Bool.or_eq_false_iff, Bool.or_eq_true, decide_eq_true_eq, decide_eq_false_iff_not] at k57
  refine To.skip (To.thenN (To.seq ?_))
  refine To.flow [rows encU 72 1 A38_3 q38_3 hs] [⟨0, [], 0⟩, ⟨4, [], 0⟩, ⟨1, [], 1⟩, ⟨2, [], 0⟩, ⟨3, [], 0⟩, ⟨5, [], 1⟩, ⟨6, [], 0⟩, ⟨7, [], 0⟩, ⟨8, [], 0⟩, ⟨9, [], 2⟩, ⟨10, [9], 5⟩] mixed (by kernel_rfl) (oks_cons (oks_at 3 rfl) (oks_nil _)) ?_
  refine FlowS.mo ?_
  refine FlowS.mo ?_
  refine FlowS.r rfl (Rd.indexRows (i := 3) (j := 0) rfl rfl rfl s79 rfl hi0) ?_
  refine FlowS.f rfl (Rd.load (i := 0) rfl rfl c72 rfl (gives_1 (rows_gives encU_ok hi0) rfl)) ?_
  refine FlowS.f rfl (Rd.conv rfl rfl Tryz.underlying72 Tryz.underlying3 (IntWalk.i64_in _ (by omega))) ?_
  refine FlowS.r rfl (Rd.indexRows (i := 3) (j := 1) rfl rfl rfl s79 rfl hi1) ?_
  refine FlowS.f rfl (Rd.load (i := 0) rfl rfl c72 rfl (gives_1 (rows_gives encU_ok hi1) rfl)) ?_
  refine FlowS.f rfl (Rd.conv rfl rfl Tryz.underlying72 Tryz.underlying3 (IntWalk.i64_in _ (by omega))) ?_
  refine FlowS.f rfl (Rd.build (vs := [(0, .int .i64 ((v1 : Nat) : Int)), (1, .int .i64 ((v2 : Nat) : Int))]) (cells := [.int .i64 ((v1 : Nat) : Int), .int .i64 ((v2 : Nat) : Int), .slice none 0 0]) rfl rfl rfl (by kernel_rfl)) ?_
  refine FlowS.mk rfl rfl rfl rfl rfl (Mk.alloc rfl z28) ?_
  rintro _ _ ⟨b11, rfl, rfl⟩
  refine FlowS.up rfl rfl rfl (Up.storeS (i := 0) rfl rfl rfl r28 rfl rfl rfl (box_takesAll rfl)) (oks_cons (oks_at 4 rfl) (oks_nil _)) ?_
  refine FlowS.fin ?_
  refine To.thenN (To.seq (To.seq (To.reg (To.a (To.nil (To.thenN (To.block ?_)))))))
  refine To.nilRow (Ins.rcells) 61 4 ?_
  refine To.sub [(0, .slice A p.length q), (2, .pointer (some ⟨b2, 0, none⟩)), (5, .int .i64 ((a3 : Nat) : Int)), (6, .slice A38_3 hs.length q38_3), (11, .pointer (some ⟨b11, 0, none⟩)), (12, .int .u64 ((0 : Nat) : Int))] ⟨rfl, rfl, rfl, rfl, rfl, rfl, trivial⟩ ?_
  refine To.only [6, 1, 5, 4, 0] rfl ?_
  refine To.loop (fun mz ρ Γ => ∃ (a : Nat) (Ao : Option Addr) (qo : Nat) (O : List Ins) (k : Nat), ρ = [(0, .slice A p.length q), (2, .pointer (some ⟨b2, 0, none⟩)), (5, .int .i64 ((a : Nat) : Int)), (6, .slice A38_3 hs.length q38_3), (11, .pointer (some ⟨b11, 0, none⟩)), (12, .int .u64 ((k : Nat) : Int))] ∧ Γ = [box b2 [.int .i64 0, .int .i64 0, .slice none 0 0] 28, box b11 [.int .i64 ((v1 : Nat) : Int), .int .i64 ((v2 : Nat) : Int), .slice Ao O.length qo] 28, ros encY A p, rows encU 72 1 A38_3 q38_3 hs, rows Ins.rcells 61 4 Ao qo O] ∧ mz = v3 - k ∧ (k ≤ v3) ∧ (a ≤ p.length) ∧ (O.length ≤ k) ∧ (instrsV v3 (p.drop a3) = (instrsV (v3 - k) (p.drop a)).map fun y => (O ++ y.1, y.2))) (v3 - 0) ⟨a3, none, 0, ([] : List Ins), 0, rfl, rfl, rfl, (Nat.zero_le _), hp3, (Nat.le_refl _), (by rw [Nat.sub_zero]; cases instrsV v3 (p.drop a3) <;> rfl)⟩ ?_
  rintro mz _ _ ⟨a, Ao, qo, O, k, rfl, rfl, rfl, hk, hap, hOl, hI⟩
  refine To.seq (To.seq (To.reg (To.m ?_)))
  refine To.m ?_
  refine To.r (Rd.indexRows (i := 3) (j := 2) rfl rfl rfl s79 rfl hi2) ?_
  refine To.r (Rd.load (i := 3) rfl rfl c72 rfl (gives_1 (rows_gives encU_ok hi2) rfl)) ?_
  refine To.r (Rd.lss rfl rfl rfl) ?_
  refine To.nil (To.thenN ?_)
  refine To.condP rfl (fun k72 => ?_) (fun k72 => ?_)
  ·
   refine To.skip (To.thenN (To.seq (To.block (To.seq (To.seq (To.reg (To.m ?_)))))))
   refine To.m ?_
   refine To.r (Rd.len rfl rfl Tryz.underlying38) ?_
   refine To.r (Rd.eql rfl rfl rfl) ?_
   refine To.rdP rfl rfl rfl (Rd.move rfl rfl) (fun g79 => ?_) (fun g79 => ?_)
   ·
    refine To.k ?_
    refine To.k ?_
    refine To.k ?_
    refine To.k ?_
    refine To.k ?_
    refine To.r (Rd.pickT rfl rfl rfl) ?_
    refine To.m ?_
    refine To.k ?_
    refine To.k ?_
    refine To.k ?_
    refine To.k ?_
    refine To.k ?_
    refine To.r (Rd.pickT rfl rfl rfl) ?_
    refine To.nil (To.thenN ?_)
    refine To.condT rfl ?_
    refine To.seq (To.reg ?_)
    refine To.r (Rd.build (vs := []) (cells := [.int .i64 0, .int .i64 0, .slice none 0 0]) rfl rfl rfl (by kernel_rfl)) ?_
    refine To.u (Up.storeS (i := 0) rfl rfl rfl r28 rfl rfl rfl (box_takesAll rfl)) ?_
    refine To.a ?_
    refine To.a (To.nil (To.thenN (To.ret (To.thenR (To.blockR (To.thenR (To.thenR (To.blockR (To.thenR ?_)))))))))
    refine To.nilRow (Ins.rcells) 61 4 ?_
    refine To.endCTT [0] rfl (.inl rfl) Tryz.results11 rfl (i := 1) rfl r28 rfl rfl rfl ?_
    have hR : readV p = ((0, 0, []), 0, 6) := readV_bad hH (by omega) (by
      rw [hI, show v3 - k = (v3 - (k + 1)) + 1 from by omega, instrs_bad (instrV_end (by omega))]; rfl)
    rw [hR]
    exact ⟨none, 0, rfl, rfl⟩
   obtain ⟨o, ho⟩ : ∃ z0, p[a]? = some z0 := ⟨p[a]'(by omega), List.getElem?_eq_getElem _⟩
   have hob := hok.2 o (List.mem_of_getElem? ho)
   refine To.m ?_
   refine To.m ?_
   refine To.r (Rd.indexRos encY_ok (i := 2) (j := a) rfl rfl rfl s38 rfl ho) ?_
   refine To.r (Rd.load (i := 2) rfl rfl c5 rfl (gives_1 (ros_gives encY_ok ho) rfl)) ?_
   refine To.r (Rd.lss rfl rfl rfl) ?_
   refine To.r (Rd.pickF rfl rfl rfl) ?_
   refine To.rdP rfl rfl rfl (Rd.move rfl rfl) (fun g86 => ?_) (fun g86 => ?_)
   ·
    refine To.k ?_
    refine To.k ?_
    refine To.k ?_
    refine To.k ?_
    refine To.k ?_
    refine To.r (Rd.pickT rfl rfl rfl) ?_
    refine To.nil (To.thenN ?_)
    refine To.condT rfl ?_
    refine To.seq (To.reg ?_)
    refine To.r (Rd.build (vs := []) (cells := [.int .i64 0, .int .i64 0, .slice none 0 0]) rfl rfl rfl (by kernel_rfl)) ?_
    refine To.u (Up.storeS (i := 0) rfl rfl rfl r28 rfl rfl rfl (box_takesAll rfl)) ?_
    refine To.a ?_
    refine To.a (To.nil (To.thenN (To.ret (To.thenR (To.blockR (To.thenR (To.thenR (To.blockR (To.thenR ?_)))))))))
    refine To.nilRow (Ins.rcells) 61 4 ?_
    refine To.endCTT [0] rfl (.inl rfl) Tryz.results11 rfl (i := 1) rfl r28 rfl rfl rfl ?_
    have hR : readV p = ((0, 0, []), 0, 6) := readV_bad hH (by omega) (by
      rw [hI, show v3 - k = (v3 - (k + 1)) + 1 from by omega, instrs_bad (instrV_op ho (by omega))]; rfl)
    rw [hR]
    exact ⟨none, 0, rfl, rfl⟩
   refine To.m ?_
   refine To.m ?_
   refine To.r (Rd.indexRos encY_ok (i := 2) (j := a) rfl rfl rfl s38 rfl ho) ?_
   refine To.r (Rd.load (i := 2) rfl rfl c5 rfl (gives_1 (ros_gives encY_ok ho) rfl)) ?_
   refine To.r (Rd.gtr rfl rfl rfl) ?_
   refine To.r (Rd.pickF rfl rfl rfl) ?_
   refine To.nil (To.thenN ?_)
   refine To.condP rfl (fun k92 => ?_) (fun k92 => ?_)
   ·
    refine To.seq (To.reg ?_)
    refine To.r (Rd.build (vs := []) (cells := [.int .i64 0, .int .i64 0, .slice none 0 0]) rfl rfl rfl (by kernel_rfl)) ?_
    refine To.u (Up.storeS (i := 0) rfl rfl rfl r28 rfl rfl rfl (box_takesAll rfl)) ?_
    refine To.a ?_
    refine To.a (To.nil (To.thenN (To.ret (To.thenR (To.blockR (To.thenR (To.thenR (To.blockR (To.thenR ?_)))))))))
    refine To.nilRow (Ins.rcells) 61 4 ?_
    refine To.endCTT [0] rfl (.inl rfl) Tryz.results11 rfl (i := 1) rfl r28 rfl rfl rfl ?_
    have hR : readV p = ((0, 0, []), 0, 6) := readV_bad hH (by omega) (by
      rw [hI, show v3 - k = (v3 - (k + 1)) + 1 from by omega, instrs_bad (instrV_op ho (by omega))]; rfl)
    rw [hR]
    exact ⟨none, 0, rfl, rfl⟩
   refine To.skip (To.thenN (To.seq ?_))
   have hor : ¬ (o < 1 ∨ 34 < o) := by omega
   refine To.reg (To.m ?_)
   refine To.m ?_
   refine To.r (Rd.indexRos encY_ok (i := 2) (j := a) rfl rfl rfl s38 rfl ho) ?_
   refine To.r (Rd.load (i := 2) rfl rfl c5 rfl (gives_1 (ros_gives encY_ok ho) rfl)) ?_
   refine To.r (Rd.conv rfl rfl Tryz.underlying5 Tryz.underlying3 (IntWalk.i64_in _ (by omega))) ?_
   refine To.r (Rd.build (vs := [(0, .int .i64 ((o : Nat) : Int))]) (cells := [.int .i64 ((o : Nat) : Int), .int .i64 0, .int .i64 0, .int .i64 0]) rfl rfl rfl (by kernel_rfl)) ?_
   refine To.alloc rfl rfl rfl rfl z61 (fun b13 => ?_)
   refine To.u (Up.storeS (i := 0) rfl rfl rfl r61 rfl rfl rfl (box_takesAll rfl)) ?_
   refine To.nil (To.thenN (To.seq (To.reg (To.m ?_))))
   refine To.r (Rd.inc rfl rfl rfl (by omega)) ?_
   refine To.a (To.nil (To.thenN (To.seq (To.seq (To.reg ?_)))))
   refine To.a (To.nil (To.thenN (To.block ?_)))
   refine To.rounds 4 ?_
   refine To.roundS ?_
   refine To.seq (To.seq (To.reg (To.m ?_)))
   refine To.r (Rd.lss rfl rfl rfl) ?_
   refine To.nil (To.thenN ?_)
   refine To.condT rfl ?_
   refine To.skip (To.thenN (To.seq (To.block (To.seq ?_))))
   refine To.tailR encY_ok q (a + 1) 3 rfl hc (by omega) ?_
   have hul3 := (uV_lt (p.drop (a + 1))).2
   rw [List.length_drop] at hul3
   refine To.reg (To.m ?_)
   refine To.m ?_
   refine To.r (Rd.as (v' := .slice (slAt A q (a + 1) 1) (p.drop (a + 1)).length (q - (a + 1))) (congrArg (fun z => Value.slice (slAt A q (a + 1) 1) z (q - (a + 1))) (List.length_drop).symm) (Rd.sliceLo (lo := (a + 1)) rfl s38 rfl rfl (by omega))) ?_
   refine To.callV rfl rfl rfl (Ent.fn rfl rfl ca28) (ruint_fn (slAt A q (a + 1) 1) (q - (a + 1)) (p.drop (a + 1)) (hok.drop (a + 1)).1 (hok.drop (a + 1)).2) rfl (oks_cons (oks_at 0 rfl) (oks_nil _)) ?_
   refine To.m ?_
   refine To.r (Rd.extract rfl rfl rfl) ?_
   refine To.r (Rd.extract rfl rfl rfl) ?_
   refine To.r (Rd.extract rfl rfl rfl) ?_
   refine To.a ?_
   refine To.a ?_
   refine To.a (To.nil (To.thenN (To.seq (To.seq (To.reg ?_)))))
   refine To.m ?_
   refine To.r (Rd.neq rfl rfl rfl) ?_
   refine To.nil (To.thenN ?_)
   refine To.condP rfl (fun k115 => ?_) (fun k115 => ?_)
   ·
    refine To.seq (To.reg ?_)
    refine To.r (Rd.build (vs := []) (cells := [.int .i64 0, .int .i64 0, .slice none 0 0]) rfl rfl rfl (by kernel_rfl)) ?_
    refine To.u (Up.storeS (i := 2) rfl rfl rfl r28 rfl rfl rfl (box_takesAll rfl)) ?_
    refine To.a ?_
    refine To.a (To.nil (To.thenN (To.ret (To.thenR (To.blockR (To.thenR (To.thenR (To.blockR (To.thenR (To.blockR (To.thenR (To.thenR (To.blockR ?_)))))))))))))
    refine To.thenR ?_
    refine To.nilRow (Ins.rcells) 61 4 ?_
    refine To.endCTT [0] rfl (.inl rfl) Tryz.results11 rfl (i := 3) rfl r28 rfl rfl rfl ?_
    have hR : readV p = ((0, 0, []), 0, 6) := readV_bad hH (by omega) (by
      rw [hI, show v3 - k = (v3 - (k + 1)) + 1 from by omega, instrs_bad (instrV_1 ho hor (smallV_no k115))]; rfl)
    rw [hR]
    exact ⟨none, 0, rfl, rfl⟩
   refine To.skip (To.thenN (To.seq (To.reg (To.m ?_))))
   refine To.m ?_
   refine To.r (Rd.addN (a := (a + 1)) (b := (uL (uintV (p.drop (a + 1))))) rfl rfl rfl (by omega)) ?_
   refine To.a (To.nil (To.thenN (To.seq (To.reg ?_))))
   refine To.m ?_
   refine To.callV rfl rfl rfl (Ent.fn rfl rfl ca29) (rzz_fn (uV (uintV (p.drop (a + 1)))) (uV_lt (p.drop (a + 1))).1) rfl (oks_nil _) ?_
   refine To.a (To.nil (To.thenN (To.seq (To.seq (To.reg ?_)))))
   refine To.m ?_
   refine To.r (Rd.lss rfl rfl rfl) ?_
   refine To.m ?_
   refine To.m ?_
   refine To.r (Rd.lss rfl rfl rfl) ?_
   refine To.rdP rfl rfl rfl (Rd.move rfl rfl) (fun g127 => ?_) (fun g127 => ?_)
   ·
    refine To.k ?_
    refine To.k ?_
    refine To.r (Rd.pickT rfl rfl rfl) ?_
    refine To.r (Rd.pickT rfl rfl rfl) ?_
    refine To.nil (To.thenN ?_)
    refine To.condT rfl ?_
    refine To.seq (To.reg ?_)
    refine To.r (Rd.build (vs := []) (cells := [.int .i64 0, .int .i64 0, .slice none 0 0]) rfl rfl rfl (by kernel_rfl)) ?_
    refine To.u (Up.storeS (i := 2) rfl rfl rfl r28 rfl rfl rfl (box_takesAll rfl)) ?_
    refine To.a ?_
    refine To.a (To.nil (To.thenN (To.ret (To.thenR (To.blockR (To.thenR (To.thenR (To.blockR (To.thenR (To.blockR (To.thenR (To.thenR (To.blockR ?_)))))))))))))
    refine To.thenR ?_
    refine To.nilRow (Ins.rcells) 61 4 ?_
    refine To.endCTT [0] rfl (.inl rfl) Tryz.results11 rfl (i := 3) rfl r28 rfl rfl rfl ?_
    have hR : readV p = ((0, 0, []), 0, 6) := readV_bad hH (by omega) (by
      rw [hI, show v3 - k = (v3 - (k + 1)) + 1 from by omega, instrs_bad (instrV_1 ho hor (smallV_far (Decidable.not_not.1 k115) (by simp only [LO, HI]; omega)))]; rfl)
    rw [hR]
    exact ⟨none, 0, rfl, rfl⟩
   refine To.m ?_
   refine To.r (Rd.gtr rfl rfl rfl) ?_
   refine To.r (Rd.pickF rfl rfl rfl) ?_
   refine To.r (Rd.pickT rfl rfl rfl) ?_
   refine To.nil (To.thenN ?_)
   refine To.condP rfl (fun k131 => ?_) (fun k131 => ?_)
   ·
    refine To.seq (To.reg ?_)
    refine To.r (Rd.build (vs := []) (cells := [.int .i64 0, .int .i64 0, .slice none 0 0]) rfl rfl rfl (by kernel_rfl)) ?_
    refine To.u (Up.storeS (i := 2) rfl rfl rfl r28 rfl rfl rfl (box_takesAll rfl)) ?_
    refine To.a ?_
    refine To.a (To.nil (To.thenN (To.ret (To.thenR (To.blockR (To.thenR (To.thenR (To.blockR (To.thenR (To.blockR (To.thenR (To.thenR (To.blockR ?_)))))))))))))
    refine To.thenR ?_
    refine To.nilRow (Ins.rcells) 61 4 ?_
    refine To.endCTT [0] rfl (.inl rfl) Tryz.results11 rfl (i := 3) rfl r28 rfl rfl rfl ?_
    have hR : readV p = ((0, 0, []), 0, 6) := readV_bad hH (by omega) (by
      rw [hI, show v3 - k = (v3 - (k + 1)) + 1 from by omega, instrs_bad (instrV_1 ho hor (smallV_far (Decidable.not_not.1 k115) (by simp only [LO, HI]; omega)))]; rfl)
    rw [hR]
    exact ⟨none, 0, rfl, rfl⟩
   refine To.skip (To.thenN (To.seq (To.reg (To.m (To.nil (To.thenN (To.block (To.seq (To.reg ?_)))))))))
   refine To.r (Rd.eql rfl rfl rfl) ?_
   refine To.a (To.nil (To.thenN ?_))
   refine To.condT rfl ?_
   refine To.reg (To.m ?_)
   refine To.f fl61_1 ?_
   refine To.u (Up.store (i := 1) rfl rfl rfl c3 rfl rfl (box_takes1 rfl)) ?_
   refine To.nil (To.blockN (To.blockN (To.thenN ?_)))
   obtain ⟨b_1, hb_1⟩ : ∃ z0, z0 = (a + 1) + (uL (uintV (p.drop (a + 1)))) := ⟨_, rfl⟩
   rw [← hb_1]
   have hq1 : smallV (p.drop (a + 1)) = some (zzV (uV (uintV (p.drop (a + 1)))), p.drop b_1) := smallV_at (Decidable.not_not.1 k115) (by simp only [LO, HI]; omega) hb_1
   have hbp1 : b_1 ≤ p.length := by omega
   refine To.only [1, 1, 1, 1, 1, 1] rfl ?_
   refine To.reg (To.m ?_)
   refine To.r (Rd.as (v' := .int .i64 (1)) rfl (Rd.add64 (m := 0) (n := 1) rfl rfl rfl (by decide))) ?_
   refine To.a (To.nil (To.thenN ?_))
   refine To.roundS ?_
   refine To.seq (To.seq (To.reg (To.m ?_)))
   refine To.r (Rd.lss rfl rfl rfl) ?_
   refine To.nil (To.thenN ?_)
   refine To.condT rfl ?_
   refine To.skip (To.thenN (To.seq (To.block (To.seq ?_))))
   refine To.tailR encY_ok q b_1 3 rfl hc (by omega) ?_
   have hul4 := (uV_lt (p.drop b_1)).2
   rw [List.length_drop] at hul4
   refine To.reg (To.m ?_)
   refine To.m ?_
   refine To.r (Rd.as (v' := .slice (slAt A q b_1 1) (p.drop b_1).length (q - b_1)) (congrArg (fun z => Value.slice (slAt A q b_1 1) z (q - b_1)) (List.length_drop).symm) (Rd.sliceLo (lo := b_1) rfl s38 rfl rfl (by omega))) ?_
   refine To.callV rfl rfl rfl (Ent.fn rfl rfl ca28) (ruint_fn (slAt A q b_1 1) (q - b_1) (p.drop b_1) (hok.drop b_1).1 (hok.drop b_1).2) rfl (oks_cons (oks_at 0 rfl) (oks_nil _)) ?_
   refine To.m ?_
   refine To.r (Rd.extract rfl rfl rfl) ?_
   refine To.r (Rd.extract rfl rfl rfl) ?_
   refine To.r (Rd.extract rfl rfl rfl) ?_
   refine To.a ?_
   refine To.a ?_
   refine To.a (To.nil (To.thenN (To.seq (To.seq (To.reg ?_)))))
   refine To.m ?_
   refine To.r (Rd.neq rfl rfl rfl) ?_
   refine To.nil (To.thenN ?_)
   refine To.condP rfl (fun k115_2 => ?_) (fun k115_2 => ?_)
   ·
    refine To.seq (To.reg ?_)
    refine To.r (Rd.build (vs := []) (cells := [.int .i64 0, .int .i64 0, .slice none 0 0]) rfl rfl rfl (by kernel_rfl)) ?_
    refine To.u (Up.storeS (i := 2) rfl rfl rfl r28 rfl rfl rfl (box_takesAll rfl)) ?_
    refine To.a ?_
    refine To.a (To.nil (To.thenN (To.ret (To.thenR (To.blockR (To.thenR (To.thenR (To.blockR (To.thenR (To.blockR (To.thenR (To.thenR (To.blockR ?_)))))))))))))
    refine To.thenR ?_
    refine To.nilRow (Ins.rcells) 61 4 ?_
    refine To.endCTT [0] rfl (.inl rfl) Tryz.results11 rfl (i := 3) rfl r28 rfl rfl rfl ?_
    have hR : readV p = ((0, 0, []), 0, 6) := readV_bad hH (by omega) (by
      rw [hI, show v3 - k = (v3 - (k + 1)) + 1 from by omega, instrs_bad (instrV_2 ho hor hq1 (smallV_no k115_2))]; rfl)
    rw [hR]
    exact ⟨none, 0, rfl, rfl⟩
   refine To.skip (To.thenN (To.seq (To.reg (To.m ?_))))
   refine To.m ?_
   refine To.r (Rd.addN (a := b_1) (b := (uL (uintV (p.drop b_1)))) rfl rfl rfl (by omega)) ?_
   refine To.a (To.nil (To.thenN (To.seq (To.reg ?_))))
   refine To.m ?_
   refine To.callV rfl rfl rfl (Ent.fn rfl rfl ca29) (rzz_fn (uV (uintV (p.drop b_1))) (uV_lt (p.drop b_1)).1) rfl (oks_nil _) ?_
   refine To.a (To.nil (To.thenN (To.seq (To.seq (To.reg ?_)))))
   refine To.m ?_
   refine To.r (Rd.lss rfl rfl rfl) ?_
   refine To.m ?_
   refine To.m ?_
   refine To.r (Rd.lss rfl rfl rfl) ?_
   refine To.rdP rfl rfl rfl (Rd.move rfl rfl) (fun g127 => ?_) (fun g127 => ?_)
   ·
    refine To.k ?_
    refine To.k ?_
    refine To.r (Rd.pickT rfl rfl rfl) ?_
    refine To.r (Rd.pickT rfl rfl rfl) ?_
    refine To.nil (To.thenN ?_)
    refine To.condT rfl ?_
    refine To.seq (To.reg ?_)
    refine To.r (Rd.build (vs := []) (cells := [.int .i64 0, .int .i64 0, .slice none 0 0]) rfl rfl rfl (by kernel_rfl)) ?_
    refine To.u (Up.storeS (i := 2) rfl rfl rfl r28 rfl rfl rfl (box_takesAll rfl)) ?_
    refine To.a ?_
    refine To.a (To.nil (To.thenN (To.ret (To.thenR (To.blockR (To.thenR (To.thenR (To.blockR (To.thenR (To.blockR (To.thenR (To.thenR (To.blockR ?_)))))))))))))
    refine To.thenR ?_
    refine To.nilRow (Ins.rcells) 61 4 ?_
    refine To.endCTT [0] rfl (.inl rfl) Tryz.results11 rfl (i := 3) rfl r28 rfl rfl rfl ?_
    have hR : readV p = ((0, 0, []), 0, 6) := readV_bad hH (by omega) (by
      rw [hI, show v3 - k = (v3 - (k + 1)) + 1 from by omega, instrs_bad (instrV_2 ho hor hq1 (smallV_far (Decidable.not_not.1 k115_2) (by simp only [LO, HI]; omega)))]; rfl)
    rw [hR]
    exact ⟨none, 0, rfl, rfl⟩
   refine To.m ?_
   refine To.r (Rd.gtr rfl rfl rfl) ?_
   refine To.r (Rd.pickF rfl rfl rfl) ?_
   refine To.r (Rd.pickT rfl rfl rfl) ?_
   refine To.nil (To.thenN ?_)
   refine To.condP rfl (fun k131_2 => ?_) (fun k131_2 => ?_)
   ·
    refine To.seq (To.reg ?_)
    refine To.r (Rd.build (vs := []) (cells := [.int .i64 0, .int .i64 0, .slice none 0 0]) rfl rfl rfl (by kernel_rfl)) ?_
    refine To.u (Up.storeS (i := 2) rfl rfl rfl r28 rfl rfl rfl (box_takesAll rfl)) ?_
    refine To.a ?_
    refine To.a (To.nil (To.thenN (To.ret (To.thenR (To.blockR (To.thenR (To.thenR (To.blockR (To.thenR (To.blockR (To.thenR (To.thenR (To.blockR ?_)))))))))))))
    refine To.thenR ?_
    refine To.nilRow (Ins.rcells) 61 4 ?_
    refine To.endCTT [0] rfl (.inl rfl) Tryz.results11 rfl (i := 3) rfl r28 rfl rfl rfl ?_
    have hR : readV p = ((0, 0, []), 0, 6) := readV_bad hH (by omega) (by
      rw [hI, show v3 - k = (v3 - (k + 1)) + 1 from by omega, instrs_bad (instrV_2 ho hor hq1 (smallV_far (Decidable.not_not.1 k115_2) (by simp only [LO, HI]; omega)))]; rfl)
    rw [hR]
    exact ⟨none, 0, rfl, rfl⟩
   refine To.skip (To.thenN (To.seq (To.reg (To.m (To.nil (To.thenN (To.block (To.seq (To.reg ?_)))))))))
   refine To.r (Rd.eql rfl rfl rfl) ?_
   refine To.a (To.nil (To.thenN ?_))
   refine To.condF rfl ?_
   refine To.seq (To.reg ?_)
   refine To.r (Rd.eql rfl rfl rfl) ?_
   refine To.a (To.nil (To.thenN ?_))
   refine To.condT rfl ?_
   refine To.reg (To.m ?_)
   refine To.f fl61_2 ?_
   refine To.u (Up.store (i := 1) rfl rfl rfl c3 rfl rfl (box_takes1 rfl)) ?_
   refine To.nil ?_
   refine To.sub [(0, .slice A p.length q), (2, .pointer (some ⟨b2, 0, none⟩)), (5, .int .i64 ((b_1 + (uL (uintV (p.drop b_1))) : Nat) : Int)), (6, .slice A38_3 hs.length q38_3), (11, .pointer (some ⟨b11, 0, none⟩)), (12, .int .u64 ((k : Nat) : Int)), (72, .bool (decide (((k : Nat) : Int) < ((v3 : Nat) : Int)))), (92, .bool (decide (34 < ((o : Nat) : Int)))), (13, .pointer (some ⟨b13, 0, none⟩)), (14, .int .i64 1), (103, .bool true), (15, .int .u64 ((uV (uintV (p.drop b_1)) : Nat) : Int)), (16, .int .i64 ((uL (uintV (p.drop b_1)) : Nat) : Int)), (17, .int .i64 (uE (uintV (p.drop b_1)))), (115, .bool (decide ((uE (uintV (p.drop b_1))) ≠ 0))), (18, .int .i64 (zzV (uV (uintV (p.drop b_1))))), (131, .bool (decide (2147483647 < (zzV (uV (uintV (p.drop b_1))))))), (133, .int .i64 1), (134, .bool false), (138, .bool true)] ⟨rfl, rfl, rfl, rfl, rfl, rfl, rfl, rfl, rfl, rfl, rfl, rfl, rfl, rfl, rfl, rfl, rfl, rfl, rfl, rfl, trivial⟩ ?_
   refine To.blockN (To.blockN (To.thenN ?_))
   obtain ⟨b_2, hb_2⟩ : ∃ z0, z0 = b_1 + (uL (uintV (p.drop b_1))) := ⟨_, rfl⟩
   rw [← hb_2]
   have hq2 : smallV (p.drop b_1) = some (zzV (uV (uintV (p.drop b_1))), p.drop b_2) := smallV_at (Decidable.not_not.1 k115_2) (by simp only [LO, HI]; omega) hb_2
   have hbp2 : b_2 ≤ p.length := by omega
   refine To.only [1, 1, 1, 1, 1, 1] rfl ?_
   refine To.reg (To.m ?_)
   refine To.r (Rd.as (v' := .int .i64 (2)) rfl (Rd.add64 (m := 1) (n := 1) rfl rfl rfl (by decide))) ?_
   refine To.a (To.nil (To.thenN ?_))
   refine To.roundS ?_
   refine To.seq (To.seq (To.reg (To.m ?_)))
   refine To.r (Rd.lss rfl rfl rfl) ?_
   refine To.nil (To.thenN ?_)
   refine To.condT rfl ?_
   refine To.skip (To.thenN (To.seq (To.block (To.seq ?_))))
   refine To.tailR encY_ok q b_2 3 rfl hc (by omega) ?_
   have hul5 := (uV_lt (p.drop b_2)).2
   rw [List.length_drop] at hul5
   refine To.reg (To.m ?_)
   refine To.m ?_
   refine To.r (Rd.as (v' := .slice (slAt A q b_2 1) (p.drop b_2).length (q - b_2)) (congrArg (fun z => Value.slice (slAt A q b_2 1) z (q - b_2)) (List.length_drop).symm) (Rd.sliceLo (lo := b_2) rfl s38 rfl rfl (by omega))) ?_
   refine To.callV rfl rfl rfl (Ent.fn rfl rfl ca28) (ruint_fn (slAt A q b_2 1) (q - b_2) (p.drop b_2) (hok.drop b_2).1 (hok.drop b_2).2) rfl (oks_cons (oks_at 0 rfl) (oks_nil _)) ?_
   refine To.m ?_
   refine To.r (Rd.extract rfl rfl rfl) ?_
   refine To.r (Rd.extract rfl rfl rfl) ?_
   refine To.r (Rd.extract rfl rfl rfl) ?_
   refine To.a ?_
   refine To.a ?_
   refine To.a (To.nil (To.thenN (To.seq (To.seq (To.reg ?_)))))
   refine To.m ?_
   refine To.r (Rd.neq rfl rfl rfl) ?_
   refine To.nil (To.thenN ?_)
   refine To.condP rfl (fun k115_3 => ?_) (fun k115_3 => ?_)
   ·
    refine To.seq (To.reg ?_)
    refine To.r (Rd.build (vs := []) (cells := [.int .i64 0, .int .i64 0, .slice none 0 0]) rfl rfl rfl (by kernel_rfl)) ?_
    refine To.u (Up.storeS (i := 2) rfl rfl rfl r28 rfl rfl rfl (box_takesAll rfl)) ?_
    refine To.a ?_
    refine To.a (To.nil (To.thenN (To.ret (To.thenR (To.blockR (To.thenR (To.thenR (To.blockR (To.thenR (To.blockR (To.thenR (To.thenR (To.blockR ?_)))))))))))))
    refine To.thenR ?_
    refine To.nilRow (Ins.rcells) 61 4 ?_
    refine To.endCTT [0] rfl (.inl rfl) Tryz.results11 rfl (i := 3) rfl r28 rfl rfl rfl ?_
    have hR : readV p = ((0, 0, []), 0, 6) := readV_bad hH (by omega) (by
      rw [hI, show v3 - k = (v3 - (k + 1)) + 1 from by omega, instrs_bad (instrV_3 ho hor hq1 hq2 (intV_no k115_3))]; rfl)
    rw [hR]
    exact ⟨none, 0, rfl, rfl⟩
   refine To.skip (To.thenN (To.seq (To.reg (To.m ?_))))
   refine To.m ?_
   refine To.r (Rd.addN (a := b_2) (b := (uL (uintV (p.drop b_2)))) rfl rfl rfl (by omega)) ?_
   refine To.a (To.nil (To.thenN (To.seq (To.reg ?_))))
   refine To.m ?_
   refine To.callV rfl rfl rfl (Ent.fn rfl rfl ca29) (rzz_fn (uV (uintV (p.drop b_2))) (uV_lt (p.drop b_2)).1) rfl (oks_nil _) ?_
   refine To.a (To.nil (To.thenN (To.seq (To.seq (To.reg ?_)))))
   refine To.m ?_
   refine To.r (Rd.lss rfl rfl rfl) ?_
   refine To.m ?_
   refine To.k ?_
   refine To.k ?_
   refine To.k ?_
   refine To.k ?_
   refine To.k ?_
   refine To.k ?_
   refine To.r (Rd.pickF rfl rfl rfl) ?_
   refine To.nil (To.thenN ?_)
   refine To.condF rfl ?_
   refine To.skip (To.thenN (To.seq (To.reg (To.m (To.nil (To.thenN (To.block (To.seq (To.reg ?_)))))))))
   refine To.r (Rd.eql rfl rfl rfl) ?_
   refine To.a (To.nil (To.thenN ?_))
   refine To.condF rfl ?_
   refine To.seq (To.reg ?_)
   refine To.r (Rd.eql rfl rfl rfl) ?_
   refine To.a (To.nil (To.thenN ?_))
   refine To.condF rfl ?_
   refine To.seq (To.reg ?_)
   refine To.r (Rd.eql rfl rfl rfl) ?_
   refine To.a (To.nil (To.thenN ?_))
   refine To.condT rfl ?_
   refine To.reg (To.m ?_)
   refine To.f fl61_3 ?_
   refine To.u (Up.store (i := 1) rfl rfl rfl c2 rfl rfl (box_takes1 rfl)) ?_
   refine To.nil (To.blockN (To.blockN (To.thenN ?_)))
   obtain ⟨b_3, hb_3⟩ : ∃ z0, z0 = b_2 + (uL (uintV (p.drop b_2))) := ⟨_, rfl⟩
   rw [← hb_3]
   have hq3 : intV (p.drop b_2) = some (zzV (uV (uintV (p.drop b_2))), p.drop b_3) := intV_at (Decidable.not_not.1 k115_3) hb_3
   have hbp3 : b_3 ≤ p.length := by omega
   refine To.only [1, 1, 1, 1, 1, 1] rfl ?_
   refine To.reg (To.m ?_)
   refine To.r (Rd.as (v' := .int .i64 (3)) rfl (Rd.add64 (m := 2) (n := 1) rfl rfl rfl (by decide))) ?_
   refine To.a (To.nil (To.thenN ?_))
   refine To.roundS ?_
   refine To.seq (To.seq (To.reg (To.m ?_)))
   refine To.r (Rd.lss rfl rfl rfl) ?_
   refine To.nil (To.thenN ?_)
   refine To.condF rfl ?_
   refine To.exit (To.thenX (To.thenX (To.blockX (To.thenN ?_))))
   have hix := instrV_4 ho hor hq1 hq2 hq3
   refine To.reg ?_
   refine To.f fl28_2 ?_
   refine To.lo 2 c26 ?_
   refine To.r (Rd.loadS (i := 0) rfl rfl r61 rfl box_whole rfl) ?_
   refine To.mk rfl rfl rfl (Mk.sliceN (us := [.int .i64 ((o : Nat) : Int), .int .i64 (zzV (uV (uintV (p.drop (a + 1))))), .int .i64 (zzV (uV (uintV (p.drop b_1)))), .int .i64 (zzV (uV (uintV (p.drop b_2))))]) rfl s26 rfl rfl rfl rfl rfl rfl) ?_
   rintro _ _ ⟨b149, rfl, rfl⟩
   refine To.ge rfl rfl rfl (Ge.append1 encRi (i := 6) (j := 0) (el := (⟨o, zzV (uV (uintV (p.drop (a + 1)))), zzV (uV (uintV (p.drop b_1))), zzV (uV (uintV (p.drop b_2)))⟩ : Ins)) rfl s26 rfl rfl rfl rfl rfl (by first | omega | (simp only [List.length_append, List.length_cons, List.length_nil]; omega)) (by first | omega | (simp only [List.length_append, List.length_cons, List.length_nil]; omega))) ?_
   rintro _ _ ⟨A150, q150, rfl, rfl⟩
   refine To.f fl28_2 ?_
   refine To.u (Up.store (i := 3) rfl rfl rfl c26 rfl rfl (box_takes1 rfl)) ?_
   refine To.nil (To.blockN (To.thenN (To.reg (To.m ?_))))
   refine To.r (Rd.as (v' := .int .u64 ((k + 1 : Nat) : Int)) (congrArg (fun n : Nat => Value.int .u64 (n : Int)) (Nat.mod_eq_of_lt (by omega))) (Rd.addU (a := k) (b := 1) rfl rfl rfl)) ?_
   refine To.a (To.nil (To.thenN ?_))
   refine To.sub [(0, .slice A p.length q), (2, .pointer (some ⟨b2, 0, none⟩)), (5, .int .i64 ((b_3 : Nat) : Int)), (6, .slice A38_3 hs.length q38_3), (11, .pointer (some ⟨b11, 0, none⟩)), (12, .int .u64 (((k + 1) : Nat) : Int))] ⟨rfl, rfl, rfl, rfl, rfl, rfl, trivial⟩ ?_
   refine To.only [2, 2, 2, 2, 2] rfl ?_
   refine To.again (v3 - (k + 1)) (by omega) ⟨b_3, A150, q150, (O ++ [(⟨o, zzV (uV (uintV (p.drop (a + 1)))), zzV (uV (uintV (p.drop b_1))), zzV (uV (uintV (p.drop b_2)))⟩ : Ins)]), k + 1, rfl, rfl, rfl, (by omega), (by omega), (by rw [List.length_append]; simp only [List.length_cons, List.length_nil]; omega), (by rw [hI, show v3 - k = (v3 - (k + 1)) + 1 from by omega, instrs_step hix, acc_step])⟩
  refine To.exit (To.thenX (To.thenX (To.blockX (To.thenN (To.seq (To.reg ?_))))))
  refine To.r (Rd.loadS (i := 1) rfl rfl r28 rfl box_whole rfl) ?_
  refine To.m ?_
  refine To.u (Up.storeS (i := 0) rfl rfl rfl r28 rfl rfl rfl (box_takesAll rfl)) ?_
  refine To.a ?_
  refine To.a (To.nil (To.thenN (To.ret ?_)))
  refine To.endCTT [4] rfl (.inl rfl) Tryz.results11 rfl (i := 0) rfl r28 rfl rfl rfl ?_
  have hR : readV p = ((v1, v2, O), p.length - (p.drop a).length, 0) := readV_ok hH (by omega) (by rw [hI, show v3 - k = 0 from by omega]; simp [instrsV])
  rw [hR]
  have hz : p.length - (p.drop a).length = a := by rw [List.length_drop]; omega
  refine ⟨_, _, ?_, rfl⟩
  show _ = Value.tuple #[_, .int .i64 ((p.length - (p.drop a).length : Nat) : Int), _]
  rw [hz]
end Go.Proofs.YtfkmjkooemjekaaGreatDoor
