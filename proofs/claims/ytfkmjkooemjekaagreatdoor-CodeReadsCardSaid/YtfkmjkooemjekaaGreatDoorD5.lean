/- The program reads a unit. Own text (walks printed by sx.py). -/
import Derived.Test.YtfkmjkooemjekaaGreatDoorL1
import Derived.Test.YtfkmjkooemjekaaGreatDoorD4
set_option linter.unusedVariables false
set_option linter.unusedSimpArgs false
namespace Go.Proofs.YtfkmjkooemjekaaGreatDoor
open Go.RowKit Go.Flow Go.Mem Go.Sep
theorem To.endCTT {P : Program} {C : Cx} {ρ : Slots} {Γ Δ E : List Chunk} {R : Value → List Chunk → Prop} {fn : Func} {ex : Exit} {t b n i u u2 : Nat} {ty ty' : TypeId} {cs : List Value} {v v2 : Value} (is : List Nat) (hpl : pull Γ is = some (Δ, E)) (hex : ex = .ret ∨ ex = .normal) (hres : fn.results = #[.cell t ty, .tmp u, .tmp u2]) (hv : Sep.look ρ t = some (.pointer (some ⟨b, 0, none⟩)))
    (hi : Γ[i]? = some (box b cs ty')) (ht : RowTy P ty n) (hl : cs.length = n) (hu : Sep.look ρ u = some v) (hu2 : Sep.look ρ u2 = some v2) (h : R (.tuple #[.agg cs.toArray, v, v2]) Δ) (hds : C.ds = [] := by rfl) : To C ρ Γ (bodyPost P fn (Fin C R) ex) := fun a w ha hp => by
  have hr : (results fn a.tmps).run P w = .ok (.tuple #[.agg cs.toArray, v, v2]) w := by
    obtain ⟨d, h1, h2, h3⟩ := ht
    have hw := hp.sat.each _ (List.mem_of_getElem? hi)
    have := run_loadVar_mid (P := P) w b 0 ty cs d (range_of_whole hw) h1 h2 (by rw [hl]; exact h3)
    have he : a.tmps[t]?.getD undef = .pointer (some ⟨b, 0, none⟩) := by rw [ha.sees t _ hv]; rfl
    have he2 : a.tmps[u]?.getD undef = v := by rw [ha.sees u _ hu]; rfl
    have he3 : a.tmps[u2]?.getD undef = v2 := by rw [ha.sees u2 _ hu2]; rfl
    simp [results, hres, he, he2, he3, asAddr, this]
  have hq : Post C.Γ0 Δ C.w0 w := (hp.perm (pull_perm hpl)).drop
  rcases hex with rfl | rfl
  · exact ⟨ha.defers.trans hds, _, hr, _, Δ, rfl, h, hq⟩
  · exact ⟨ha.defers.trans hds, _, hr, _, Δ, rfl, h, hq⟩
def okS (s : List Nat) : Prop := s.length ≤ 9223372036854775806 ∧ ∀ x ∈ s, x < 256
theorem okS.drop {s : List Nat} (h : okS s) (n : Nat) : okS (s.drop n) := ⟨by rw [List.length_drop]; have := h.1; omega, fun x hx => h.2 x (List.mem_of_mem_drop hx)⟩
theorem okS.rdU {s : List Nat} (h : okS s) (e : Int) : okS (rdU s e).2.1 := by unfold Go.Proofs.YtfkmjkooemjekaaGreatDoor.rdU; split; exact h; split; exact h; exact h.drop _
theorem okS.rdI {s : List Nat} (h : okS s) (e : Int) : okS (rdI s e).2.1 := by unfold Go.Proofs.YtfkmjkooemjekaaGreatDoor.rdI; split; exact h; split; exact h; exact h.drop _
theorem okS.rdS {s : List Nat} (h : okS s) (e lo hi : Int) : okS (rdS s e lo hi).2.1 := by unfold Go.Proofs.YtfkmjkooemjekaaGreatDoor.rdS; split; exact h; split; exact h; split; exact h; exact h.drop _
theorem okS.rdB {s : List Nat} (h : okS s) (e : Int) : okS (rdB s e).2.1 := by unfold Go.Proofs.YtfkmjkooemjekaaGreatDoor.rdB; split; exact h; split; exact h; exact h.drop _
theorem rdU_le (s : List Nat) (e : Int) : (rdU s e).1 < 18446744073709551616 := by unfold rdU; split; exact Nat.zero_lt_succ _; split; exact Nat.zero_lt_succ _; exact (uV_lt s).1
theorem rdU_len (s : List Nat) (e : Int) : (rdU s e).2.1.length ≤ s.length := by unfold rdU; split; exact Nat.le_refl _; split; exact Nat.le_refl _; rw [List.length_drop]; omega
theorem rdI_len (s : List Nat) (e : Int) : (rdI s e).2.1.length ≤ s.length := by unfold rdI; split; exact Nat.le_refl _; split; exact Nat.le_refl _; rw [List.length_drop]; omega
theorem rdS_len (s : List Nat) (e lo hi : Int) : (rdS s e lo hi).2.1.length ≤ s.length := by unfold rdS; split; exact Nat.le_refl _; split; exact Nat.le_refl _; split; exact Nat.le_refl _; rw [List.length_drop]; omega
theorem rdB_len (s : List Nat) (e : Int) : (rdB s e).2.1.length ≤ s.length := by unfold rdB; split; exact Nat.le_refl _; split; exact Nat.le_refl _; rw [List.length_drop]; omega
theorem cN_len (s : List Nat) : (cN s).2.1.length ≤ s.length := Nat.le_trans (rdI_len _ _) (Nat.le_trans (rdS_len _ _ _ _) (Nat.le_trans (rdS_len _ _ _ _) (rdB_len _ _)))
theorem hd3_len (p : List Nat) : (hd3 p).2.1.length ≤ p.length := Nat.le_trans (rdU_len _ _) (Nat.le_trans (rdU_len _ _) (rdU_len _ _))
set_option maxHeartbeats 2000000 in
set_option maxRecDepth 100000 in
theorem read_fn (A : Option Addr) (q : Nat) (p : List Nat) (hl : p.length ≤ 140737488355327) (hok : okS p) :
    Does Tryz.prog 10 [.slice A p.length q] [ros encY A p] (fun r Γ' => ∃ (B : Option Addr) (q' : Nat), r = .tuple #[.agg #[.int .i64 (((readV p).1.1 : Nat) : Int), .int .i64 (((readV p).1.2.1 : Nat) : Int), .slice B (readV p).1.2.2.length q'], .int .i64 (((readV p).2.1 : Nat) : Int), .int .i64 (readV p).2.2] ∧ Γ' = [rows Ins.cells 64 4 B q' (readV p).1.2.2]) := by
  refine Does.enter Tryz.func10 rfl Tryz.ntmps10 rfl (fun w0 => ?_)
  refine To.seq (To.reg ?_)
  refine To.alloc rfl rfl rfl rfl z32 (fun b2 => ?_)
  refine To.a ?_
  refine To.a (To.nil (To.thenN (To.seq ?_)))
  refine To.dup 1 rfl rfl ?_
  refine To.reg (To.m ?_)
  refine To.call [0] rfl rfl rfl (Ent.fn rfl rfl ca21) rfl (new_fn A q p hl) ?_
  rintro _ _ ⟨br, B0, q0, rfl, rfl, hc0⟩
  refine To.a (To.nil (To.thenN (To.seq (To.reg ?_))))
  refine To.m ?_
  refine To.call [0, 0] rfl rfl rfl (Ent.fn rfl rfl ca22) rfl (rdU_fn br B0 q0 p 0 hok.1 hok.2 hc0) ?_
  rintro _ _ ⟨Br, qr, rfl, rfl, hr⟩
  refine To.m ?_
  refine To.call [0, 0] rfl rfl rfl (Ent.fn rfl rfl ca22) rfl (rdU_fn br Br qr ((rdU p 0).2.1) ((rdU p 0).2.2) (okS.rdU hok 0).1 (okS.rdU hok 0).2 hr) ?_
  rintro _ _ ⟨Br_2, qr_2, rfl, rfl, hr_2⟩
  refine To.m ?_
  refine To.call [0, 0] rfl rfl rfl (Ent.fn rfl rfl ca22) rfl (rdU_fn br Br_2 qr_2 ((rdU ((rdU p 0).2.1) ((rdU p 0).2.2)).2.1) ((rdU ((rdU p 0).2.1) ((rdU p 0).2.2)).2.2) (okS.rdU (okS.rdU hok 0) ((rdU p 0).2.2)).1 (okS.rdU (okS.rdU hok 0) ((rdU p 0).2.2)).2 hr_2) ?_
  rintro _ _ ⟨Br_3, qr_3, rfl, rfl, hr_3⟩
  refine To.a ?_
  refine To.a ?_
  refine To.a (To.nil (To.thenN (To.seq (To.seq (To.reg ?_)))))
  refine To.m ?_
  refine To.call [0] rfl rfl rfl (Ent.fn rfl rfl ca23) rfl (err_fn br Br_3 ((rdU ((rdU ((rdU p 0).2.1) ((rdU p 0).2.2)).2.1) ((rdU ((rdU p 0).2.1) ((rdU p 0).2.2)).2.2)).2.1.length) qr_3 ((rdU ((rdU ((rdU p 0).2.1) ((rdU p 0).2.2)).2.1) ((rdU ((rdU p 0).2.1) ((rdU p 0).2.2)).2.2)).2.2)) ?_
  rintro _ _ ⟨rfl, rfl⟩
  refine To.a (To.nil (To.thenN (To.seq (To.reg ?_))))
  refine To.m ?_
  refine To.r (Rd.neq rfl rfl rfl) ?_
  refine To.nil (To.thenN ?_)
  refine To.condP rfl (fun c26 => ?_) (fun c26 => ?_)
  ·
   refine To.seq (To.reg ?_)
   refine To.r (Rd.build (vs := []) (cells := [.int .i64 0, .int .i64 0, .slice none 0 0]) rfl rfl rfl (by kernel_rfl)) ?_
   refine To.m ?_
   refine To.u (Up.storeS (i := 2) rfl rfl rfl r32 rfl rfl rfl (box_takesAll rfl)) ?_
   refine To.a ?_
   refine To.a (To.nil (To.thenN (To.ret (To.thenR ?_))))
   refine To.nilRow (Ins.cells) 64 4 ?_
   refine To.endCTT [0] rfl (.inl rfl) Tryz.results10 rfl (i := 3) rfl r32 rfl rfl rfl ?_
   have hh := (head_eq p).2 c26
   have hR : readV p = ((0, 0, []), 0, 6) := by rw [readV, hh.1]
   rw [hR]
   exact ⟨none, 0, by rw [show ((rdU ((rdU ((rdU p 0).2.1) ((rdU p 0).2.2)).2.1) ((rdU ((rdU p 0).2.1) ((rdU p 0).2.2)).2.2)).2.2) = 6 from hh.2]; rfl, rfl⟩
  refine To.skip (To.thenN (To.seq (To.seq ?_)))
  obtain ⟨v1, hv1⟩ : ∃ z0, z0 = (rdU p 0).1 := ⟨_, rfl⟩
  rw [← hv1]
  obtain ⟨v2, hv2⟩ : ∃ z0, z0 = (rdU ((rdU p 0).2.1) ((rdU p 0).2.2)).1 := ⟨_, rfl⟩
  rw [← hv2]
  obtain ⟨v3, hv3⟩ : ∃ z0, z0 = (rdU ((rdU ((rdU p 0).2.1) ((rdU p 0).2.2)).2.1) ((rdU ((rdU p 0).2.1) ((rdU p 0).2.2)).2.2)).1 := ⟨_, rfl⟩
  rw [← hv3]
  have hv1b : v1 < 18446744073709551616 := by rw [hv1]; exact rdU_le _ _
  have hv2b : v2 < 18446744073709551616 := by rw [hv2]; exact rdU_le _ _
  have hv3b : v3 < 18446744073709551616 := by rw [hv3]; exact rdU_le _ _
  have hee := Decidable.not_not.1 c26
  obtain ⟨e0, he0⟩ : ∃ z0, z0 = (rdU ((rdU ((rdU p 0).2.1) ((rdU p 0).2.2)).2.1) ((rdU ((rdU p 0).2.1) ((rdU p 0).2.2)).2.2)).2.2 := ⟨_, rfl⟩
  rw [← he0]
  have hz0 : e0 = 0 := by rw [he0]; exact hee
  clear he0
  subst hz0
  obtain ⟨s0, hs0⟩ : ∃ z0, z0 = (rdU ((rdU ((rdU p 0).2.1) ((rdU p 0).2.2)).2.1) ((rdU ((rdU p 0).2.1) ((rdU p 0).2.2)).2.2)).2.1 := ⟨_, rfl⟩
  rw [← hs0]
  have hok0 : okS s0 := by rw [hs0]; exact (okS.rdU (okS.rdU (okS.rdU hok 0) ((rdU p 0).2.2)) ((rdU ((rdU p 0).2.1) ((rdU p 0).2.2)).2.2))
  have hcc : s0.length ≤ qr_3 := by rw [hs0]; exact hr_3
  have hs0p : s0.length ≤ p.length := by rw [hs0]; exact hd3_len p
  have hH : headV p = some (v1, v2, v3, s0) := by rw [hv1, hv2, hv3, hs0]; exact (head_eq p).1 hee
  refine To.reg ?_
  refine To.meet (T := Bool) (fun t => ([(0, .slice A p.length q), (2, .pointer (some ⟨b2, 0, none⟩)), (5, .pointer (some ⟨br, 0, none⟩)), (6, .int .u64 ((v1 : Nat) : Int)), (7, .int .u64 ((v2 : Nat) : Int)), (8, .int .u64 ((v3 : Nat) : Int)), (38, .bool t)], [box br [.slice Br_3 s0.length qr_3, .int .i64 0] 140, ros encY Br_3 s0, box b2 [.int .i64 0, .int .i64 0, .slice none 0 0] 32, ros encY A p])) (fun t => t = (((decide (255 < ((v1 : Nat) : Int))) || decide (255 < ((v2 : Nat) : Int))) || decide (4000 < ((v3 : Nat) : Int)))) ?_ (fun t ht => ?_)
  ·
   refine To.m ?_
   refine To.r (Rd.gtr rfl rfl rfl) ?_
   refine To.rdP rfl rfl rfl (Rd.move rfl rfl) (fun g31 => ?_) (fun g31 => ?_)
   ·
    refine To.k ?_
    refine To.k ?_
    refine To.r (Rd.pickT rfl rfl rfl) ?_
    refine To.m ?_
    refine To.k ?_
    refine To.k ?_
    refine To.r (Rd.pickT rfl rfl rfl) ?_
    refine To.nil (To.thenN ?_)
    refine To.only [0, 0, 0, 0] rfl ?_
    refine To.here true (by first | (simp [g31]; done) | (simp [g31]; omega)) ⟨rfl, rfl, rfl, rfl, rfl, rfl, rfl, trivial⟩ rfl
   refine To.m ?_
   refine To.r (Rd.gtr rfl rfl rfl) ?_
   refine To.r (Rd.pickF rfl rfl rfl) ?_
   refine To.rdP rfl rfl rfl (Rd.move rfl rfl) (fun g35 => ?_) (fun g35 => ?_)
   ·
    refine To.k ?_
    refine To.k ?_
    refine To.r (Rd.pickT rfl rfl rfl) ?_
    refine To.nil (To.thenN ?_)
    refine To.only [0, 0, 0, 0] rfl ?_
    refine To.here true (by first | (simp [g31, g35]; done) | (simp [g31, g35]; omega)) ⟨rfl, rfl, rfl, rfl, rfl, rfl, rfl, trivial⟩ rfl
   refine To.m ?_
   refine To.r (Rd.gtr rfl rfl rfl) ?_
   refine To.r (Rd.pickF rfl rfl rfl) ?_
   refine To.nil (To.thenN ?_)
   refine To.only [0, 0, 0, 0] rfl ?_
   refine To.here (decide (4000 < ((v3 : Nat) : Int))) (by first | (simp [g31, g35]; done) | (simp [g31, g35]; omega)) ⟨rfl, rfl, rfl, rfl, rfl, rfl, rfl, trivial⟩ rfl
  subst ht
  show To _ [(0, .slice A p.length q), (2, .pointer (some ⟨b2, 0, none⟩)), (5, .pointer (some ⟨br, 0, none⟩)), (6, .int .u64 ((v1 : Nat) : Int)), (7, .int .u64 ((v2 : Nat) : Int)), (8, .int .u64 ((v3 : Nat) : Int)), (38, .bool (((decide (255 < ((v1 : Nat) : Int))) || decide (255 < ((v2 : Nat) : Int))) || decide (4000 < ((v3 : Nat) : Int))))] [box br [.slice Br_3 s0.length qr_3, .int .i64 0] 140, ros encY Br_3 s0, box b2 [.int .i64 0, .int .i64 0, .slice none 0 0] 32, ros encY A p] _
  refine To.cond rfl (fun c38 => ?_) (fun c38 => ?_)
  ·
   refine To.seq (To.reg ?_)
   refine To.r (Rd.build (vs := []) (cells := [.int .i64 0, .int .i64 0, .slice none 0 0]) rfl rfl rfl (by kernel_rfl)) ?_
   refine To.u (Up.storeS (i := 2) rfl rfl rfl r32 rfl rfl rfl (box_takesAll rfl)) ?_
   refine To.a ?_
   refine To.a (To.nil (To.thenN (To.ret (To.thenR ?_))))
   refine To.nilRow (Ins.cells) 64 4 ?_
   refine To.endCTT [0] rfl (.inl rfl) Tryz.results10 rfl (i := 3) rfl r32 rfl rfl rfl ?_
   simp only [Bool.or_eq_false_iff, Bool.or_eq_true, decide_eq_true_eq, decide_eq_false_iff_not] at c38
   have hR : readV p = ((0, 0, []), 0, 3) := by rw [readV, hH]; exact if_pos (by omega)
   rw [hR]
   exact ⟨none, 0, rfl, rfl⟩
  simp only [Bool.or_eq_false_iff, Bool.or_eq_true, decide_eq_true_eq, decide_eq_false_iff_not] at c38
  refine To.skip (To.thenN (To.seq (To.reg (To.m ?_))))
  refine To.r (Rd.conv rfl rfl Tryz.underlying72 Tryz.underlying3 (IntWalk.i64_in _ (by omega))) ?_
  refine To.m ?_
  refine To.r (Rd.conv rfl rfl Tryz.underlying72 Tryz.underlying3 (IntWalk.i64_in _ (by omega))) ?_
  refine To.r (Rd.build (vs := [(0, .int .i64 ((v1 : Nat) : Int)), (1, .int .i64 ((v2 : Nat) : Int))]) (cells := [.int .i64 ((v1 : Nat) : Int), .int .i64 ((v2 : Nat) : Int), .slice none 0 0]) rfl rfl rfl (by kernel_rfl)) ?_
  refine To.alloc rfl rfl rfl rfl z32 (fun b10 => ?_)
  refine To.u (Up.storeS (i := 0) rfl rfl rfl r32 rfl rfl rfl (box_takesAll rfl)) ?_
  refine To.nil (To.thenN (To.seq (To.seq (To.reg (To.m ?_)))))
  refine To.m (To.nil (To.thenN (To.block ?_)))
  refine To.nilRow (Ins.cells) 64 4 ?_
  refine To.sub [(0, .slice A p.length q), (2, .pointer (some ⟨b2, 0, none⟩)), (5, .pointer (some ⟨br, 0, none⟩)), (10, .pointer (some ⟨b10, 0, none⟩)), (45, .int .u64 ((v3 : Nat) : Int)), (46, .int .u64 ((0 : Nat) : Int))] ⟨rfl, rfl, rfl, rfl, rfl, rfl, trivial⟩ ?_
  refine To.only [4, 2, 1, 1, 1, 0] rfl ?_
  refine To.loop (fun mz ρ Γ => ∃ (Bk : Option Addr) (qk : Nat) (s : List Nat) (Ao : Option Addr) (qo : Nat) (O : List Ins) (k : Nat), ρ = [(0, .slice A p.length q), (2, .pointer (some ⟨b2, 0, none⟩)), (5, .pointer (some ⟨br, 0, none⟩)), (10, .pointer (some ⟨b10, 0, none⟩)), (45, .int .u64 ((v3 : Nat) : Int)), (46, .int .u64 ((k : Nat) : Int))] ∧ Γ = [box b2 [.int .i64 0, .int .i64 0, .slice none 0 0] 32, box br [.slice Bk s.length qk, .int .i64 0] 140, box b10 [.int .i64 ((v1 : Nat) : Int), .int .i64 ((v2 : Nat) : Int), .slice Ao O.length qo] 32, ros encY Bk s, ros encY A p, rows Ins.cells 64 4 Ao qo O] ∧ mz = v3 - k ∧ (k ≤ v3) ∧ (okS s) ∧ (s.length ≤ qk) ∧ (s.length ≤ p.length) ∧ (O.length ≤ k) ∧ (instrsV v3 s0 = (instrsV (v3 - k) s).map fun y => (O ++ y.1, y.2))) (v3 - 0) ⟨Br_3, qr_3, s0, none, 0, ([] : List Ins), 0, rfl, rfl, rfl, (Nat.zero_le _), hok0, hcc, hs0p, (Nat.le_refl _), (by rw [Nat.sub_zero]; cases instrsV v3 s0 <;> rfl)⟩ ?_
  rintro mz _ _ ⟨Bk, qk, s, Ao, qo, O, k, rfl, rfl, rfl, hk, hoks, hcs, hsp, hOl, hI⟩
  refine To.seq (To.reg ?_)
  refine To.r (Rd.lss rfl rfl rfl) ?_
  refine To.nil (To.thenN (To.seq ?_))
  refine To.condP rfl (fun c47 => ?_) (fun c47 => ?_)
  ·
   refine To.skip (To.thenN (To.seq (To.block (To.seq (To.reg (To.m ?_))))))
   refine To.call [1, 2] rfl rfl rfl (Ent.fn rfl rfl ca24) rfl (rdB_fn br Bk qk s 0 hoks.1 hoks.2 hcs) ?_
   rintro _ _ ⟨Br_4, qr_4, rfl, rfl, hr_4⟩
   refine To.a (To.nil (To.thenN (To.seq (To.reg ?_))))
   refine To.m ?_
   refine To.call [0, 0] rfl rfl rfl (Ent.fn rfl rfl ca25) rfl (rdS_fn br Br_4 qr_4 ((rdB s 0).2.1) ((rdB s 0).2.2) LO HI (okS.rdB hoks 0).1 (okS.rdB hoks 0).2 hr_4) ?_
   rintro _ _ ⟨Br_5, qr_5, rfl, rfl, hr_5⟩
   refine To.m ?_
   refine To.call [0, 0] rfl rfl rfl (Ent.fn rfl rfl ca25) rfl (rdS_fn br Br_5 qr_5 ((rdS ((rdB s 0).2.1) ((rdB s 0).2.2) LO HI).2.1) ((rdS ((rdB s 0).2.1) ((rdB s 0).2.2) LO HI).2.2) LO HI (okS.rdS (okS.rdB hoks 0) ((rdB s 0).2.2) LO HI).1 (okS.rdS (okS.rdB hoks 0) ((rdB s 0).2.2) LO HI).2 hr_5) ?_
   rintro _ _ ⟨Br_6, qr_6, rfl, rfl, hr_6⟩
   refine To.a ?_
   refine To.a (To.nil (To.thenN (To.seq (To.reg ?_))))
   refine To.m ?_
   refine To.m ?_
   refine To.m ?_
   refine To.m ?_
   refine To.call [0, 0] rfl rfl rfl (Ent.fn rfl rfl ca26) rfl (rdI_fn br Br_6 qr_6 ((rdS ((rdS ((rdB s 0).2.1) ((rdB s 0).2.2) LO HI).2.1) ((rdS ((rdB s 0).2.1) ((rdB s 0).2.2) LO HI).2.2) LO HI).2.1) ((rdS ((rdS ((rdB s 0).2.1) ((rdB s 0).2.2) LO HI).2.1) ((rdS ((rdB s 0).2.1) ((rdB s 0).2.2) LO HI).2.2) LO HI).2.2) (okS.rdS (okS.rdS (okS.rdB hoks 0) ((rdB s 0).2.2) LO HI) ((rdS ((rdB s 0).2.1) ((rdB s 0).2.2) LO HI).2.2) LO HI).1 (okS.rdS (okS.rdS (okS.rdB hoks 0) ((rdB s 0).2.2) LO HI) ((rdS ((rdB s 0).2.1) ((rdB s 0).2.2) LO HI).2.2) LO HI).2 hr_6) ?_
   rintro _ _ ⟨Br_7, qr_7, rfl, rfl, hr_7⟩
   refine To.r (Rd.build (vs := [(0, .int .u8 (((rdB s 0).1 : Nat) : Int)), (1, .int .i64 ((rdS ((rdB s 0).2.1) ((rdB s 0).2.2) LO HI).1)), (2, .int .i64 ((rdS ((rdS ((rdB s 0).2.1) ((rdB s 0).2.2) LO HI).2.1) ((rdS ((rdB s 0).2.1) ((rdB s 0).2.2) LO HI).2.2) LO HI).1)), (3, .int .i64 ((rdI ((rdS ((rdS ((rdB s 0).2.1) ((rdB s 0).2.2) LO HI).2.1) ((rdS ((rdB s 0).2.1) ((rdB s 0).2.2) LO HI).2.2) LO HI).2.1) ((rdS ((rdS ((rdB s 0).2.1) ((rdB s 0).2.2) LO HI).2.1) ((rdS ((rdB s 0).2.1) ((rdB s 0).2.2) LO HI).2.2) LO HI).2.2)).1))]) (cells := [.int .u8 (((rdB s 0).1 : Nat) : Int), .int .i64 ((rdS ((rdB s 0).2.1) ((rdB s 0).2.2) LO HI).1), .int .i64 ((rdS ((rdS ((rdB s 0).2.1) ((rdB s 0).2.2) LO HI).2.1) ((rdS ((rdB s 0).2.1) ((rdB s 0).2.2) LO HI).2.2) LO HI).1), .int .i64 ((rdI ((rdS ((rdS ((rdB s 0).2.1) ((rdB s 0).2.2) LO HI).2.1) ((rdS ((rdB s 0).2.1) ((rdB s 0).2.2) LO HI).2.2) LO HI).2.1) ((rdS ((rdS ((rdB s 0).2.1) ((rdB s 0).2.2) LO HI).2.1) ((rdS ((rdB s 0).2.1) ((rdB s 0).2.2) LO HI).2.2) LO HI).2.2)).1)]) rfl rfl rfl (by kernel_rfl)) ?_
   refine To.alloc rfl rfl rfl rfl z64 (fun b14 => ?_)
   refine To.u (Up.storeS (i := 0) rfl rfl rfl r64 rfl rfl rfl (box_takesAll rfl)) ?_
   refine To.nil (To.thenN (To.seq (To.seq (To.reg ?_))))
   refine To.meet (T := Bool) (fun t => ([(0, .slice A p.length q), (2, .pointer (some ⟨b2, 0, none⟩)), (5, .pointer (some ⟨br, 0, none⟩)), (10, .pointer (some ⟨b10, 0, none⟩)), (45, .int .u64 ((v3 : Nat) : Int)), (46, .int .u64 ((k : Nat) : Int)), (11, .int .u8 (((rdB s 0).1 : Nat) : Int)), (12, .int .i64 ((rdS ((rdB s 0).2.1) ((rdB s 0).2.2) LO HI).1)), (13, .int .i64 ((rdS ((rdS ((rdB s 0).2.1) ((rdB s 0).2.2) LO HI).2.1) ((rdS ((rdB s 0).2.1) ((rdB s 0).2.2) LO HI).2.2) LO HI).1)), (14, .pointer (some ⟨b14, 0, none⟩)), (70, .bool t)], [box b14 [.int .u8 (((rdB s 0).1 : Nat) : Int), .int .i64 ((rdS ((rdB s 0).2.1) ((rdB s 0).2.2) LO HI).1), .int .i64 ((rdS ((rdS ((rdB s 0).2.1) ((rdB s 0).2.2) LO HI).2.1) ((rdS ((rdB s 0).2.1) ((rdB s 0).2.2) LO HI).2.2) LO HI).1), .int .i64 ((rdI ((rdS ((rdS ((rdB s 0).2.1) ((rdB s 0).2.2) LO HI).2.1) ((rdS ((rdB s 0).2.1) ((rdB s 0).2.2) LO HI).2.2) LO HI).2.1) ((rdS ((rdS ((rdB s 0).2.1) ((rdB s 0).2.2) LO HI).2.1) ((rdS ((rdB s 0).2.1) ((rdB s 0).2.2) LO HI).2.2) LO HI).2.2)).1)] 64, box br [.slice Br_7 ((rdI ((rdS ((rdS ((rdB s 0).2.1) ((rdB s 0).2.2) LO HI).2.1) ((rdS ((rdB s 0).2.1) ((rdB s 0).2.2) LO HI).2.2) LO HI).2.1) ((rdS ((rdS ((rdB s 0).2.1) ((rdB s 0).2.2) LO HI).2.1) ((rdS ((rdB s 0).2.1) ((rdB s 0).2.2) LO HI).2.2) LO HI).2.2)).2.1.length) qr_7, .int .i64 ((rdI ((rdS ((rdS ((rdB s 0).2.1) ((rdB s 0).2.2) LO HI).2.1) ((rdS ((rdB s 0).2.1) ((rdB s 0).2.2) LO HI).2.2) LO HI).2.1) ((rdS ((rdS ((rdB s 0).2.1) ((rdB s 0).2.2) LO HI).2.1) ((rdS ((rdB s 0).2.1) ((rdB s 0).2.2) LO HI).2.2) LO HI).2.2)).2.2)] 140, ros encY Br_7 ((rdI ((rdS ((rdS ((rdB s 0).2.1) ((rdB s 0).2.2) LO HI).2.1) ((rdS ((rdB s 0).2.1) ((rdB s 0).2.2) LO HI).2.2) LO HI).2.1) ((rdS ((rdS ((rdB s 0).2.1) ((rdB s 0).2.2) LO HI).2.1) ((rdS ((rdB s 0).2.1) ((rdB s 0).2.2) LO HI).2.2) LO HI).2.2)).2.1), box b2 [.int .i64 0, .int .i64 0, .slice none 0 0] 32, box b10 [.int .i64 ((v1 : Nat) : Int), .int .i64 ((v2 : Nat) : Int), .slice Ao O.length qo] 32, ros encY A p, rows Ins.cells 64 4 Ao qo O])) (fun t => t = (((decide ((rdI ((rdS ((rdS ((rdB s 0).2.1) ((rdB s 0).2.2) LO HI).2.1) ((rdS ((rdB s 0).2.1) ((rdB s 0).2.2) LO HI).2.2) LO HI).2.1) ((rdS ((rdS ((rdB s 0).2.1) ((rdB s 0).2.2) LO HI).2.1) ((rdS ((rdB s 0).2.1) ((rdB s 0).2.2) LO HI).2.2) LO HI).2.2)).2.2 ≠ 0)) || decide ((((rdB s 0).1 : Nat) : Int) < 1)) || decide (34 < (((rdB s 0).1 : Nat) : Int)))) ?_ (fun t ht => ?_)
   ·
    refine To.m ?_
    refine To.call [1] rfl rfl rfl (Ent.fn rfl rfl ca23) rfl (err_fn br Br_7 ((rdI ((rdS ((rdS ((rdB s 0).2.1) ((rdB s 0).2.2) LO HI).2.1) ((rdS ((rdB s 0).2.1) ((rdB s 0).2.2) LO HI).2.2) LO HI).2.1) ((rdS ((rdS ((rdB s 0).2.1) ((rdB s 0).2.2) LO HI).2.1) ((rdS ((rdB s 0).2.1) ((rdB s 0).2.2) LO HI).2.2) LO HI).2.2)).2.1.length) qr_7 ((rdI ((rdS ((rdS ((rdB s 0).2.1) ((rdB s 0).2.2) LO HI).2.1) ((rdS ((rdB s 0).2.1) ((rdB s 0).2.2) LO HI).2.2) LO HI).2.1) ((rdS ((rdS ((rdB s 0).2.1) ((rdB s 0).2.2) LO HI).2.1) ((rdS ((rdB s 0).2.1) ((rdB s 0).2.2) LO HI).2.2) LO HI).2.2)).2.2)) ?_
    rintro _ _ ⟨rfl, rfl⟩
    refine To.r (Rd.neq rfl rfl rfl) ?_
    refine To.rdP rfl rfl rfl (Rd.move rfl rfl) (fun g63 => ?_) (fun g63 => ?_)
    ·
     refine To.k ?_
     refine To.k ?_
     refine To.r (Rd.pickT rfl rfl rfl) ?_
     refine To.m ?_
     refine To.k ?_
     refine To.k ?_
     refine To.r (Rd.pickT rfl rfl rfl) ?_
     refine To.nil (To.thenN ?_)
     refine To.only [1, 0, 0, 0, 0, 0, 0] rfl ?_
     refine To.here true (by first | (simp [g63]; done) | (simp [g63]; omega)) ⟨rfl, rfl, rfl, rfl, rfl, rfl, rfl, rfl, rfl, rfl, rfl, trivial⟩ rfl
    refine To.m ?_
    refine To.r (Rd.lss rfl rfl rfl) ?_
    refine To.r (Rd.pickF rfl rfl rfl) ?_
    refine To.rdP rfl rfl rfl (Rd.move rfl rfl) (fun g67 => ?_) (fun g67 => ?_)
    ·
     refine To.k ?_
     refine To.k ?_
     refine To.r (Rd.pickT rfl rfl rfl) ?_
     refine To.nil (To.thenN ?_)
     refine To.only [1, 0, 0, 0, 0, 0, 0] rfl ?_
     refine To.here true (by first | (simp [g63, g67]; done) | (simp [g63, g67]; omega)) ⟨rfl, rfl, rfl, rfl, rfl, rfl, rfl, rfl, rfl, rfl, rfl, trivial⟩ rfl
    refine To.m ?_
    refine To.r (Rd.gtr rfl rfl rfl) ?_
    refine To.r (Rd.pickF rfl rfl rfl) ?_
    refine To.nil (To.thenN ?_)
    refine To.only [1, 0, 0, 0, 0, 0, 0] rfl ?_
    refine To.here (decide (34 < (((rdB s 0).1 : Nat) : Int))) (by first | (simp [g63, g67]; done) | (simp [g63, g67]; omega)) ⟨rfl, rfl, rfl, rfl, rfl, rfl, rfl, rfl, rfl, rfl, rfl, trivial⟩ rfl
   subst ht
   show To _ [(0, .slice A p.length q), (2, .pointer (some ⟨b2, 0, none⟩)), (5, .pointer (some ⟨br, 0, none⟩)), (10, .pointer (some ⟨b10, 0, none⟩)), (45, .int .u64 ((v3 : Nat) : Int)), (46, .int .u64 ((k : Nat) : Int)), (11, .int .u8 (((rdB s 0).1 : Nat) : Int)), (12, .int .i64 ((rdS ((rdB s 0).2.1) ((rdB s 0).2.2) LO HI).1)), (13, .int .i64 ((rdS ((rdS ((rdB s 0).2.1) ((rdB s 0).2.2) LO HI).2.1) ((rdS ((rdB s 0).2.1) ((rdB s 0).2.2) LO HI).2.2) LO HI).1)), (14, .pointer (some ⟨b14, 0, none⟩)), (70, .bool (((decide ((rdI ((rdS ((rdS ((rdB s 0).2.1) ((rdB s 0).2.2) LO HI).2.1) ((rdS ((rdB s 0).2.1) ((rdB s 0).2.2) LO HI).2.2) LO HI).2.1) ((rdS ((rdS ((rdB s 0).2.1) ((rdB s 0).2.2) LO HI).2.1) ((rdS ((rdB s 0).2.1) ((rdB s 0).2.2) LO HI).2.2) LO HI).2.2)).2.2 ≠ 0)) || decide ((((rdB s 0).1 : Nat) : Int) < 1)) || decide (34 < (((rdB s 0).1 : Nat) : Int))))] [box b14 [.int .u8 (((rdB s 0).1 : Nat) : Int), .int .i64 ((rdS ((rdB s 0).2.1) ((rdB s 0).2.2) LO HI).1), .int .i64 ((rdS ((rdS ((rdB s 0).2.1) ((rdB s 0).2.2) LO HI).2.1) ((rdS ((rdB s 0).2.1) ((rdB s 0).2.2) LO HI).2.2) LO HI).1), .int .i64 ((rdI ((rdS ((rdS ((rdB s 0).2.1) ((rdB s 0).2.2) LO HI).2.1) ((rdS ((rdB s 0).2.1) ((rdB s 0).2.2) LO HI).2.2) LO HI).2.1) ((rdS ((rdS ((rdB s 0).2.1) ((rdB s 0).2.2) LO HI).2.1) ((rdS ((rdB s 0).2.1) ((rdB s 0).2.2) LO HI).2.2) LO HI).2.2)).1)] 64, box br [.slice Br_7 ((rdI ((rdS ((rdS ((rdB s 0).2.1) ((rdB s 0).2.2) LO HI).2.1) ((rdS ((rdB s 0).2.1) ((rdB s 0).2.2) LO HI).2.2) LO HI).2.1) ((rdS ((rdS ((rdB s 0).2.1) ((rdB s 0).2.2) LO HI).2.1) ((rdS ((rdB s 0).2.1) ((rdB s 0).2.2) LO HI).2.2) LO HI).2.2)).2.1.length) qr_7, .int .i64 ((rdI ((rdS ((rdS ((rdB s 0).2.1) ((rdB s 0).2.2) LO HI).2.1) ((rdS ((rdB s 0).2.1) ((rdB s 0).2.2) LO HI).2.2) LO HI).2.1) ((rdS ((rdS ((rdB s 0).2.1) ((rdB s 0).2.2) LO HI).2.1) ((rdS ((rdB s 0).2.1) ((rdB s 0).2.2) LO HI).2.2) LO HI).2.2)).2.2)] 140, ros encY Br_7 ((rdI ((rdS ((rdS ((rdB s 0).2.1) ((rdB s 0).2.2) LO HI).2.1) ((rdS ((rdB s 0).2.1) ((rdB s 0).2.2) LO HI).2.2) LO HI).2.1) ((rdS ((rdS ((rdB s 0).2.1) ((rdB s 0).2.2) LO HI).2.1) ((rdS ((rdB s 0).2.1) ((rdB s 0).2.2) LO HI).2.2) LO HI).2.2)).2.1), box b2 [.int .i64 0, .int .i64 0, .slice none 0 0] 32, box b10 [.int .i64 ((v1 : Nat) : Int), .int .i64 ((v2 : Nat) : Int), .slice Ao O.length qo] 32, ros encY A p, rows Ins.cells 64 4 Ao qo O] _
   refine To.cond rfl (fun c70 => ?_) (fun c70 => ?_)
   ·
    simp only [Bool.or_eq_false_iff, Bool.or_eq_true, decide_eq_true_eq, decide_eq_false_iff_not] at c70
    have hno : instrV s = none := by rw [instr_eq, if_neg (by rintro ⟨h1, h2, h3⟩; rcases c70 with (h | h) | h; exact h h1; exact absurd (show (((cB s).1 : Nat) : Int) < 1 from h) (by omega); exact absurd (show 34 < (((cB s).1 : Nat) : Int) from h) (by omega))]
    refine To.seq (To.reg ?_)
    refine To.r (Rd.build (vs := []) (cells := [.int .i64 0, .int .i64 0, .slice none 0 0]) rfl rfl rfl (by kernel_rfl)) ?_
    refine To.u (Up.storeS (i := 3) rfl rfl rfl r32 rfl rfl rfl (box_takesAll rfl)) ?_
    refine To.a ?_
    refine To.a (To.nil (To.thenN (To.ret (To.thenR (To.blockR (To.thenR (To.thenR (To.blockR (To.thenR ?_)))))))))
    refine To.nilRow (Ins.cells) 64 4 ?_
    refine To.endCTT [0] rfl (.inl rfl) Tryz.results10 rfl (i := 4) rfl r32 rfl rfl rfl ?_
    have hR : readV p = ((0, 0, []), 0, 6) := by
      rw [readV, hH]; show (if _ then _ else _) = _
      rw [if_neg (by omega), hI, show v3 - k = (v3 - (k + 1)) + 1 from by omega, instrs_bad hno]; rfl
    rw [hR]
    exact ⟨none, 0, rfl, rfl⟩
   simp only [Bool.or_eq_false_iff, Bool.or_eq_true, decide_eq_true_eq, decide_eq_false_iff_not] at c70
   have hie := Decidable.not_not.1 c70.1.1
   have hix : instrV s = some ((⟨(cB s).1, (cA s).1, (cA2 s).1, (cN s).1⟩ : Ins), (cN s).2.1) := by rw [instr_eq, if_pos ⟨hie, by have h : ¬ (((cB s).1 : Nat) : Int) < 1 := c70.1.2; omega, by have h : ¬ 34 < (((cB s).1 : Nat) : Int) := c70.2; omega⟩]
   refine To.skip (To.thenN (To.reg ?_))
   refine To.f fl32_2 ?_
   refine To.lo 4 c30 ?_
   refine To.r (Rd.loadS (i := 0) rfl rfl r64 rfl box_whole rfl) ?_
   refine To.mk rfl rfl rfl (Mk.sliceN (us := [.int .u8 (((rdB s 0).1 : Nat) : Int), .int .i64 ((rdS ((rdB s 0).2.1) ((rdB s 0).2.2) LO HI).1), .int .i64 ((rdS ((rdS ((rdB s 0).2.1) ((rdB s 0).2.2) LO HI).2.1) ((rdS ((rdB s 0).2.1) ((rdB s 0).2.2) LO HI).2.2) LO HI).1), .int .i64 ((rdI ((rdS ((rdS ((rdB s 0).2.1) ((rdB s 0).2.2) LO HI).2.1) ((rdS ((rdB s 0).2.1) ((rdB s 0).2.2) LO HI).2.2) LO HI).2.1) ((rdS ((rdS ((rdB s 0).2.1) ((rdB s 0).2.2) LO HI).2.1) ((rdS ((rdB s 0).2.1) ((rdB s 0).2.2) LO HI).2.2) LO HI).2.2)).1)]) rfl s30 rfl rfl rfl rfl rfl rfl) ?_
   rintro _ _ ⟨b75, rfl, rfl⟩
   refine To.ge rfl rfl rfl (Ge.append1 encIn (i := 7) (j := 0) (el := (⟨(rdB s 0).1, (rdS ((rdB s 0).2.1) ((rdB s 0).2.2) LO HI).1, (rdS ((rdS ((rdB s 0).2.1) ((rdB s 0).2.2) LO HI).2.1) ((rdS ((rdB s 0).2.1) ((rdB s 0).2.2) LO HI).2.2) LO HI).1, (rdI ((rdS ((rdS ((rdB s 0).2.1) ((rdB s 0).2.2) LO HI).2.1) ((rdS ((rdB s 0).2.1) ((rdB s 0).2.2) LO HI).2.2) LO HI).2.1) ((rdS ((rdS ((rdB s 0).2.1) ((rdB s 0).2.2) LO HI).2.1) ((rdS ((rdB s 0).2.1) ((rdB s 0).2.2) LO HI).2.2) LO HI).2.2)).1⟩ : Ins)) rfl s30 rfl rfl rfl rfl rfl (by first | omega | (simp only [List.length_append, List.length_cons, List.length_nil]; omega)) (by first | omega | (simp only [List.length_append, List.length_cons, List.length_nil]; omega))) ?_
   rintro _ _ ⟨A76, q76, rfl, rfl⟩
   refine To.f fl32_2 ?_
   refine To.u (Up.store (i := 5) rfl rfl rfl c30 rfl rfl (box_takes1 rfl)) ?_
   refine To.nil (To.blockN (To.thenN (To.reg ?_)))
   refine To.r (Rd.as (v' := .int .u64 ((k + 1 : Nat) : Int)) (congrArg (fun n : Nat => Value.int .u64 (n : Int)) (Nat.mod_eq_of_lt (by omega))) (Rd.addU (a := k) (b := 1) rfl rfl rfl)) ?_
   refine To.m (To.nil (To.thenN ?_))
   obtain ⟨e0, he0⟩ : ∃ z0, z0 = (rdI ((rdS ((rdS ((rdB s 0).2.1) ((rdB s 0).2.2) LO HI).2.1) ((rdS ((rdB s 0).2.1) ((rdB s 0).2.2) LO HI).2.2) LO HI).2.1) ((rdS ((rdS ((rdB s 0).2.1) ((rdB s 0).2.2) LO HI).2.1) ((rdS ((rdB s 0).2.1) ((rdB s 0).2.2) LO HI).2.2) LO HI).2.2)).2.2 := ⟨_, rfl⟩
   rw [← he0]
   have hz0 : e0 = 0 := by rw [he0]; exact hie
   clear he0
   subst hz0
   refine To.sub [(0, .slice A p.length q), (2, .pointer (some ⟨b2, 0, none⟩)), (5, .pointer (some ⟨br, 0, none⟩)), (10, .pointer (some ⟨b10, 0, none⟩)), (45, .int .u64 ((v3 : Nat) : Int)), (46, .int .u64 (((k + 1) : Nat) : Int))] ⟨rfl, rfl, rfl, rfl, rfl, rfl, trivial⟩ ?_
   refine To.only [4, 2, 3, 2, 2, 2] rfl ?_
   refine To.again (v3 - (k + 1)) (by omega) ⟨Br_7, qr_7, (rdI ((rdS ((rdS ((rdB s 0).2.1) ((rdB s 0).2.2) LO HI).2.1) ((rdS ((rdB s 0).2.1) ((rdB s 0).2.2) LO HI).2.2) LO HI).2.1) ((rdS ((rdS ((rdB s 0).2.1) ((rdB s 0).2.2) LO HI).2.1) ((rdS ((rdB s 0).2.1) ((rdB s 0).2.2) LO HI).2.2) LO HI).2.2)).2.1, A76, q76, (O ++ [(⟨(rdB s 0).1, (rdS ((rdB s 0).2.1) ((rdB s 0).2.2) LO HI).1, (rdS ((rdS ((rdB s 0).2.1) ((rdB s 0).2.2) LO HI).2.1) ((rdS ((rdB s 0).2.1) ((rdB s 0).2.2) LO HI).2.2) LO HI).1, (rdI ((rdS ((rdS ((rdB s 0).2.1) ((rdB s 0).2.2) LO HI).2.1) ((rdS ((rdB s 0).2.1) ((rdB s 0).2.2) LO HI).2.2) LO HI).2.1) ((rdS ((rdS ((rdB s 0).2.1) ((rdB s 0).2.2) LO HI).2.1) ((rdS ((rdB s 0).2.1) ((rdB s 0).2.2) LO HI).2.2) LO HI).2.2)).1⟩ : Ins)]), k + 1, rfl, rfl, rfl, (by omega), (okS.rdI (okS.rdS (okS.rdS (okS.rdB hoks 0) ((rdB s 0).2.2) LO HI) ((rdS ((rdB s 0).2.1) ((rdB s 0).2.2) LO HI).2.2) LO HI) ((rdS ((rdS ((rdB s 0).2.1) ((rdB s 0).2.2) LO HI).2.1) ((rdS ((rdB s 0).2.1) ((rdB s 0).2.2) LO HI).2.2) LO HI).2.2)), hr_7, (Nat.le_trans (cN_len s) hsp), (by rw [List.length_append]; simp only [List.length_cons, List.length_nil]; omega), (by rw [hI, show v3 - k = (v3 - (k + 1)) + 1 from by omega, instrs_step hix, acc_step]; rfl)⟩
  refine To.exit (To.thenX (To.thenX (To.blockX (To.thenN (To.seq ?_)))))
  refine To.flow [box b10 [.int .i64 ((v1 : Nat) : Int), .int .i64 ((v2 : Nat) : Int), .slice Ao O.length qo] 32] [⟨0, [], 0⟩, ⟨1, [], 0⟩, ⟨2, [], 0⟩, ⟨3, [], 0⟩, ⟨4, [], 5⟩, ⟨5, [], 0⟩, ⟨6, [], 5⟩, ⟨7, [], 0⟩, ⟨8, [], 0⟩] mixed (by kernel_rfl) (oks_cons (oks_at 2 rfl) (oks_nil _)) ?_
  refine FlowS.f rfl (Rd.loadS (i := 0) rfl rfl r32 rfl box_whole rfl) ?_
  refine FlowS.mo ?_
  refine FlowS.f rfl (Rd.len rfl rfl Tryz.underlying38) ?_
  refine FlowS.mo ?_
  refine FlowS.call [1] rfl rfl rfl rfl (Ent.fn rfl rfl ca27) rfl (left_fn br Bk s.length qk 0) ?_
  rintro _ _ ⟨rfl, rfl⟩
  refine ⟨oks_cons (oks_at 2 rfl) (oks_nil _), ?_⟩
  refine FlowS.f rfl (Rd.sub64 rfl rfl rfl (by omega)) ?_
  refine FlowS.up rfl rfl rfl (Up.storeS (i := 1) rfl rfl rfl r32 rfl rfl rfl (box_takesAll rfl)) (oks_cons (oks_at 2 rfl) (oks_nil _)) ?_
  refine FlowS.f rfl (Rd.assign rfl rfl) ?_
  refine FlowS.f rfl (Rd.assign rfl rfl) ?_
  refine FlowS.fin ?_
  refine To.thenN (To.ret ?_)
  refine To.endCTT [5] rfl (.inl rfl) Tryz.results10 rfl (i := 1) rfl r32 rfl rfl rfl ?_
  have hR : readV p = ((v1, v2, O), p.length - s.length, 0) := by
    rw [readV, hH]; show (if _ then _ else _) = _
    rw [if_neg (by omega), hI, show v3 - k = 0 from by omega]; simp [instrsV]
  rw [hR]
  have hz : ((p.length - s.length : Nat) : Int) = (p.length : Int) - (s.length : Int) := by omega
  refine ⟨_, _, ?_, rfl⟩
  show _ = Value.tuple #[_, .int .i64 ((p.length - s.length : Nat) : Int), _]
  rw [hz]
end Go.Proofs.YtfkmjkooemjekaaGreatDoor
