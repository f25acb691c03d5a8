/- The reference verifies a unit. Own text (walks printed by sx.py). -/
import Derived.Test.YtfkmjkooemjekaaGreatDoorL1
import Derived.Test.YtfkmjkooemjekaaGreatDoorC6
set_option linter.unusedVariables false
set_option linter.unusedSimpArgs false
namespace Go.Proofs.YtfkmjkooemjekaaGreatDoor
open Go.RowKit Go.Flow Go.Mem Go.Sep
def verifyR (pr st : Int) (l : List Ins) : Int :=
  if 64 < st ∨ 4000 < l.length then 3 else if pr < 0 ∨ 4 < pr then 6 else if ¬ ∀ x ∈ l, formR pr l.length x = true then 6 else if (heightR l).2 = false ∨ (heightR l).1 ≠ st then 6 else 0
theorem verifyR_ok {pr st : Int} {l : List Ins} (h1 : ¬ (64 < st ∨ 4000 < l.length)) (h2 : ¬ (pr < 0 ∨ 4 < pr)) (h3 : ∀ x ∈ l, formR pr l.length x = true) : verifyR pr st l = if (heightR l).2 = false ∨ (heightR l).1 ≠ st then 6 else 0 := by
  rw [verifyR, if_neg h1, if_neg h2, if_neg (fun h => h h3)]
set_option maxHeartbeats 2000000 in
set_option maxRecDepth 100000 in
theorem rverify_fn (pr st : Int) (A : Option Addr) (q : Nat) (l : List Ins) :
    Does Tryz.prog 9 [.agg #[.int .i64 pr, .int .i64 st, .slice A l.length q]] [ros Ins.rcells A l] (fun v _ => v = .int .i64 (verifyR pr st l)) := by
  refine Does.enter Tryz.func9 rfl Tryz.ntmps9 rfl (fun w0 => ?_)
  refine To.seq (To.reg ?_)
  refine To.boxed rfl rfl rfl rfl rfl rfl (fun b1 => ?_)
  refine To.a (To.nil (To.thenN (To.seq (To.seq (To.reg ?_)))))
  refine To.f fl28_1 ?_
  refine To.lo 0 c3 ?_
  refine To.r (Rd.gtr rfl rfl rfl) ?_
  refine To.rdP rfl rfl rfl (Rd.move rfl rfl) (fun g10 => ?_) (fun g10 => ?_)
  ·
   refine To.k ?_
   refine To.k ?_
   refine To.k ?_
   refine To.k ?_
   refine To.r (Rd.pickT rfl rfl rfl) ?_
   refine To.nil (To.thenN ?_)
   refine To.condT rfl ?_
   refine To.seq (To.reg (To.a (To.nil (To.thenN (To.ret (To.thenR ?_))))))
   refine To.end1 (.inl rfl) Tryz.results9 rfl ?_
   rw [verifyR, if_pos (by omega)]
  refine To.f fl28_2 ?_
  refine To.lo 0 c26 ?_
  refine To.r (Rd.len rfl rfl Tryz.underlying26) ?_
  refine To.r (Rd.gtr rfl rfl rfl) ?_
  refine To.r (Rd.pickF rfl rfl rfl) ?_
  refine To.nil (To.thenN ?_)
  refine To.condP rfl (fun c15 => ?_) (fun c15 => ?_)
  ·
   refine To.seq (To.reg (To.a (To.nil (To.thenN (To.ret (To.thenR ?_))))))
   refine To.end1 (.inl rfl) Tryz.results9 rfl ?_
   rw [verifyR, if_pos (by omega)]
  refine To.skip (To.thenN (To.seq (To.seq (To.reg ?_))))
  refine To.f fl28_0 ?_
  refine To.lo 0 c3 ?_
  refine To.r (Rd.lss rfl rfl rfl) ?_
  refine To.rdP rfl rfl rfl (Rd.move rfl rfl) (fun g19 => ?_) (fun g19 => ?_)
  ·
   refine To.k ?_
   refine To.k ?_
   refine To.k ?_
   refine To.r (Rd.pickT rfl rfl rfl) ?_
   refine To.nil (To.thenN ?_)
   refine To.condT rfl ?_
   refine To.seq (To.reg (To.a (To.nil (To.thenN (To.ret (To.thenR ?_))))))
   refine To.end1 (.inl rfl) Tryz.results9 rfl ?_
   rw [verifyR, if_neg (by omega), if_pos (by omega)]
  refine To.f fl28_0 ?_
  refine To.lo 0 c3 ?_
  refine To.r (Rd.gtr rfl rfl rfl) ?_
  refine To.r (Rd.pickF rfl rfl rfl) ?_
  refine To.nil (To.thenN ?_)
  refine To.condP rfl (fun c23 => ?_) (fun c23 => ?_)
  ·
   refine To.seq (To.reg (To.a (To.nil (To.thenN (To.ret (To.thenR ?_))))))
   refine To.end1 (.inl rfl) Tryz.results9 rfl ?_
   rw [verifyR, if_neg (by omega), if_pos (by omega)]
  refine To.skip (To.thenN (To.seq (To.seq (To.reg ?_))))
  refine To.f fl28_2 ?_
  refine To.lo 0 c26 ?_
  refine To.r (Rd.len rfl rfl Tryz.underlying26) ?_
  refine To.m (To.nil (To.thenN (To.block ?_)))
  refine To.sub [(1, .pointer (some ⟨b1, 0, none⟩)), (25, .slice A l.length q), (26, .int .i64 ((l.length : Nat) : Int)), (27, .int .i64 ((0 : Nat) : Int))] ⟨rfl, rfl, rfl, rfl, trivial⟩ ?_
  refine To.only [0, 0] rfl ?_
  refine To.loop (fun mz ρ Γ => ∃ (i : Nat), ρ = [(1, .pointer (some ⟨b1, 0, none⟩)), (25, .slice A l.length q), (26, .int .i64 ((l.length : Nat) : Int)), (27, .int .i64 ((i : Nat) : Int))] ∧ Γ = [box b1 [.int .i64 pr, .int .i64 st, .slice A l.length q] 28, ros Ins.rcells A l] ∧ mz = l.length - i ∧ (i ≤ l.length) ∧ (∀ x ∈ l.take i, formR pr l.length x = true)) (l.length - 0) ⟨0, rfl, rfl, rfl, (Nat.zero_le _), (fun x hx => by simp at hx)⟩ ?_
  rintro mz _ _ ⟨i, rfl, rfl, rfl, hi, hI⟩
  refine To.seq (To.reg ?_)
  refine To.r (Rd.lss rfl rfl rfl) ?_
  refine To.nil (To.thenN (To.seq ?_))
  refine To.condP rfl (fun c28 => ?_) (fun c28 => ?_)
  ·
   obtain ⟨x, hx⟩ : ∃ z0, l[i]? = some z0 := ⟨l[i]'(by omega), List.getElem?_eq_getElem _⟩
   refine To.skip (To.thenN (To.seq (To.block (To.seq (To.reg ?_)))))
   refine To.r (Rd.indexRos encRi (i := 1) (j := i) rfl rfl rfl s26 rfl hx) ?_
   refine To.r (Rd.loadS (i := 1) rfl rfl r61 rfl (ros_gives encRi hx) (encRi.len _)) ?_
   refine To.alloc rfl rfl rfl rfl z61 (fun b4 => ?_)
   refine To.u (Up.storeS (i := 0) rfl rfl rfl r61 rfl rfl rfl (box_takesAll rfl)) ?_
   refine To.nil (To.thenN (To.seq (To.reg ?_)))
   refine To.r (Rd.loadS (i := 1) rfl rfl r28 rfl box_whole rfl) ?_
   refine To.r (Rd.loadS (i := 0) rfl rfl r61 rfl box_whole rfl) ?_
   refine To.callV rfl rfl rfl (Ent.fn rfl rfl ca19) (rform_fn pr st A q l x) rfl (oks_nil _) ?_
   refine To.r (Rd.not rfl rfl) ?_
   refine To.nil (To.thenN ?_)
   refine To.cond rfl (fun c34 => ?_) (fun c34 => ?_)
   ·
    refine To.seq (To.reg (To.a (To.nil (To.thenN (To.ret (To.blockR (To.thenR (To.thenR (To.blockR (To.thenR ?_))))))))))
    refine To.end1 (.inl rfl) Tryz.results9 rfl ?_
    rw [verifyR, if_neg (by omega), if_neg (by omega), if_pos (fun h => by rw [h x (List.mem_of_getElem? hx)] at c34; cases c34)]
   refine To.skip (To.blockN (To.thenN (To.reg ?_)))
   refine To.r (Rd.inc rfl rfl rfl (by omega)) ?_
   refine To.m (To.nil (To.thenN ?_))
   refine To.sub [(1, .pointer (some ⟨b1, 0, none⟩)), (25, .slice A l.length q), (26, .int .i64 ((l.length : Nat) : Int)), (27, .int .i64 (((i + 1) : Nat) : Int))] ⟨rfl, rfl, rfl, rfl, trivial⟩ ?_
   refine To.only [1, 1] rfl ?_
   refine To.again (l.length - (i + 1)) (by omega) ⟨i + 1, rfl, rfl, rfl, (by omega), (fun z hz => by
     rw [take_of_get hx] at hz
     rcases List.mem_append.1 hz with h0 | h0
     · exact hI z h0
     · rw [List.mem_singleton.1 h0]; simpa using c34)⟩
  refine To.exit (To.thenX (To.thenX (To.blockX (To.thenN (To.seq (To.seq ?_))))))
  have hall : ∀ x ∈ l, formR pr l.length x = true := by rw [show l = l.take i from (List.take_of_length_le (by omega)).symm]; rw [List.take_of_length_le (by omega : l.length ≤ i)] at hI ⊢; exact hI
  refine To.reg ?_
  refine To.r (Rd.loadS (i := 0) rfl rfl r28 rfl box_whole rfl) ?_
  refine To.callV rfl rfl rfl (Ent.fn rfl rfl ca20) (rheight_fn pr st A q l (by omega) hall) rfl (oks_cons (oks_at 1 rfl) (oks_nil _)) ?_
  refine To.m ?_
  refine To.r (Rd.extract rfl rfl rfl) ?_
  refine To.r (Rd.extract rfl rfl rfl) ?_
  refine To.a ?_
  refine To.a (To.nil (To.thenN (To.seq (To.reg ?_))))
  refine To.m ?_
  refine To.r (Rd.not rfl rfl) ?_
  refine To.rdB rfl rfl rfl (Rd.move rfl rfl) (fun g43 => ?_) (fun g43 => ?_)
  ·
   refine To.k ?_
   refine To.k ?_
   refine To.k ?_
   refine To.k ?_
   refine To.r (Rd.pickT rfl rfl rfl) ?_
   refine To.nil (To.thenN ?_)
   refine To.condT rfl ?_
   refine To.seq (To.reg (To.a (To.nil (To.thenN (To.ret (To.thenR ?_))))))
   refine To.end1 (.inl rfl) Tryz.results9 rfl ?_
   rw [verifyR_ok (by omega) (by omega) hall]
   rcases hgd : (heightR l).2 with _ | _ <;> simp_all
  refine To.m ?_
  refine To.f fl28_1 ?_
  refine To.lo 0 c3 ?_
  refine To.r (Rd.neq rfl rfl rfl) ?_
  refine To.r (Rd.pickF rfl rfl rfl) ?_
  refine To.nil (To.thenN ?_)
  refine To.condP rfl (fun c48 => ?_) (fun c48 => ?_)
  ·
   refine To.seq (To.reg (To.a (To.nil (To.thenN (To.ret (To.thenR ?_))))))
   refine To.end1 (.inl rfl) Tryz.results9 rfl ?_
   rw [verifyR_ok (by omega) (by omega) hall]
   rcases hgd : (heightR l).2 with _ | _ <;> simp_all
  refine To.skip (To.thenN (To.seq (To.reg (To.a (To.nil (To.thenN (To.ret ?_)))))))
  refine To.end1 (.inl rfl) Tryz.results9 rfl ?_
  rw [verifyR_ok (by omega) (by omega) hall]
  rcases hgd : (heightR l).2 with _ | _ <;> simp_all
end Go.Proofs.YtfkmjkooemjekaaGreatDoor
