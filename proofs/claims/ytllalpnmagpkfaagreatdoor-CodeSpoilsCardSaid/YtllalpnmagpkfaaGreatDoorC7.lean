/- The reference verifies a unit. Own text (walks printed by sx.py). -/
import Derived.Test.YtllalpnmagpkfaaGreatDoorC6
set_option linter.unusedVariables false
set_option linter.unusedSimpArgs false
set_option maxHeartbeats 2000000
set_option maxRecDepth 100000
namespace Go.Proofs.YtllalpnmagpkfaaGreatDoor
open Go.RowKit Go.Flow Go.Mem Go.Sep
def verifyR (pr st : Int) (l : List Ins) : Int :=
 if 64 < st ∨ 4000 < l.length then 3 else if pr < 0 ∨ 4 < pr then 6 else if ¬ ∀ x ∈ l, formR pr l.length x = true then 6 else if (heightR l).2 = false ∨ (heightR l).1 ≠ st then 6 else 0
theorem verifyR_ok {pr st : Int} {l : List Ins} (h1 : ¬ (64 < st ∨ 4000 < l.length)) (h2 : ¬ (pr < 0 ∨ 4 < pr)) (h3 : ∀ x ∈ l, formR pr l.length x = true) : verifyR pr st l = if (heightR l).2 = false ∨ (heightR l).1 ≠ st then 6 else 0 := by
 rw [verifyR, if_neg h1, if_neg h2, if_neg (fun h => h h3)]
theorem rverify_fn (pr st : Int) (A : Option Addr) (q : Nat) (l : List Ins) :
    Does Tryz.prog 31 [.agg #[.int .i64 pr, .int .i64 st, .slice A l.length q]] [ros Ins.rc A l] (fun v _ => v = .int .i64 (verifyR pr st l)) := by
 refine Does.enter Tryz.func31 rfl Tryz.ntmps31 rfl (fun w0 => ?_)
 refine To.s (To.g ?_)
 refine To.boxed rfl rfl rfl rfl rfl rfl (fun b1 => ?_)
 refine To.a (To.n (To.t (To.s (To.s (To.g ?_)))))
 refine To.f fl37_1 ?_
 refine To.lo 0 c3 ?_
 refine To.gt ?_
 refine To.rdP rfl rfl rfl (Rd.move rfl rfl) (fun g10 => ?_) (fun g10 => ?_)
 refine To.k ?_
 refine To.k ?_
 refine To.k ?_
 refine To.k ?_
 refine To.pT ?_
 refine To.n (To.t ?_)
 refine To.condT rfl ?_
 refine To.s (To.g (To.a (To.n (To.t (To.rt (To.tr ?_))))))
 refine To.end1 (.inl rfl) Tryz.results31 rfl ?_
 rw [verifyR, if_pos (by omega)]
 refine To.f fl37_2 ?_
 refine To.lo 0 c35 ?_
 refine To.r (Rd.len rfl rfl Tryz.underlying35) ?_
 refine To.gt ?_
 refine To.pF ?_
 refine To.n (To.t ?_)
 refine To.cp rfl (fun c15 => ?_) (fun c15 => ?_)
 refine To.s (To.g (To.a (To.n (To.t (To.rt (To.tr ?_))))))
 refine To.end1 (.inl rfl) Tryz.results31 rfl ?_
 rw [verifyR, if_pos (by omega)]
 refine To.sp (To.t (To.s (To.s (To.g ?_))))
 refine To.f fl37_0 ?_
 refine To.lo 0 c3 ?_
 refine To.lt ?_
 refine To.rdP rfl rfl rfl (Rd.move rfl rfl) (fun g19 => ?_) (fun g19 => ?_)
 refine To.k ?_
 refine To.k ?_
 refine To.k ?_
 refine To.pT ?_
 refine To.n (To.t ?_)
 refine To.condT rfl ?_
 refine To.s (To.g (To.a (To.n (To.t (To.rt (To.tr ?_))))))
 refine To.end1 (.inl rfl) Tryz.results31 rfl ?_
 rw [verifyR, if_neg (by omega), if_pos (by omega)]
 refine To.f fl37_0 ?_
 refine To.lo 0 c3 ?_
 refine To.gt ?_
 refine To.pF ?_
 refine To.n (To.t ?_)
 refine To.cp rfl (fun c23 => ?_) (fun c23 => ?_)
 refine To.s (To.g (To.a (To.n (To.t (To.rt (To.tr ?_))))))
 refine To.end1 (.inl rfl) Tryz.results31 rfl ?_
 rw [verifyR, if_neg (by omega), if_pos (by omega)]
 refine To.sp (To.t (To.s (To.s (To.g ?_))))
 refine To.f fl37_2 ?_
 refine To.lo 0 c35 ?_
 refine To.r (Rd.len rfl rfl Tryz.underlying35) ?_
 refine To.m (To.n (To.t (To.b ?_)))
 refine To.sub [(1, pv b1), (25, .slice A l.length q), (26, nv l.length), (27, nv 0)] ⟨rfl, rfl, rfl, rfl, trivial⟩ ?_
 refine To.only [0, 0] rfl ?_
 refine To.loop (fun mz ρ Γ => ∃ (i : Nat), ρ = [(1, pv b1), (25, .slice A l.length q), (26, nv l.length), (27, nv i)] ∧ Γ = [box b1 [.int .i64 pr, .int .i64 st, .slice A l.length q] 37, ros Ins.rc A l] ∧ mz = l.length - i ∧ (i ≤ l.length) ∧ (∀ x ∈ l.take i, formR pr l.length x = true)) (l.length - 0) ⟨0, rfl, rfl, rfl, (Nat.zero_le _), (fun x hx => by simp at hx)⟩ ?_
 rintro mz _ _ ⟨i, rfl, rfl, rfl, hi, hI⟩
 refine To.s (To.g ?_)
 refine To.lt ?_
 refine To.n (To.t (To.s ?_))
 refine To.cp rfl (fun c28 => ?_) (fun c28 => ?_)
 obtain ⟨x, hx⟩ : ∃ z0, l[i]? = some z0 := ⟨l[i]'(by omega), gge _⟩
 refine To.sp (To.t (To.s (To.b (To.s (To.g ?_)))))
 refine To.r (Rd.ixo encRi (i := 1) (j := i) rfl rfl rfl s35 rfl hx) ?_
 refine To.r (Rd.lS (i := 1) rfl rfl r54 rfl (rsg encRi hx) (encRi.len _)) ?_
 refine To.alloc rfl rfl rfl rfl z54 (fun b4 => ?_)
 refine To.u (Up.storeS (i := 0) rfl rfl rfl r54 rfl rfl rfl (bta rfl)) ?_
 refine To.n (To.t (To.s (To.g ?_)))
 refine To.r (Rd.lS (i := 1) rfl rfl r37 rfl box_whole rfl) ?_
 refine To.r (Rd.lS (i := 0) rfl rfl r54 rfl box_whole rfl) ?_
 refine To.cV rfl rfl rfl (Ent.fn rfl rfl ca74) (rform_fn pr st A q l x) rfl (ocn _) ?_
 refine To.nt ?_
 refine To.n (To.t ?_)
 refine To.cond rfl (fun c34 => ?_) (fun c34 => ?_)
 refine To.s (To.g (To.a (To.n (To.t (To.rt (To.br (To.tr (To.tr (To.br (To.tr ?_))))))))))
 refine To.end1 (.inl rfl) Tryz.results31 rfl ?_
 rw [verifyR, if_neg (by omega), if_neg (by omega), if_pos (fun h => by rw [h x (mog hx)] at c34; cases c34)]
 refine To.sp (To.bn (To.t (To.g ?_)))
 refine To.r (Rd.inc rfl rfl rfl (by omega)) ?_
 refine To.m (To.n (To.t ?_))
 refine To.sub [(1, pv b1), (25, .slice A l.length q), (26, nv l.length), (27, nv ((i + 1)))] ⟨rfl, rfl, rfl, rfl, trivial⟩ ?_
 refine To.only [1, 1] rfl ?_
 refine To.ag (l.length - (i + 1)) (by omega) ⟨i + 1, rfl, rfl, rfl, (by omega), (fun z hz => by
  rw [take_of_get hx] at hz
  rcases List.mem_append.1 hz with h0 | h0
  · exact hI z h0
  · rw [List.mem_singleton.1 h0]; simpa using c34)⟩
 refine To.ex (To.tx (To.tx (To.bx (To.t (To.s (To.s ?_))))))
 have hall : ∀ x ∈ l, formR pr l.length x = true := by rw [show l = l.take i from (List.take_of_length_le (by omega)).symm]; rw [List.take_of_length_le (by omega : l.length ≤ i)] at hI ⊢; exact hI
 refine To.g ?_
 refine To.r (Rd.lS (i := 0) rfl rfl r37 rfl box_whole rfl) ?_
 refine To.cV rfl rfl rfl (Ent.fn rfl rfl ca45) (rheight_fn pr st A q l (by omega) hall) rfl (ocs (oca 1 rfl) (ocn _)) ?_
 refine To.m ?_
 refine To.r (Rd.extract rfl rfl rfl) ?_
 refine To.r (Rd.extract rfl rfl rfl) ?_
 refine To.a ?_
 refine To.a (To.n (To.t (To.s (To.g ?_))))
 refine To.m ?_
 refine To.nt ?_
 refine To.rdB rfl rfl rfl (Rd.move rfl rfl) (fun g43 => ?_) (fun g43 => ?_)
 refine To.k ?_
 refine To.k ?_
 refine To.k ?_
 refine To.k ?_
 refine To.pT ?_
 refine To.n (To.t ?_)
 refine To.condT rfl ?_
 refine To.s (To.g (To.a (To.n (To.t (To.rt (To.tr ?_))))))
 refine To.end1 (.inl rfl) Tryz.results31 rfl ?_
 rw [verifyR_ok (by omega) (by omega) hall]
 rcases hgd : (heightR l).2 with _ | _ <;> simp_all
 refine To.m ?_
 refine To.f fl37_1 ?_
 refine To.lo 0 c3 ?_
 refine To.ne ?_
 refine To.pF ?_
 refine To.n (To.t ?_)
 refine To.cp rfl (fun c48 => ?_) (fun c48 => ?_)
 refine To.s (To.g (To.a (To.n (To.t (To.rt (To.tr ?_))))))
 refine To.end1 (.inl rfl) Tryz.results31 rfl ?_
 rw [verifyR_ok (by omega) (by omega) hall]
 rcases hgd : (heightR l).2 with _ | _ <;> simp_all
 refine To.sp (To.t (To.s (To.g (To.a (To.n (To.t (To.rt ?_)))))))
 refine To.end1 (.inl rfl) Tryz.results31 rfl ?_
 rw [verifyR_ok (by omega) (by omega) hall]
 rcases hgd : (heightR l).2 with _ | _ <;> simp_all
end Go.Proofs.YtllalpnmagpkfaaGreatDoor
