/- CodeTexts: the walk of the law. Own text (walks printed by sx.py). -/
import Derived.Test.YtllalpnmagpkfaaGreatDoorYb
import Derived.Test.YtllalpnmagpkfaaGreatDoorY10
import Derived.Test.YtllalpnmagpkfaaGreatDoorA19
set_option linter.unusedVariables false
set_option linter.unusedSimpArgs false
namespace Go.Proofs.YtllalpnmagpkfaaGreatDoor
open Go.RowKit Go.Flow Go.Mem Go.Sep Go.In
theorem Does.less {P : Program} {f : FuncId} {args : List Value} {Γ : List Chunk} {R : Value → List Chunk → Prop} {c : Chunk} (ho : c.owns = []) (hr : c.reads = []) (hh : ∀ w, c.holds w) (h : Does P f args (Γ ++ [c]) R) : Does P f args Γ R := fun w hs => by
 have e1 : owns (Γ ++ [c]) = owns Γ := by simp [owns, ho]
 have e2 : reads (Γ ++ [c]) = reads Γ := by simp [reads, hr]
 refine (h w ⟨fun x hx => ?_, by rw [e1]; exact hs.nodup, by rw [e1, e2]; exact hs.apart⟩).mono fun e w' ⟨v, Γ', h1, h2, h3⟩ => ⟨v, Γ', h1, h2, ⟨h3.sat, ?_, ?_, ?_⟩⟩
 · rcases List.mem_append.1 hx with hx | hx
   · exact hs.each x hx
   · rw [List.mem_singleton.1 hx]; exact hh w
 · have := h3.keeps; rwa [e1] at this
 · have := h3.own; rwa [e1] at this
 · have := h3.rd; rwa [e1, e2] at this
theorem inR_set {L : List Ins} {j : Nat} {z2 : Ins} (h : ∀ i z, i < j → L[i]? = some z → InR z) (h2 : InR z2) : ∀ i z, i < j + 1 → (L.set j z2)[i]? = some z → InR z := fun i y hi hy => by
 by_cases e : i = j
 · subst e
   have hl : i < (L.set i z2).length := (List.getElem?_eq_some_iff.1 hy).1
   rw [List.length_set] at hl
   rw [List.getElem?_set_self hl] at hy
   cases hy; exact h2
 · rw [List.getElem?_set_ne (by omega)] at hy
   exact h i y (by omega) hy
theorem rg_set {L : List Ins} {j : Nat} {z2 : Ins} (h : ∀ z ∈ L, z.op < 256 ∧ Rg z) (h2 : z2.op < 256 ∧ Rg z2) : ∀ z ∈ L.set j z2, z.op < 256 ∧ Rg z := fun z hz => by
 rcases List.mem_or_eq_of_mem_set hz with hz | hz
 · exact h z hz
 · rw [hz]; exact h2
theorem opM_rg {x : Ins} (h : Rg x) : (opM x).op < 256 ∧ Rg (opM x) := ⟨by show 1 + x.op % 34 < 256; omega, h⟩
theorem sp0_fn (p : Pl) (hp : p.Ok) (w : Nat) (hw : w < 256) : Does Tryz.prog 18 [.agg #[.int .u8 ((p.flags : Nat) : Int), .slice p.Al p.links.length p.ql, .slice p.Ac p.comps.length p.qc], .int .u8 ((w : Nat) : Int), .slice none 0 0] [all p.kids] (fun v Γ' => ∃ (F : Fl) (np : Nat) (st : Int) (A : Option Addr) (q : Nat) (l : List Ins), v = .agg #[nv np, .int .i64 st, .slice A l.length q] ∧ Γ' = [rows Ins.rc 54 4 A q l] ∧ GoodF F.pure ∧ SpR F true np st l) :=
 Does.less (c := ros Sp.cells none ([] : List Sp)) rfl rfl (fun _ => .inl rfl) (spoiled_fn p hp w hw none 0 [] fun e he => (by cases he))
theorem sp0_in {F : Fl} (hG : GoodF F.pure) {np : Nat} {st : Int} {l : List Ins} (h : SpR F true np st l) : ∀ x ∈ l, InR x := by
 obtain ⟨ci, c, s, hc, _, _, e⟩ := h.same rfl
 rw [e]; exact rU_in hG hc 1 s
set_option maxHeartbeats 8000000 in
set_option maxRecDepth 100000 in
theorem texts_fn (p : Pl) (hp : p.Ok) (w : Nat) (hw : w < 256) (pr ss : Nat) (Ar : Option Addr) (qr : Nat) (rl : List Sp) (hpr : pr < 256) (hss : ss < 256) (hrl : ∀ e ∈ rl, (e.t < 256 ∧ e.f < 256) ∧ -2147483648 ≤ e.v ∧ e.v ≤ 2147483647) :
    Does Tryz.prog 4 [.agg #[.int .u8 ((p.flags : Nat) : Int), .slice p.Al p.links.length p.ql, .slice p.Ac p.comps.length p.qc], .int .u8 ((w : Nat) : Int), .agg #[.int .u8 ((pr : Nat) : Int), .int .u8 ((ss : Nat) : Int), .slice Ar rl.length qr]] [glc, tabC, p10c, all p.kids, ros Sp.cells Ar rl] (fun v _ => v = .bool true) := by
 refine Does.enter Tryz.func4 rfl Tryz.ntmps4 rfl (fun w0 => ?_)
 refine To.s (To.g ?_)
 refine To.boxed rfl rfl rfl rfl rfl rfl (fun b3 => ?_)
 refine To.boxed rfl rfl rfl rfl rfl rfl (fun b5 => ?_)
 refine To.a (To.n (To.t (To.s (To.s (To.g ?_)))))
 refine To.cV rfl rfl rfl (Ent.fn rfl rfl ca12) (awake_fn) rfl (oks_gl 2 rfl) ?_
 refine To.nt ?_
 refine To.n (To.t ?_)
 refine To.condF rfl ?_
 refine To.sp (To.t (To.s ?_))
 refine To.regionT (tel []) mixed ?_
 refine To.flowT [box b3 [.int .u8 ((p.flags : Nat) : Int), .slice p.Al p.links.length p.ql, .slice p.Ac p.comps.length p.qc] 25, box b5 [.int .u8 ((pr : Nat) : Int), .int .u8 ((ss : Nat) : Int), .slice Ar rl.length qr] 50] [⟨0, [], 0⟩, ⟨1, [], 0⟩, ⟨3, [], 0⟩, ⟨2, [], 4⟩, ⟨4, [2], 4⟩, ⟨5, [], 2⟩, ⟨6, [], 2⟩, ⟨7, [2, 4, 5, 6], 5⟩, ⟨8, [], 5⟩] (by kernel_rfl) rfl (ocs (oca 1 rfl) (ocs (oca 0 rfl) (ocn _))) ?_
 refine W.f rfl (Rd.lS (i := 0) rfl rfl r25 rfl box_whole rfl) ?_
 refine W.mo ?_
 refine W.f rfl (Rd.lS (i := 1) rfl rfl r50 rfl box_whole rfl) ?_
 refine W.callM rfl rfl rfl rfl rfl (Ent.fn rfl rfl ca18) (sp0_fn p hp w hw) (by show owns p.kids ++ [] = []; rw [(Pl.lax p).owns]; rfl) (ocs (oca 5 rfl) (ocn _)) ?_
 rintro _ _ ⟨F, np, st, Au, qu, l, rfl, rfl, hG, hR⟩
 refine ⟨rfl, ?_⟩
 refine W.callM rfl rfl rfl rfl rfl (Ent.fn rfl rfl ca19) (unit_fn pr ss Ar qr rl hpr hss hrl) rfl (ocs (oca 7 rfl) (ocn _)) ?_
 rintro _ _ ⟨l2, B, q2, rfl, rfl, hlen, hop⟩
 refine ⟨rfl, ?_⟩
 refine W.mk rfl rfl rfl rfl rfl (Mk.alloc rfl z37) ?_
 rintro _ _ ⟨b7, rfl, rfl⟩
 refine W.mk rfl rfl rfl rfl rfl (Mk.alloc rfl z37) ?_
 rintro _ _ ⟨b8, rfl, rfl⟩
 refine W.up rfl rfl rfl (Up.storeS (i := 1) rfl rfl rfl r37 rfl rfl rfl (bta rfl)) (ocs (oca 5 rfl) (ocs (oca 4 rfl) (ocn _))) ?_
 refine W.up rfl rfl rfl (Up.storeS (i := 0) rfl rfl rfl r37 rfl rfl rfl (bta rfl)) (ocs (oca 5 rfl) (ocs (oca 4 rfl) (ocn _))) ?_
 refine W.fin ?_
 refine To.t (To.s (To.s (To.g ?_)))
 refine To.f fl37_2 ?_
 refine To.lo 0 c35 ?_
 refine To.r (Rd.len rfl rfl Tryz.underlying35) ?_
 refine To.m (To.n (To.t (To.b ?_)))
 refine To.sub [(7, pv b7), (8, pv b8), (18, .slice B l2.length q2), (19, nv l2.length), (20, nv 0)] ⟨rfl, rfl, rfl, rfl, rfl, trivial⟩ ?_
 refine To.del10 (To.del9 (To.del6 (To.del5 (To.del4 (To.up3 (To.up1 (To.up2 ?_)))))))
 refine To.loop (fun mz ρ Γ => ∃ (M : List Ins) (k : Nat), ρ = [(7, pv b7), (8, pv b8), (18, .slice B M.length q2), (19, nv M.length), (20, nv k)] ∧ Γ = [box b7 [nv np, .int .i64 st, .slice Au l.length qu] 37, box b8 [nv (pr % 6), nv (ss % 8), .slice B M.length q2] 37, rows Ins.rc 54 4 Au qu l, rows Ins.rc 54 4 B q2 M, tabC, p10c] ∧ mz = M.length - k ∧ (k ≤ M.length) ∧ (M.length ≤ 30) ∧ (∀ i z, i < k → M[i]? = some z → InR z) ∧ (∀ z ∈ M, z.op < 256 ∧ Rg z)) (l2.length - 0) ⟨l2, 0, rfl, rfl, rfl, (Nat.zero_le _), hlen, (fun i z h => by omega), hop⟩ ?_
 rintro mz _ _ ⟨M, k, rfl, rfl, rfl, hk, hMl, hMr, hMz⟩
 refine To.s (To.g ?_)
 refine To.lt ?_
 refine To.n (To.t (To.s ?_))
 refine To.cp rfl (fun c21 => ?_) (fun c21 => ?_)
 obtain ⟨x, hx⟩ : ∃ z0, M[k]? = some z0 := ⟨M[k]'(by omega), gge _⟩
 have hxo := hMz x (mog hx)
 refine To.sp (To.t (To.s (To.b (To.s (To.g (To.m ?_))))))
 refine To.a (To.n (To.t ?_))
 refine To.flow [] [⟨0, [], 0⟩, ⟨2, [], 0⟩, ⟨3, [], 0⟩, ⟨5, [], 0⟩, ⟨1, [], 1⟩, ⟨4, [], 1⟩, ⟨6, [], 1⟩, ⟨7, [], 0⟩, ⟨8, [], 1⟩, ⟨9, [], 0⟩, ⟨10, [], 0⟩, ⟨11, [], 1⟩, ⟨12, [], 0⟩, ⟨13, [], 5⟩] mixed (by kernel_rfl) (ocn _) ?_
 refine W.fi fl37_2 ?_
 refine W.mo ?_
 refine W.fi fl37_2 ?_
 refine W.mo ?_
 refine W.lo 1 c35 ?_
 refine W.lo 1 c35 ?_
 refine W.r rfl (Rd.ixr (i := 3) (j := k) rfl rfl rfl s35 rfl hx) ?_
 refine W.fi fl54_0 ?_
 refine W.r rfl (Rd.ld (i := 3) rfl rfl c3 rfl (gvt (f := 0) (rwg encRi hx) rfl)) ?_
 refine W.f rfl (Rd.remN (a := x.op) (b := 34) rfl rfl rfl (by omega)) ?_
 refine W.f rfl (Rd.addN (a := 1) (b := x.op % 34) rfl rfl rfl (by omega)) ?_
 refine W.r rfl (Rd.ixr (i := 3) (j := k) rfl rfl rfl s35 rfl hx) ?_
 refine W.fi fl54_0 ?_
 refine W.up rfl rfl rfl (Up.store (i := 3) rfl rfl rfl c3 rfl rfl (rows_takesF (f := 0) (y := x) (z := (⟨1 + x.op % 34, x.a, x.b, x.n⟩ : Ins)) encRi hx (by decide) rfl)) (ocn _) ?_
 refine W.fin ?_
 refine To.bn (To.t (To.g ?_))
 refine To.r (Rd.inc rfl rfl rfl (by omega)) ?_
 refine To.m (To.n (To.t ?_))
 refine To.sub [(7, pv b7), (8, pv b8), (18, .slice B (M.set k (⟨1 + x.op % 34, x.a, x.b, x.n⟩ : Ins)).length q2), (19, nv ((M.set k (⟨1 + x.op % 34, x.a, x.b, x.n⟩ : Ins)).length)), (20, nv ((k + 1)))] ⟨rfl, rfl, (congrArg (fun n : Nat => some (Value.slice B n q2)) List.length_set.symm), (congrArg (fun n : Nat => some (nv n)) List.length_set.symm), rfl, trivial⟩ ?_
 refine To.as [box b7 [nv np, .int .i64 st, .slice Au l.length qu] 37, box b8 [nv (pr % 6), nv (ss % 8), .slice B (M.set k (⟨1 + x.op % 34, x.a, x.b, x.n⟩ : Ins)).length q2] 37, rows Ins.rc 54 4 Au qu l, rows Ins.rc 54 4 B q2 (M.set k (⟨1 + x.op % 34, x.a, x.b, x.n⟩ : Ins)), tabC, p10c] (by rw [List.length_set] <;> rfl) ?_
 refine To.ag ((M.set k (⟨1 + x.op % 34, x.a, x.b, x.n⟩ : Ins)).length - (k + 1)) (by rw [List.length_set]; omega) ⟨(M.set k (⟨1 + x.op % 34, x.a, x.b, x.n⟩ : Ins)), k + 1, rfl, rfl, rfl, (by rw [List.length_set]; omega), (by rw [List.length_set]; exact hMl), (inR_set hMr (inR_opM hxo.2)), (rg_set hMz (opM_rg hxo.2))⟩
 refine To.ex (To.tx (To.tx (To.bx (To.t (To.s ?_)))))
 have hin := sp0_in hG hR
 have hMi : ∀ x ∈ M, InR x := fun x hx => by
  obtain ⟨i, hi⟩ := List.getElem?_of_mem hx
  have := (List.getElem?_eq_some_iff.1 hi).1
  exact hMr i x (by omega) hi
 refine To.flow [box b7 [nv np, .int .i64 st, .slice Au l.length qu] 37, box b8 [nv (pr % 6), nv (ss % 8), .slice B M.length q2] 37] [⟨0, [], 0⟩, ⟨3, [], 0⟩, ⟨1, [], 4⟩, ⟨2, [1], 3⟩, ⟨4, [1], 3⟩, ⟨5, [1], 0⟩, ⟨6, [1], 0⟩, ⟨7, [1], 0⟩, ⟨10, [1], 0⟩, ⟨8, [1], 4⟩, ⟨9, [1, 8], 3⟩, ⟨11, [1, 8], 3⟩, ⟨12, [1, 8], 0⟩, ⟨13, [1, 8], 0⟩, ⟨14, [1, 8], 0⟩] mixed (by kernel_rfl) (ocs (oca 0 rfl) (ocs (oca 1 rfl) (ocn _))) ?_
 refine W.f rfl (Rd.lS (i := 0) rfl rfl r37 rfl box_whole rfl) ?_
 refine W.f rfl (Rd.lS (i := 0) rfl rfl r37 rfl box_whole rfl) ?_
 refine W.callM rfl rfl rfl rfl rfl (Ent.fn rfl rfl ca17) (back_fn ((np : Nat) : Int) st Au qu l (by have := hR.len; omega) hR.op) rfl (ocs (oks_row 2 rfl) (ocn _)) ?_
 rintro _ _ ⟨BkAu, rkAu, rfl, rfl⟩
 refine ⟨rfl, ?_⟩
 refine W.callQ rfl rfl rfl rfl (Ent.fn rfl rfl ca20) (text_fn ((np : Nat) : Int) st BkAu rkAu l (by have := hR.len; omega) hin) rfl (ocs (oks_row 0 rfl) (ocs (oca 5 rfl) (ocs (oca 6 rfl) (ocn _)))) ?_
 refine W.callQ rfl rfl rfl rfl (Ent.fn rfl rfl ca21) (rtext_fn ((np : Nat) : Int) st Au qu l (by have := hR.len; omega) hin) rfl (ocs (oks_row 3 rfl) (ocn _)) ?_
 refine W.f rfl (Rd.as (v' := .bool true) (congrArg Value.bool (decide_eq_true rfl)) (Rd.eqlZ rfl rfl rfl)) ?_
 refine W.mo ?_
 refine W.f rfl (Rd.lS (i := 1) rfl rfl r37 rfl box_whole rfl) ?_
 refine W.f rfl (Rd.lS (i := 1) rfl rfl r37 rfl box_whole rfl) ?_
 refine W.callMG rfl rfl rfl rfl rfl (Ent.fn rfl rfl ca17) (back_fn ((pr % 6 : Nat) : Int) ((ss % 8 : Nat) : Int) B q2 M (by omega) (fun x hx => (hMz x hx).1)) rfl (ocs (oks_row 4 rfl) (ocn _)) ?_
 rintro _ _ ⟨BkB, rkB, rfl, rfl⟩
 refine ⟨rfl, ?_⟩
 refine W.callQ rfl rfl rfl rfl (Ent.fn rfl rfl ca20) (text_fn ((pr % 6 : Nat) : Int) ((ss % 8 : Nat) : Int) BkB rkB M (by omega) hMi) rfl (ocs (oks_row 0 rfl) (ocs (oca 6 rfl) (ocs (oca 7 rfl) (ocn _)))) ?_
 refine W.callQ rfl rfl rfl rfl (Ent.fn rfl rfl ca21) (rtext_fn ((pr % 6 : Nat) : Int) ((ss % 8 : Nat) : Int) B q2 M (by omega) hMi) rfl (ocs (oks_row 5 rfl) (ocn _)) ?_
 refine W.f rfl (Rd.as (v' := .bool true) (congrArg Value.bool (decide_eq_true rfl)) (Rd.eqlZ rfl rfl rfl)) ?_
 refine W.f rfl (Rd.pickT rfl rfl rfl) ?_
 refine W.f rfl (Rd.assign rfl rfl) ?_
 refine W.fin ?_
 refine To.t (To.rt (To.del7 (To.del6 (To.del5 (To.del4 (To.del3 (To.del2 (To.del1 (To.del0 ?_)))))))))
 refine To.end1 (.inl rfl) Tryz.results4 rfl ?_
 rfl
end Go.Proofs.YtllalpnmagpkfaaGreatDoor
