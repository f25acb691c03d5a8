/- The law: Less is the specified order, and a total one. Own text (walks printed by sx.py). -/
import Derived.Test.YtnghonabedcacaaI6
import Derived.Test.YtnghonabedcacaaSepw
namespace Go.Proofs.Ytnghonabedcacaa
open Go.RowKit Go.Flow Go.Mem Go.Sep
abbrev StK (p : List Ky) : Prop := p.Pairwise (fun a b => Ky.cmp a b < 0) ∧ p.length ≤ 4
abbrev StM (p : List Ms) : Prop := p.Pairwise (fun a b => Ms.cmp a b < 0) ∧ p.length ≤ 4
theorem stK (p : List Ky) : StK (sortU Ky.cmp (p.take 4)) := ⟨sortU_strict cmpK Ky.cmp_zero _, Nat.le_trans (sortU_len _) (by rw [List.length_take]; omega)⟩
theorem stM (p : List Ms) : StM (sortU Ms.cmp (p.take 4)) := ⟨sortU_strict cmpM Ms.cmp_zero _, Nat.le_trans (sortU_len _) (by rw [List.length_take]; omega)⟩
theorem cmpLess : Cmp (fun a b : List Ky × List Ms => lessV a.1 a.2 b.1 b.2) := by
  have h := (cmp_cmpI.comap (fun a : List Ky × List Ms => ((a.1.length + a.2.length : Nat) : Int))).lex ((cmpK.by.comap Prod.fst).lex (cmpM.by.comap Prod.snd))
  have e : (fun a b : List Ky × List Ms => lessV a.1 a.2 b.1 b.2) = _ := funext fun a => funext fun b => show _ = (if cmpI ((a.1.length + a.2.length : Nat) : Int) ((b.1.length + b.2.length : Nat) : Int) = 0 then (if cmpBy Ky.cmp a.1 b.1 = 0 then cmpBy Ms.cmp a.2 b.2 else cmpBy Ky.cmp a.1 b.1) else cmpI ((a.1.length + a.2.length : Nat) : Int) ((b.1.length + b.2.length : Nat) : Int)) by simp only [lessV, orL, or_id]
  rw [e]; exact h
theorem less_refl (P : List Ky) (X : List Ms) : lessV P X P X = 0 := cmpLess.refl (P, X)
theorem less_anti {P Q : List Ky} {X Y : List Ms} (h1 : lessV P X Q Y < 0) (h2 : lessV Q Y P X < 0) : False := by have := cmpLess.anti (P, X) (Q, Y); dsimp only at this; omega
theorem less_trans {P Q R : List Ky} {X Y Z : List Ms} (h1 : lessV P X Q Y < 0) (h2 : lessV Q Y R Z < 0) : lessV P X R Z < 0 := cmpLess.ltle (x := (P, X)) (y := (Q, Y)) (z := (R, Z)) h1 (Int.le_of_lt h2)
theorem less_one (x y : Ky) : lessV (isort Ky.cmp [x]) (isort Ms.cmp []) (isort Ky.cmp [y]) (isort Ms.cmp []) = x.cmp y := by
  rw [lessV_eq]
  simp only [isort, insR, insB, List.foldl_cons, List.foldl_nil, List.reverse_cons, List.reverse_nil, List.nil_append, List.length_cons, List.length_nil, if_true, cmpBy]
  split <;> (try split) <;> simp_all
theorem lessS_fn (A B A2 B2 : Option Addr) (ca cb ca2 cb2 : Nat) (p q : List Ky) (x y : List Ms) (hp : StK p) (hx : StM x) (hq : StK q) (hy : StM y) : Does Try.prog 6 [.agg #[.slice A p.length ca, .slice B x.length cb], .agg #[.slice A2 q.length ca2, .slice B2 y.length cb2]] [ros Ky.cells A p, ros Ms.cells B x, ros Ky.cells A2 q, ros Ms.cells B2 y] (fun v _ => v = .bool (decide (lessV p x q y < 0))) :=
  (lessT_fn A B A2 B2 ca cb ca2 cb2 p q x y (Nat.le_trans hp.2 (by decide)) (Nat.le_trans hx.2 (by decide)) (Nat.le_trans hq.2 (by decide)) (Nat.le_trans hy.2 (by decide))).mono fun v _ h => by
    rw [h, isort_strict cmpK hp.1 (List.reverse_perm p), isort_strict cmpM hx.1 (List.reverse_perm x), isort_strict cmpK hq.1 (List.Perm.refl q), isort_strict cmpM hy.1 (List.Perm.refl y)]
theorem rlessS_fn (A B A2 B2 : Option Addr) (ca cb ca2 cb2 : Nat) (p q : List Ky) (x y : List Ms) (hp : StK p) (hx : StM x) (hq : StK q) (hy : StM y) : Does Try.prog 9 [.agg #[.slice A p.length ca, .slice B x.length cb], .agg #[.slice A2 q.length ca2, .slice B2 y.length cb2]] [ros Ky.cells A p, ros Ms.cells B x, ros Ky.cells A2 q, ros Ms.cells B2 y] (fun v _ => v = .bool (decide (lessV p x q y < 0))) :=
  (rless_fn A B A2 B2 ca cb ca2 cb2 p q x y (Nat.le_trans hp.2 (by decide)) (Nat.le_trans hx.2 (by decide)) (Nat.le_trans hq.2 (by decide)) (Nat.le_trans hy.2 (by decide))).mono fun v _ h => by
    rw [h, sortU_idem cmpK Ky.cmp_zero hp.1, sortU_idem cmpM Ms.cmp_zero hx.1, sortU_idem cmpK Ky.cmp_zero hq.1, sortU_idem cmpM Ms.cmp_zero hy.1]
theorem lessE_fn (A B : Option Addr) (ca cb : Nat) (p : List Ky) (x : List Ms) (hp : StK p) (hx : StM x) : Does Try.prog 6 [.agg #[.slice A p.length ca, .slice B x.length cb], .agg #[.slice A p.length ca, .slice B x.length cb]] [ros Ky.cells A p, ros Ms.cells B x, ros Ky.cells A p, ros Ms.cells B x] (fun v _ => v = .bool false) :=
  (lessS_fn A B A B ca cb ca cb p p x x hp hx hp hx).mono fun v _ h => by rw [h, less_refl]; rfl
theorem lessK1_fn (A A2 : Option Addr) (x y : Ky) : Does Try.prog 7 [.agg #[.slice A 1 1, .slice none 0 0], .agg #[.slice A2 1 1, .slice none 0 0]] [ros Ky.cells A [x], ros Ms.cells none [], ros Ky.cells A2 [y], ros Ms.cells none []] (fun v _ => v = .bool (decide (x.cmp y < 0))) :=
  (less_fn A none A2 none 1 0 1 0 [x] [y] [] [] (by decide : 1 ≤ 12) (by decide : 0 ≤ 12) (by decide : 1 ≤ 12) (by decide : 0 ≤ 12)).mono fun v _ h => by rw [h, less_one]
set_option maxHeartbeats 8000000 in
set_option maxRecDepth 100000 in
theorem orders_fn (A1 B1 A2 B2 A3 B3 : Option Addr) (a1 d1 a2 d2 a3 d3 : Nat) (p q r : List Ky) (x y z : List Ms) (hp : p.length ≤ a1) (hx : x.length ≤ d1) (hq : q.length ≤ a2) (hy : y.length ≤ d2) (hr : r.length ≤ a3) (hz : z.length ≤ d3) :
    Does Try.prog 3 [.agg #[.slice A1 p.length a1, .slice B1 x.length d1], .agg #[.slice A2 q.length a2, .slice B2 y.length d2], .agg #[.slice A3 r.length a3, .slice B3 z.length d3]] [ros Ky.cells A1 p, ros Ms.cells B1 x, ros Ky.cells A2 q, ros Ms.cells B2 y, ros Ky.cells A3 r, ros Ms.cells B3 z] (fun v _ => v = .bool true) := by
  refine Does.enter Try.func3 rfl Try.ntmps3 rfl (fun w0 => ?_)
  refine To.seq ?_
  refine To.reg ?_
  refine To.boxed rfl rfl rfl rfl rfl rfl (fun b3 => ?_)
  refine To.boxed rfl rfl rfl rfl rfl rfl (fun b4 => ?_)
  refine To.boxed rfl rfl rfl rfl rfl rfl (fun b5 => ?_)
  refine To.rd rfl rfl rfl (Rd.assign rfl rfl) ?_
  refine To.nil ?_
  refine To.thenN ?_
  refine To.seq ?_
  refine To.seq ?_
  refine To.reg ?_
  refine To.callV rfl rfl rfl (Ent.fn rfl rfl ca4) (awake_fn) rfl (oks_nil _) ?_
  refine To.rd rfl rfl rfl (Rd.not rfl rfl) ?_
  refine To.nil ?_
  refine To.thenN ?_
  refine To.condF rfl ?_
  refine To.skip ?_
  refine To.thenN ?_
  refine To.seq ?_
  refine To.flow [ros Ky.cells A1 p, ros Ms.cells B1 x, ros Ky.cells A2 q, ros Ms.cells B2 y, ros Ky.cells A3 r, ros Ms.cells B3 z] [⟨0, [], 1⟩, ⟨1, [], 4⟩, ⟨2, [], 1⟩, ⟨3, [1], 4⟩, ⟨4, [], 1⟩, ⟨5, [1, 3], 4⟩, ⟨6, [1, 3, 5], 5⟩, ⟨7, [], 5⟩, ⟨8, [], 5⟩] mixed (by kernel_rfl) (oks_cons (oks_at 3 rfl) (oks_cons (oks_at 4 rfl) (oks_cons (oks_at 5 rfl) (oks_cons (oks_at 6 rfl) (oks_cons (oks_at 7 rfl) (oks_cons (oks_at 8 rfl) (oks_nil _))))))) ?_
  refine FlowS.rd rfl rfl rfl rfl (Rd.loadS (i := 2) rfl rfl r25 rfl box_whole rfl) ?_
  refine FlowS.callM rfl rfl rfl rfl rfl (Ent.fn rfl rfl ca5) (diff_fn A1 B1 a1 d1 p x hp hx) rfl (oks_cons (oks_at 3 rfl) (oks_cons (oks_at 4 rfl) (oks_nil _))) ?_
  rintro _ _ ⟨AP, qP, AX, qX, rfl, rfl⟩
  refine ⟨rfl, ?_⟩
  refine FlowS.rd rfl rfl rfl rfl (Rd.loadS (i := 1) rfl rfl r25 rfl box_whole rfl) ?_
  refine FlowS.callM rfl rfl rfl rfl rfl (Ent.fn rfl rfl ca5) (diff_fn A2 B2 a2 d2 q y hq hy) rfl (oks_cons (oks_at 7 rfl) (oks_cons (oks_at 8 rfl) (oks_nil _))) ?_
  rintro _ _ ⟨AQ, qQ, AY, qY, rfl, rfl⟩
  refine ⟨rfl, ?_⟩
  refine FlowS.rd rfl rfl rfl rfl (Rd.loadS (i := 0) rfl rfl r25 rfl box_whole rfl) ?_
  refine FlowS.callM rfl rfl rfl rfl rfl (Ent.fn rfl rfl ca5) (diff_fn A3 B3 a3 d3 r z hr hz) rfl (oks_cons (oks_at 11 rfl) (oks_cons (oks_at 12 rfl) (oks_nil _))) ?_
  rintro _ _ ⟨AR, qR, AZ, qZ, rfl, rfl⟩
  refine ⟨rfl, ?_⟩
  refine FlowS.up (Γ' := [rows Ky.cells 37 4 AR qR (sortU Ky.cmp (r.take 4)), rows Ms.cells 33 3 AZ qZ (sortU Ms.cmp (z.take 4)), rows Ky.cells 37 4 AQ qQ (sortU Ky.cmp (q.take 4)), rows Ms.cells 33 3 AY qY (sortU Ms.cmp (y.take 4)), rows Ky.cells 37 4 AP qP (sortU Ky.cmp (p.take 4)), rows Ms.cells 33 3 AX qX (sortU Ms.cmp (x.take 4)), box b5 [.slice A3 r.length a3, .slice B3 z.length d3] 25, box b4 [.slice A2 q.length a2, .slice B2 y.length d2] 25, box b3 [.slice AP ((sortU Ky.cmp (p.take 4)).length) qP, .slice AX ((sortU Ms.cmp (x.take 4)).length) qX] 25, ros Ky.cells A1 p, ros Ms.cells B1 x, ros Ky.cells A2 q, ros Ms.cells B2 y, ros Ky.cells A3 r, ros Ms.cells B3 z]) rfl rfl rfl (Up.storeS (i := 8) rfl rfl rfl r25 rfl rfl rfl (box_takesAll rfl)) (oks_cons (oks_at 9 rfl) (oks_cons (oks_at 10 rfl) (oks_cons (oks_at 11 rfl) (oks_cons (oks_at 12 rfl) (oks_cons (oks_at 13 rfl) (oks_cons (oks_at 14 rfl) (oks_nil _))))))) ?_
  refine FlowS.up (Γ' := [rows Ky.cells 37 4 AR qR (sortU Ky.cmp (r.take 4)), rows Ms.cells 33 3 AZ qZ (sortU Ms.cmp (z.take 4)), rows Ky.cells 37 4 AQ qQ (sortU Ky.cmp (q.take 4)), rows Ms.cells 33 3 AY qY (sortU Ms.cmp (y.take 4)), rows Ky.cells 37 4 AP qP (sortU Ky.cmp (p.take 4)), rows Ms.cells 33 3 AX qX (sortU Ms.cmp (x.take 4)), box b5 [.slice A3 r.length a3, .slice B3 z.length d3] 25, box b4 [.slice AQ ((sortU Ky.cmp (q.take 4)).length) qQ, .slice AY ((sortU Ms.cmp (y.take 4)).length) qY] 25, box b3 [.slice AP ((sortU Ky.cmp (p.take 4)).length) qP, .slice AX ((sortU Ms.cmp (x.take 4)).length) qX] 25, ros Ky.cells A1 p, ros Ms.cells B1 x, ros Ky.cells A2 q, ros Ms.cells B2 y, ros Ky.cells A3 r, ros Ms.cells B3 z]) rfl rfl rfl (Up.storeS (i := 7) rfl rfl rfl r25 rfl rfl rfl (box_takesAll rfl)) (oks_cons (oks_at 9 rfl) (oks_cons (oks_at 10 rfl) (oks_cons (oks_at 11 rfl) (oks_cons (oks_at 12 rfl) (oks_cons (oks_at 13 rfl) (oks_cons (oks_at 14 rfl) (oks_nil _))))))) ?_
  refine FlowS.up (Γ' := [rows Ky.cells 37 4 AR qR (sortU Ky.cmp (r.take 4)), rows Ms.cells 33 3 AZ qZ (sortU Ms.cmp (z.take 4)), rows Ky.cells 37 4 AQ qQ (sortU Ky.cmp (q.take 4)), rows Ms.cells 33 3 AY qY (sortU Ms.cmp (y.take 4)), rows Ky.cells 37 4 AP qP (sortU Ky.cmp (p.take 4)), rows Ms.cells 33 3 AX qX (sortU Ms.cmp (x.take 4)), box b5 [.slice AR ((sortU Ky.cmp (r.take 4)).length) qR, .slice AZ ((sortU Ms.cmp (z.take 4)).length) qZ] 25, box b4 [.slice AQ ((sortU Ky.cmp (q.take 4)).length) qQ, .slice AY ((sortU Ms.cmp (y.take 4)).length) qY] 25, box b3 [.slice AP ((sortU Ky.cmp (p.take 4)).length) qP, .slice AX ((sortU Ms.cmp (x.take 4)).length) qX] 25, ros Ky.cells A1 p, ros Ms.cells B1 x, ros Ky.cells A2 q, ros Ms.cells B2 y, ros Ky.cells A3 r, ros Ms.cells B3 z]) rfl rfl rfl (Up.storeS (i := 6) rfl rfl rfl r25 rfl rfl rfl (box_takesAll rfl)) (oks_cons (oks_at 9 rfl) (oks_cons (oks_at 10 rfl) (oks_cons (oks_at 11 rfl) (oks_cons (oks_at 12 rfl) (oks_cons (oks_at 13 rfl) (oks_cons (oks_at 14 rfl) (oks_nil _))))))) ?_
  refine FlowS.fin ?_
  refine To.as [rows Ky.cells 37 4 AR qR (sortU Ky.cmp (r.take 4)), rows Ms.cells 33 3 AZ qZ (sortU Ms.cmp (z.take 4)), rows Ky.cells 37 4 AQ qQ (sortU Ky.cmp (q.take 4)), rows Ms.cells 33 3 AY qY (sortU Ms.cmp (y.take 4)), rows Ky.cells 37 4 AP qP (sortU Ky.cmp (p.take 4)), rows Ms.cells 33 3 AX qX (sortU Ms.cmp (x.take 4)), box b5 [.slice AR ((sortU Ky.cmp (r.take 4)).length) qR, .slice AZ ((sortU Ms.cmp (z.take 4)).length) qZ] 25, box b4 [.slice AQ ((sortU Ky.cmp (q.take 4)).length) qQ, .slice AY ((sortU Ms.cmp (y.take 4)).length) qY] 25, box b3 [.slice AP ((sortU Ky.cmp (p.take 4)).length) qP, .slice AX ((sortU Ms.cmp (x.take 4)).length) qX] 25, ros Ky.cells A1 p, ros Ms.cells B1 x, ros Ky.cells A2 q, ros Ms.cells B2 y, ros Ky.cells A3 r, ros Ms.cells B3 z] rfl ?_
  refine To.thenN ?_
  refine To.seq ?_
  have hP := stK p
  generalize hNP : sortU Ky.cmp (p.take 4) = P at *
  have hX := stM x
  generalize hNX : sortU Ms.cmp (x.take 4) = X at *
  have hQ := stK q
  generalize hNQ : sortU Ky.cmp (q.take 4) = Q at *
  have hY := stM y
  generalize hNY : sortU Ms.cmp (y.take 4) = Y at *
  have hR := stK r
  generalize hNR : sortU Ky.cmp (r.take 4) = R at *
  have hZ := stM z
  generalize hNZ : sortU Ms.cmp (z.take 4) = Z at *
  refine To.only [8, 7, 6, 4, 4, 2, 2, 0, 0] rfl ?_
  refine To.reg ?_
  refine To.rd rfl rfl rfl (Rd.assign rfl rfl) ?_
  refine To.nil ?_
  refine To.thenN ?_
  refine To.seq ?_
  refine To.seq ?_
  refine To.flow [box b3 [.slice AP P.length qP, .slice AX X.length qX] 25, box b4 [.slice AQ Q.length qQ, .slice AY Y.length qY] 25, box b5 [.slice AR R.length qR, .slice AZ Z.length qZ] 25, rows Ky.cells 37 4 AP qP P, rows Ms.cells 33 3 AX qX X, rows Ky.cells 37 4 AQ qQ Q, rows Ms.cells 33 3 AY qY Y, rows Ky.cells 37 4 AR qR R, rows Ms.cells 33 3 AZ qZ Z] [⟨0, [], 0⟩, ⟨1, [], 1⟩, ⟨2, [], 1⟩, ⟨3, [], 3⟩, ⟨4, [], 1⟩, ⟨5, [], 1⟩, ⟨6, [], 3⟩, ⟨7, [], 0⟩, ⟨8, [], 0⟩, ⟨9, [], 0⟩, ⟨10, [], 1⟩, ⟨11, [], 1⟩, ⟨12, [], 3⟩, ⟨13, [], 1⟩, ⟨14, [], 1⟩, ⟨15, [], 3⟩, ⟨16, [], 0⟩, ⟨17, [], 0⟩, ⟨18, [], 0⟩, ⟨19, [], 0⟩, ⟨20, [], 1⟩, ⟨21, [], 1⟩, ⟨22, [], 3⟩, ⟨23, [], 0⟩, ⟨24, [], 0⟩, ⟨25, [], 0⟩, ⟨26, [], 1⟩, ⟨27, [], 1⟩, ⟨28, [], 3⟩, ⟨29, [], 0⟩, ⟨30, [], 0⟩, ⟨31, [], 1⟩, ⟨32, [], 1⟩, ⟨33, [], 3⟩, ⟨34, [], 0⟩, ⟨35, [], 0⟩, ⟨36, [], 0⟩, ⟨37, [], 0⟩, ⟨38, [], 1⟩, ⟨39, [], 1⟩, ⟨40, [], 3⟩, ⟨41, [], 0⟩, ⟨42, [], 0⟩, ⟨43, [], 1⟩, ⟨44, [], 1⟩, ⟨45, [], 3⟩, ⟨46, [], 0⟩, ⟨47, [], 0⟩, ⟨48, [], 0⟩, ⟨49, [], 1⟩, ⟨50, [], 1⟩, ⟨51, [], 3⟩, ⟨52, [], 0⟩, ⟨53, [], 0⟩, ⟨54, [], 0⟩] mixed (by kernel_rfl) (oks_cons (oks_at 0 rfl) (oks_cons (oks_at 1 rfl) (oks_cons (oks_at 2 rfl) (oks_cons (oks_at 3 rfl) (oks_cons (oks_at 4 rfl) (oks_cons (oks_at 5 rfl) (oks_cons (oks_at 6 rfl) (oks_cons (oks_at 7 rfl) (oks_cons (oks_at 8 rfl) (oks_nil _)))))))))) ?_
  refine FlowS.free rfl rfl rfl rfl (Rd.move rfl rfl) ?_
  refine FlowS.rd rfl rfl rfl rfl (Rd.loadS (i := 0) rfl rfl r25 rfl box_whole rfl) ?_
  refine FlowS.rd rfl rfl rfl rfl (Rd.loadS (i := 1) rfl rfl r25 rfl box_whole rfl) ?_
  refine FlowS.callQ rfl rfl rfl rfl (Ent.func (first := []) (captured := []) rfl rfl rfl ca6) (lessS_fn AP AX AQ AY qP qX qQ qY P Q X Y hP hX hQ hY) rfl (oks_cons (oks_row 3 rfl) (oks_cons (oks_row 4 rfl) (oks_cons (oks_row 5 rfl) (oks_cons (oks_row 6 rfl) (oks_nil _))))) ?_
  refine FlowS.rd rfl rfl rfl rfl (Rd.loadS (i := 0) rfl rfl r25 rfl box_whole rfl) ?_
  refine FlowS.rd rfl rfl rfl rfl (Rd.loadS (i := 1) rfl rfl r25 rfl box_whole rfl) ?_
  refine FlowS.callQ rfl rfl rfl rfl (Ent.fn rfl rfl ca9) (rlessS_fn AP AX AQ AY qP qX qQ qY P Q X Y hP hX hQ hY) rfl (oks_cons (oks_row 3 rfl) (oks_cons (oks_row 4 rfl) (oks_cons (oks_row 5 rfl) (oks_cons (oks_row 6 rfl) (oks_nil _))))) ?_
  refine FlowS.free rfl rfl rfl rfl (Rd.as (v' := .bool false) (congrArg Value.bool (by rw [beq_self_eq_true]; rfl)) (Rd.neqB rfl Try.underlying4 rfl rfl)) ?_
  refine FlowS.free rfl rfl rfl rfl (Rd.move rfl rfl) ?_
  refine FlowS.free rfl rfl rfl rfl (Rd.move rfl rfl) ?_
  refine FlowS.rd rfl rfl rfl rfl (Rd.loadS (i := 1) rfl rfl r25 rfl box_whole rfl) ?_
  refine FlowS.rd rfl rfl rfl rfl (Rd.loadS (i := 2) rfl rfl r25 rfl box_whole rfl) ?_
  refine FlowS.callQ rfl rfl rfl rfl (Ent.func (first := []) (captured := []) rfl rfl rfl ca6) (lessS_fn AQ AY AR AZ qQ qY qR qZ Q R Y Z hQ hY hR hZ) rfl (oks_cons (oks_row 5 rfl) (oks_cons (oks_row 6 rfl) (oks_cons (oks_row 7 rfl) (oks_cons (oks_row 8 rfl) (oks_nil _))))) ?_
  refine FlowS.rd rfl rfl rfl rfl (Rd.loadS (i := 1) rfl rfl r25 rfl box_whole rfl) ?_
  refine FlowS.rd rfl rfl rfl rfl (Rd.loadS (i := 2) rfl rfl r25 rfl box_whole rfl) ?_
  refine FlowS.callQ rfl rfl rfl rfl (Ent.fn rfl rfl ca9) (rlessS_fn AQ AY AR AZ qQ qY qR qZ Q R Y Z hQ hY hR hZ) rfl (oks_cons (oks_row 5 rfl) (oks_cons (oks_row 6 rfl) (oks_cons (oks_row 7 rfl) (oks_cons (oks_row 8 rfl) (oks_nil _))))) ?_
  refine FlowS.free rfl rfl rfl rfl (Rd.as (v' := .bool false) (congrArg Value.bool (by rw [beq_self_eq_true]; rfl)) (Rd.neqB rfl Try.underlying4 rfl rfl)) ?_
  refine FlowS.free rfl rfl rfl rfl (Rd.pickF rfl rfl rfl) ?_
  refine FlowS.free rfl rfl rfl rfl (Rd.move rfl rfl) ?_
  refine FlowS.free rfl rfl rfl rfl (Rd.move rfl rfl) ?_
  refine FlowS.rd rfl rfl rfl rfl (Rd.loadS (i := 0) rfl rfl r25 rfl box_whole rfl) ?_
  refine FlowS.rd rfl rfl rfl rfl (Rd.loadS (i := 0) rfl rfl r25 rfl box_whole rfl) ?_
  refine FlowS.callQ rfl rfl rfl rfl (Ent.func (first := []) (captured := []) rfl rfl rfl ca6) (lessE_fn AP AX qP qX P X hP hX) rfl (oks_cons (oks_row 3 rfl) (oks_cons (oks_row 4 rfl) (oks_cons (oks_row 3 rfl) (oks_cons (oks_row 4 rfl) (oks_nil _))))) ?_
  refine FlowS.free rfl rfl rfl rfl (Rd.pickF rfl rfl rfl) ?_
  refine FlowS.free rfl rfl rfl rfl (Rd.move rfl rfl) ?_
  refine FlowS.free rfl rfl rfl rfl (Rd.move rfl rfl) ?_
  refine FlowS.rd rfl rfl rfl rfl (Rd.loadS (i := 0) rfl rfl r25 rfl box_whole rfl) ?_
  refine FlowS.rd rfl rfl rfl rfl (Rd.loadS (i := 1) rfl rfl r25 rfl box_whole rfl) ?_
  refine FlowS.callQ rfl rfl rfl rfl (Ent.func (first := []) (captured := []) rfl rfl rfl ca6) (lessS_fn AP AX AQ AY qP qX qQ qY P Q X Y hP hX hQ hY) rfl (oks_cons (oks_row 3 rfl) (oks_cons (oks_row 4 rfl) (oks_cons (oks_row 5 rfl) (oks_cons (oks_row 6 rfl) (oks_nil _))))) ?_
  refine FlowS.rdP rfl rfl rfl rfl (Rd.move rfl rfl) (fun g55 => ?_) (fun g55 => ?_)
  ·
    refine FlowS.free rfl rfl rfl rfl (Rd.move rfl rfl) ?_
    refine FlowS.rd rfl rfl rfl rfl (Rd.loadS (i := 1) rfl rfl r25 rfl box_whole rfl) ?_
    refine FlowS.rd rfl rfl rfl rfl (Rd.loadS (i := 0) rfl rfl r25 rfl box_whole rfl) ?_
    refine FlowS.callQ rfl rfl rfl rfl (Ent.func (first := []) (captured := []) rfl rfl rfl ca6) (lessS_fn AQ AY AP AX qQ qY qP qX Q P Y X hQ hY hP hX) rfl (oks_cons (oks_row 5 rfl) (oks_cons (oks_row 6 rfl) (oks_cons (oks_row 3 rfl) (oks_cons (oks_row 4 rfl) (oks_nil _))))) ?_
    refine FlowS.free rfl rfl rfl rfl (Rd.pickT rfl rfl rfl) ?_
    refine FlowS.free rfl rfl rfl rfl (Rd.pickF rfl rfl rfl) ?_
    refine FlowS.rdP rfl rfl rfl rfl (Rd.move rfl rfl) (fun g62 => ?_) (fun g62 => ?_)
    ·
      exact (less_anti g55 g62).elim
    ·
      refine FlowS.free rfl rfl rfl rfl (Rd.move rfl rfl) ?_
      refine FlowS.rd rfl rfl rfl rfl (Rd.loadS (i := 0) rfl rfl r25 rfl box_whole rfl) ?_
      refine FlowS.rd rfl rfl rfl rfl (Rd.loadS (i := 1) rfl rfl r25 rfl box_whole rfl) ?_
      refine FlowS.callQ rfl rfl rfl rfl (Ent.func (first := []) (captured := []) rfl rfl rfl ca6) (lessS_fn AP AX AQ AY qP qX qQ qY P Q X Y hP hX hQ hY) rfl (oks_cons (oks_row 3 rfl) (oks_cons (oks_row 4 rfl) (oks_cons (oks_row 5 rfl) (oks_cons (oks_row 6 rfl) (oks_nil _))))) ?_
      refine FlowS.rdP rfl rfl rfl rfl (Rd.move rfl rfl) (fun g67 => ?_) (fun g67 => ?_)
      ·
        refine FlowS.free rfl rfl rfl rfl (Rd.move rfl rfl) ?_
        refine FlowS.rd rfl rfl rfl rfl (Rd.loadS (i := 1) rfl rfl r25 rfl box_whole rfl) ?_
        refine FlowS.rd rfl rfl rfl rfl (Rd.loadS (i := 2) rfl rfl r25 rfl box_whole rfl) ?_
        refine FlowS.callQ rfl rfl rfl rfl (Ent.func (first := []) (captured := []) rfl rfl rfl ca6) (lessS_fn AQ AY AR AZ qQ qY qR qZ Q R Y Z hQ hY hR hZ) rfl (oks_cons (oks_row 5 rfl) (oks_cons (oks_row 6 rfl) (oks_cons (oks_row 7 rfl) (oks_cons (oks_row 8 rfl) (oks_nil _))))) ?_
        refine FlowS.free rfl rfl rfl rfl (Rd.pickT rfl rfl rfl) ?_
        refine FlowS.rdP rfl rfl rfl rfl (Rd.move rfl rfl) (fun g73 => ?_) (fun g73 => ?_)
        ·
          refine FlowS.free rfl rfl rfl rfl (Rd.move rfl rfl) ?_
          refine FlowS.rd rfl rfl rfl rfl (Rd.loadS (i := 0) rfl rfl r25 rfl box_whole rfl) ?_
          refine FlowS.rd rfl rfl rfl rfl (Rd.loadS (i := 2) rfl rfl r25 rfl box_whole rfl) ?_
          refine FlowS.callQ rfl rfl rfl rfl (Ent.func (first := []) (captured := []) rfl rfl rfl ca6) (lessS_fn AP AX AR AZ qP qX qR qZ P R X Z hP hX hR hZ) rfl (oks_cons (oks_row 3 rfl) (oks_cons (oks_row 4 rfl) (oks_cons (oks_row 7 rfl) (oks_cons (oks_row 8 rfl) (oks_nil _))))) ?_
          refine FlowS.free rfl rfl rfl rfl (Rd.not rfl rfl) ?_
          refine FlowS.free rfl rfl rfl rfl (Rd.pickT rfl rfl rfl) ?_
          refine FlowS.free rfl rfl rfl rfl (Rd.pickF rfl rfl rfl) ?_
          refine FlowS.fin ?_
          refine To.as [box b3 [.slice AP P.length qP, .slice AX X.length qX] 25, box b4 [.slice AQ Q.length qQ, .slice AY Y.length qY] 25, box b5 [.slice AR R.length qR, .slice AZ Z.length qZ] 25, rows Ky.cells 37 4 AP qP P, rows Ms.cells 33 3 AX qX X, rows Ky.cells 37 4 AQ qQ Q, rows Ms.cells 33 3 AY qY Y, rows Ky.cells 37 4 AR qR R, rows Ms.cells 33 3 AZ qZ Z] rfl ?_
          refine To.sub [(0, .agg #[.slice A1 p.length a1, .slice B1 x.length d1]), (1, .agg #[.slice A2 q.length a2, .slice B2 y.length d2]), (2, .agg #[.slice A3 r.length a3, .slice B3 z.length d3]), (3, .pointer (some ⟨b3, 0, none⟩)), (4, .pointer (some ⟨b4, 0, none⟩)), (5, .pointer (some ⟨b5, 0, none⟩)), (6, .bool false), (19, .bool false), (7, .func (.func 6) #[] #[]), (80, .bool (!(decide (lessV P X R Z < 0))))] ⟨rfl, rfl, rfl, rfl, rfl, rfl, rfl, rfl, rfl, rfl, trivial⟩ ?_
          refine To.thenN ?_
          refine To.cond rfl (fun c80 => ?_) (fun c80 => ?_)
          ·
            simp [less_trans g67 g73] at c80
          ·
            refine To.skip ?_
            refine To.thenN ?_
            refine To.seq ?_
            refine To.seq ?_
            refine To.reg ?_
            refine To.rd rfl rfl rfl (Rd.field rfl rfl fl25_1) ?_
            refine To.rd rfl rfl rfl (Rd.load (i := 0) rfl rfl c23 rfl (box_gives1 rfl)) ?_
            refine To.rd rfl rfl rfl (Rd.len rfl rfl Try.underlying23) ?_
            refine To.rd rfl rfl rfl (Rd.move rfl rfl) ?_
            refine To.nil ?_
            refine To.thenN ?_
            refine To.block ?_
            refine To.sub [(3, .pointer (some ⟨b3, 0, none⟩)), (4, .pointer (some ⟨b4, 0, none⟩)), (82, .slice AX X.length qX), (83, .int .i64 ((X.length : Nat) : Int)), (84, .int .i64 ((0 : Nat) : Int))] ⟨rfl, rfl, rfl, rfl, rfl, trivial⟩ ?_
            refine To.only [0, 0, 0, 0, 0, 0, 0, 0, 0] rfl ?_
            refine To.loop (fun mz ρ Γ => ∃ (i : Nat), ρ = [(3, .pointer (some ⟨b3, 0, none⟩)), (4, .pointer (some ⟨b4, 0, none⟩)), (82, .slice AX X.length qX), (83, .int .i64 ((X.length : Nat) : Int)), (84, .int .i64 ((i : Nat) : Int))] ∧ Γ = [box b3 [.slice AP P.length qP, .slice AX X.length qX] 25, box b4 [.slice AQ Q.length qQ, .slice AY Y.length qY] 25, box b5 [.slice AR R.length qR, .slice AZ Z.length qZ] 25, rows Ky.cells 37 4 AP qP P, rows Ms.cells 33 3 AX qX X, rows Ky.cells 37 4 AQ qQ Q, rows Ms.cells 33 3 AY qY Y, rows Ky.cells 37 4 AR qR R, rows Ms.cells 33 3 AZ qZ Z] ∧ mz = X.length - i ∧ (i ≤ X.length)) (X.length - 0) ⟨0, rfl, rfl, rfl, (Nat.zero_le _)⟩ ?_
            rintro mz _ _ ⟨i, rfl, rfl, rfl, hi⟩
            refine To.seq ?_
            refine To.reg ?_
            refine To.rd rfl rfl rfl (Rd.lss rfl rfl rfl) ?_
            refine To.nil ?_
            refine To.thenN ?_
            refine To.seq ?_
            refine To.condP rfl (fun c85 => ?_) (fun c85 => ?_)
            ·
              obtain ⟨u, hu⟩ : ∃ z0, X[i]? = some z0 := ⟨X[i]'(by omega), List.getElem?_eq_getElem _⟩
              refine To.skip ?_
              refine To.thenN ?_
              refine To.seq ?_
              refine To.block ?_
              refine To.seq ?_
              refine To.reg ?_
              refine To.rd rfl rfl rfl (Rd.indexRows (i := 4) (j := i) rfl rfl rfl s23 rfl hu) ?_
              refine To.rd rfl rfl rfl (Rd.loadS (i := 4) rfl rfl r33 rfl (rows_gives encM hu) (encM.len _)) ?_
              refine To.alloc rfl rfl rfl rfl z33 (fun b9 => ?_)
              refine To.up rfl rfl (Up.storeS (i := 0) rfl rfl rfl r33 rfl rfl rfl (box_takesAll rfl)) ?_
              refine To.nil ?_
              refine To.thenN ?_
              refine To.seq ?_
              refine To.reg ?_
              refine To.rd rfl rfl rfl (Rd.field rfl rfl fl25_1) ?_
              refine To.rd rfl rfl rfl (Rd.load (i := 2) rfl rfl c23 rfl (box_gives1 rfl)) ?_
              refine To.rd rfl rfl rfl (Rd.len rfl rfl Try.underlying23) ?_
              refine To.rd rfl rfl rfl (Rd.move rfl rfl) ?_
              refine To.nil ?_
              refine To.thenN ?_
              refine To.block ?_
              refine To.sub [(3, .pointer (some ⟨b3, 0, none⟩)), (4, .pointer (some ⟨b4, 0, none⟩)), (9, .pointer (some ⟨b9, 0, none⟩)), (82, .slice AX X.length qX), (83, .int .i64 ((X.length : Nat) : Int)), (84, .int .i64 ((i : Nat) : Int)), (89, .slice AY Y.length qY), (90, .int .i64 ((Y.length : Nat) : Int)), (91, .int .i64 ((0 : Nat) : Int))] ⟨rfl, rfl, rfl, rfl, rfl, rfl, rfl, rfl, rfl, trivial⟩ ?_
              refine To.only [1, 1, 1, 1, 1, 1, 1, 1, 1, 0] rfl ?_
              refine To.loop (fun mz ρ Γ => ∃ (j : Nat), ρ = [(3, .pointer (some ⟨b3, 0, none⟩)), (4, .pointer (some ⟨b4, 0, none⟩)), (9, .pointer (some ⟨b9, 0, none⟩)), (82, .slice AX X.length qX), (83, .int .i64 ((X.length : Nat) : Int)), (84, .int .i64 ((i : Nat) : Int)), (89, .slice AY Y.length qY), (90, .int .i64 ((Y.length : Nat) : Int)), (91, .int .i64 ((j : Nat) : Int))] ∧ Γ = [box b3 [.slice AP P.length qP, .slice AX X.length qX] 25, box b4 [.slice AQ Q.length qQ, .slice AY Y.length qY] 25, box b5 [.slice AR R.length qR, .slice AZ Z.length qZ] 25, rows Ky.cells 37 4 AP qP P, rows Ms.cells 33 3 AX qX X, rows Ky.cells 37 4 AQ qQ Q, rows Ms.cells 33 3 AY qY Y, rows Ky.cells 37 4 AR qR R, rows Ms.cells 33 3 AZ qZ Z, box b9 [.int .i64 u.f, .int .i64 u.t, .int .i64 u.n] 33] ∧ mz = Y.length - j ∧ (j ≤ Y.length)) (Y.length - 0) ⟨0, rfl, rfl, rfl, (Nat.zero_le _)⟩ ?_
              rintro mz _ _ ⟨j, rfl, rfl, rfl, hj⟩
              refine To.seq ?_
              refine To.reg ?_
              refine To.rd rfl rfl rfl (Rd.lss rfl rfl rfl) ?_
              refine To.nil ?_
              refine To.thenN ?_
              refine To.seq ?_
              refine To.condP rfl (fun c92 => ?_) (fun c92 => ?_)
              ·
                obtain ⟨v, hv⟩ : ∃ z0, Y[j]? = some z0 := ⟨Y[j]'(by omega), List.getElem?_eq_getElem _⟩
                refine To.skip ?_
                refine To.thenN ?_
                refine To.seq ?_
                refine To.block ?_
                refine To.seq ?_
                refine To.reg ?_
                refine To.rd rfl rfl rfl (Rd.indexRows (i := 6) (j := j) rfl rfl rfl s23 rfl hv) ?_
                refine To.rd rfl rfl rfl (Rd.loadS (i := 6) rfl rfl r33 rfl (rows_gives encM hv) (encM.len _)) ?_
                refine To.alloc rfl rfl rfl rfl z33 (fun b11 => ?_)
                refine To.up rfl rfl (Up.storeS (i := 0) rfl rfl rfl r33 rfl rfl rfl (box_takesAll rfl)) ?_
                refine To.nil ?_
                refine To.thenN ?_
                refine To.seq ?_
                refine To.flow [box b11 [.int .i64 v.f, .int .i64 v.t, .int .i64 v.n] 33, box b3 [.slice AP P.length qP, .slice AX X.length qX] 25, box b4 [.slice AQ Q.length qQ, .slice AY Y.length qY] 25, box b5 [.slice AR R.length qR, .slice AZ Z.length qZ] 25, rows Ky.cells 37 4 AP qP P, rows Ms.cells 33 3 AX qX X, rows Ky.cells 37 4 AQ qQ Q, rows Ms.cells 33 3 AY qY Y, rows Ky.cells 37 4 AR qR R, rows Ms.cells 33 3 AZ qZ Z, box b9 [.int .i64 u.f, .int .i64 u.t, .int .i64 u.n] 33] [⟨0, [], 1⟩, ⟨1, [], 1⟩, ⟨2, [], 3⟩, ⟨3, [], 1⟩, ⟨4, [], 1⟩, ⟨5, [], 3⟩, ⟨6, [], 0⟩] mixed (by kernel_rfl) (oks_cons (oks_at 0 rfl) (oks_cons (oks_at 1 rfl) (oks_cons (oks_at 2 rfl) (oks_cons (oks_at 3 rfl) (oks_cons (oks_at 4 rfl) (oks_cons (oks_at 5 rfl) (oks_cons (oks_at 6 rfl) (oks_cons (oks_at 7 rfl) (oks_cons (oks_at 8 rfl) (oks_cons (oks_at 9 rfl) (oks_cons (oks_at 10 rfl) (oks_nil _)))))))))))) ?_
                refine FlowS.rd rfl rfl rfl rfl (Rd.loadS (i := 10) rfl rfl r33 rfl box_whole rfl) ?_
                refine FlowS.rd rfl rfl rfl rfl (Rd.loadS (i := 0) rfl rfl r33 rfl box_whole rfl) ?_
                refine FlowS.callQ rfl rfl rfl rfl (Ent.fn rfl rfl ca10) (lessM_fn u v) rfl (oks_nil _) ?_
                refine FlowS.rd rfl rfl rfl rfl (Rd.loadS (i := 10) rfl rfl r33 rfl box_whole rfl) ?_
                refine FlowS.rd rfl rfl rfl rfl (Rd.loadS (i := 0) rfl rfl r33 rfl box_whole rfl) ?_
                refine FlowS.callQ rfl rfl rfl rfl (Ent.fn rfl rfl ca11) (rlessM_fn u v) rfl (oks_nil _) ?_
                refine FlowS.free rfl rfl rfl rfl (Rd.as (v' := .bool false) (congrArg Value.bool (by rw [beq_self_eq_true]; rfl)) (Rd.neqB rfl Try.underlying4 rfl rfl)) ?_
                refine FlowS.fin ?_
                refine To.as [box b11 [.int .i64 v.f, .int .i64 v.t, .int .i64 v.n] 33, box b3 [.slice AP P.length qP, .slice AX X.length qX] 25, box b4 [.slice AQ Q.length qQ, .slice AY Y.length qY] 25, box b5 [.slice AR R.length qR, .slice AZ Z.length qZ] 25, rows Ky.cells 37 4 AP qP P, rows Ms.cells 33 3 AX qX X, rows Ky.cells 37 4 AQ qQ Q, rows Ms.cells 33 3 AY qY Y, rows Ky.cells 37 4 AR qR R, rows Ms.cells 33 3 AZ qZ Z, box b9 [.int .i64 u.f, .int .i64 u.t, .int .i64 u.n] 33] rfl ?_
                refine To.thenN ?_
                refine To.condF rfl ?_
                refine To.skip ?_
                refine To.blockN ?_
                refine To.thenN ?_
                refine To.reg ?_
                refine To.rd rfl rfl rfl (Rd.inc rfl rfl rfl (by omega)) ?_
                refine To.rd rfl rfl rfl (Rd.move rfl rfl) ?_
                refine To.nil ?_
                refine To.thenN ?_
                refine To.sub [(3, .pointer (some ⟨b3, 0, none⟩)), (4, .pointer (some ⟨b4, 0, none⟩)), (9, .pointer (some ⟨b9, 0, none⟩)), (82, .slice AX X.length qX), (83, .int .i64 ((X.length : Nat) : Int)), (84, .int .i64 ((i : Nat) : Int)), (89, .slice AY Y.length qY), (90, .int .i64 ((Y.length : Nat) : Int)), (91, .int .i64 (((j + 1) : Nat) : Int))] ⟨rfl, rfl, rfl, rfl, rfl, rfl, rfl, rfl, rfl, trivial⟩ ?_
                refine To.only [1, 1, 1, 1, 1, 1, 1, 1, 1, 1] rfl ?_
                refine To.again (Y.length - (j + 1)) (by omega) ⟨j + 1, rfl, rfl, rfl, (by omega)⟩
              ·
                refine To.exit ?_
                refine To.thenX ?_
                refine To.thenX ?_
                refine To.blockX ?_
                refine To.blockN ?_
                refine To.thenN ?_
                refine To.reg ?_
                refine To.rd rfl rfl rfl (Rd.inc rfl rfl rfl (by omega)) ?_
                refine To.rd rfl rfl rfl (Rd.move rfl rfl) ?_
                refine To.nil ?_
                refine To.thenN ?_
                refine To.sub [(3, .pointer (some ⟨b3, 0, none⟩)), (4, .pointer (some ⟨b4, 0, none⟩)), (82, .slice AX X.length qX), (83, .int .i64 ((X.length : Nat) : Int)), (84, .int .i64 (((i + 1) : Nat) : Int))] ⟨rfl, rfl, rfl, rfl, rfl, trivial⟩ ?_
                refine To.only [0, 0, 0, 0, 0, 0, 0, 0, 0] rfl ?_
                refine To.again (X.length - (i + 1)) (by omega) ⟨i + 1, rfl, rfl, rfl, (by omega)⟩
            ·
              refine To.exit ?_
              refine To.thenX ?_
              refine To.thenX ?_
              refine To.blockX ?_
              refine To.thenN ?_
              refine To.seq ?_
              refine To.seq ?_
              refine To.reg ?_
              refine To.rd rfl rfl rfl (Rd.field rfl rfl fl25_0) ?_
              refine To.rd rfl rfl rfl (Rd.load (i := 0) rfl rfl c22 rfl (box_gives1 rfl)) ?_
              refine To.rd rfl rfl rfl (Rd.len rfl rfl Try.underlying22) ?_
              refine To.rd rfl rfl rfl (Rd.move rfl rfl) ?_
              refine To.nil ?_
              refine To.thenN ?_
              refine To.block ?_
              refine To.sub [(3, .pointer (some ⟨b3, 0, none⟩)), (4, .pointer (some ⟨b4, 0, none⟩)), (105, .slice AP P.length qP), (106, .int .i64 ((P.length : Nat) : Int)), (107, .int .i64 ((0 : Nat) : Int))] ⟨rfl, rfl, rfl, rfl, rfl, trivial⟩ ?_
              refine To.only [0, 0, 0, 0, 0, 0, 0, 0, 0] rfl ?_
              refine To.loop (fun mz ρ Γ => ∃ (k : Nat), ρ = [(3, .pointer (some ⟨b3, 0, none⟩)), (4, .pointer (some ⟨b4, 0, none⟩)), (105, .slice AP P.length qP), (106, .int .i64 ((P.length : Nat) : Int)), (107, .int .i64 ((k : Nat) : Int))] ∧ Γ = [box b3 [.slice AP P.length qP, .slice AX X.length qX] 25, box b4 [.slice AQ Q.length qQ, .slice AY Y.length qY] 25, box b5 [.slice AR R.length qR, .slice AZ Z.length qZ] 25, rows Ky.cells 37 4 AP qP P, rows Ms.cells 33 3 AX qX X, rows Ky.cells 37 4 AQ qQ Q, rows Ms.cells 33 3 AY qY Y, rows Ky.cells 37 4 AR qR R, rows Ms.cells 33 3 AZ qZ Z] ∧ mz = P.length - k ∧ (k ≤ P.length)) (P.length - 0) ⟨0, rfl, rfl, rfl, (Nat.zero_le _)⟩ ?_
              rintro mz _ _ ⟨k, rfl, rfl, rfl, hk⟩
              refine To.seq ?_
              refine To.reg ?_
              refine To.rd rfl rfl rfl (Rd.lss rfl rfl rfl) ?_
              refine To.nil ?_
              refine To.thenN ?_
              refine To.seq ?_
              refine To.condP rfl (fun c108 => ?_) (fun c108 => ?_)
              ·
                obtain ⟨u, hu⟩ : ∃ z0, P[k]? = some z0 := ⟨P[k]'(by omega), List.getElem?_eq_getElem _⟩
                refine To.skip ?_
                refine To.thenN ?_
                refine To.seq ?_
                refine To.block ?_
                refine To.seq ?_
                refine To.reg ?_
                refine To.rd rfl rfl rfl (Rd.indexRows (i := 3) (j := k) rfl rfl rfl s22 rfl hu) ?_
                refine To.rd rfl rfl rfl (Rd.loadS (i := 3) rfl rfl r37 rfl (rows_gives encK hu) (encK.len _)) ?_
                refine To.alloc rfl rfl rfl rfl z37 (fun b13 => ?_)
                refine To.up rfl rfl (Up.storeS (i := 0) rfl rfl rfl r37 rfl rfl rfl (box_takesAll rfl)) ?_
                refine To.nil ?_
                refine To.thenN ?_
                refine To.seq ?_
                refine To.reg ?_
                refine To.rd rfl rfl rfl (Rd.field rfl rfl fl25_0) ?_
                refine To.rd rfl rfl rfl (Rd.load (i := 2) rfl rfl c22 rfl (box_gives1 rfl)) ?_
                refine To.rd rfl rfl rfl (Rd.len rfl rfl Try.underlying22) ?_
                refine To.rd rfl rfl rfl (Rd.move rfl rfl) ?_
                refine To.nil ?_
                refine To.thenN ?_
                refine To.block ?_
                refine To.sub [(3, .pointer (some ⟨b3, 0, none⟩)), (4, .pointer (some ⟨b4, 0, none⟩)), (13, .pointer (some ⟨b13, 0, none⟩)), (105, .slice AP P.length qP), (106, .int .i64 ((P.length : Nat) : Int)), (107, .int .i64 ((k : Nat) : Int)), (112, .slice AQ Q.length qQ), (113, .int .i64 ((Q.length : Nat) : Int)), (114, .int .i64 ((0 : Nat) : Int))] ⟨rfl, rfl, rfl, rfl, rfl, rfl, rfl, rfl, rfl, trivial⟩ ?_
                refine To.only [1, 1, 1, 1, 1, 1, 1, 1, 1, 0] rfl ?_
                refine To.loop (fun mz ρ Γ => ∃ (m : Nat), ρ = [(3, .pointer (some ⟨b3, 0, none⟩)), (4, .pointer (some ⟨b4, 0, none⟩)), (13, .pointer (some ⟨b13, 0, none⟩)), (105, .slice AP P.length qP), (106, .int .i64 ((P.length : Nat) : Int)), (107, .int .i64 ((k : Nat) : Int)), (112, .slice AQ Q.length qQ), (113, .int .i64 ((Q.length : Nat) : Int)), (114, .int .i64 ((m : Nat) : Int))] ∧ Γ = [box b3 [.slice AP P.length qP, .slice AX X.length qX] 25, box b4 [.slice AQ Q.length qQ, .slice AY Y.length qY] 25, box b5 [.slice AR R.length qR, .slice AZ Z.length qZ] 25, rows Ky.cells 37 4 AP qP P, rows Ms.cells 33 3 AX qX X, rows Ky.cells 37 4 AQ qQ Q, rows Ms.cells 33 3 AY qY Y, rows Ky.cells 37 4 AR qR R, rows Ms.cells 33 3 AZ qZ Z, box b13 [.int .u8 u.k, .int .i64 u.a, .int .i64 u.b, .int .i64 u.n] 37] ∧ mz = Q.length - m ∧ (m ≤ Q.length)) (Q.length - 0) ⟨0, rfl, rfl, rfl, (Nat.zero_le _)⟩ ?_
                rintro mz _ _ ⟨m, rfl, rfl, rfl, hm⟩
                refine To.seq ?_
                refine To.reg ?_
                refine To.rd rfl rfl rfl (Rd.lss rfl rfl rfl) ?_
                refine To.nil ?_
                refine To.thenN ?_
                refine To.seq ?_
                refine To.condP rfl (fun c115 => ?_) (fun c115 => ?_)
                ·
                  obtain ⟨v, hv⟩ : ∃ z0, Q[m]? = some z0 := ⟨Q[m]'(by omega), List.getElem?_eq_getElem _⟩
                  refine To.skip ?_
                  refine To.thenN ?_
                  refine To.seq ?_
                  refine To.block ?_
                  refine To.seq ?_
                  refine To.reg ?_
                  refine To.rd rfl rfl rfl (Rd.indexRows (i := 5) (j := m) rfl rfl rfl s22 rfl hv) ?_
                  refine To.rd rfl rfl rfl (Rd.loadS (i := 5) rfl rfl r37 rfl (rows_gives encK hv) (encK.len _)) ?_
                  refine To.alloc rfl rfl rfl rfl z37 (fun b15 => ?_)
                  refine To.up rfl rfl (Up.storeS (i := 0) rfl rfl rfl r37 rfl rfl rfl (box_takesAll rfl)) ?_
                  refine To.nil ?_
                  refine To.thenN ?_
                  refine To.seq ?_
                  refine To.flow2 [box b15 [.int .u8 v.k, .int .i64 v.a, .int .i64 v.b, .int .i64 v.n] 37, box b3 [.slice AP P.length qP, .slice AX X.length qX] 25, box b4 [.slice AQ Q.length qQ, .slice AY Y.length qY] 25, box b5 [.slice AR R.length qR, .slice AZ Z.length qZ] 25, box b13 [.int .u8 u.k, .int .i64 u.a, .int .i64 u.b, .int .i64 u.n] 37] 8 4 [⟨0, [], 0⟩, ⟨3, [], 0⟩, ⟨1, [], 2⟩, ⟨2, [1], 0⟩, ⟨4, [], 2⟩, ⟨5, [4], 0⟩, ⟨6, [], 2⟩, ⟨7, [], 2⟩, ⟨8, [1, 4, 6, 7], 5⟩, ⟨9, [], 5⟩] [⟨0, [], 0⟩, ⟨3, [], 0⟩, ⟨1, [], 2⟩, ⟨2, [1], 0⟩, ⟨6, [], 2⟩, ⟨7, [], 2⟩, ⟨8, [1, 6, 7], 5⟩, ⟨4, [], 2⟩, ⟨5, [4], 0⟩, ⟨9, [4], 5⟩] mixed rfl (by kernel_rfl) (by kernel_rfl) (by kernel_rfl) (oks_cons (oks_at 0 rfl) (oks_cons (oks_at 1 rfl) (oks_cons (oks_at 2 rfl) (oks_cons (oks_at 3 rfl) (oks_cons (oks_at 10 rfl) (oks_nil _)))))) ?_ ?_
                  ·
                    refine FlowS.free rfl rfl rfl rfl (Rd.loadS (i := 4) rfl rfl r37 rfl box_whole rfl) ?_
                    refine FlowS.free rfl rfl rfl rfl (Rd.loadS (i := 0) rfl rfl r37 rfl box_whole rfl) ?_
                    refine FlowS.mk rfl rfl rfl rfl rfl (Mk.sliceN (us := [.int .u8 u.k, .int .i64 u.a, .int .i64 u.b, .int .i64 u.n]) rfl s22 rfl rfl rfl rfl rfl rfl) ?_
                    rintro _ _ ⟨b119, rfl, rfl⟩
                    refine FlowS.free rfl rfl rfl rfl (Rd.build (vs := [(0, .slice (some ⟨b119, 0, none⟩) 1 1)]) (cells := [.slice (some ⟨b119, 0, none⟩) 1 1, .slice none 0 0]) rfl rfl rfl (by kernel_rfl)) ?_
                    refine FlowS.mk rfl rfl rfl rfl rfl (Mk.sliceN (us := [.int .u8 v.k, .int .i64 v.a, .int .i64 v.b, .int .i64 v.n]) rfl s22 rfl rfl rfl rfl rfl rfl) ?_
                    rintro _ _ ⟨b122, rfl, rfl⟩
                    refine FlowS.free rfl rfl rfl rfl (Rd.build (vs := [(0, .slice (some ⟨b122, 0, none⟩) 1 1)]) (cells := [.slice (some ⟨b122, 0, none⟩) 1 1, .slice none 0 0]) rfl rfl rfl (by kernel_rfl)) ?_
                    refine FlowS.mk rfl rfl rfl rfl rfl (Mk.alloc rfl z29) ?_
                    rintro _ _ ⟨b16, rfl, rfl⟩
                    refine FlowS.mk rfl rfl rfl rfl rfl (Mk.alloc rfl z29) ?_
                    rintro _ _ ⟨b17, rfl, rfl⟩
                    refine FlowS.up (Γ' := [box b17 [.slice none 0 0, .slice none 0 0] 29, box b16 [.slice (some ⟨b119, 0, none⟩) 1 1, .slice none 0 0] 29, row 37 4 (some ⟨b122, 0, none⟩) 1 1 [.int .u8 v.k, .int .i64 v.a, .int .i64 v.b, .int .i64 v.n], row 37 4 (some ⟨b119, 0, none⟩) 1 1 [.int .u8 u.k, .int .i64 u.a, .int .i64 u.b, .int .i64 u.n], box b15 [.int .u8 v.k, .int .i64 v.a, .int .i64 v.b, .int .i64 v.n] 37, box b3 [.slice AP P.length qP, .slice AX X.length qX] 25, box b4 [.slice AQ Q.length qQ, .slice AY Y.length qY] 25, box b5 [.slice AR R.length qR, .slice AZ Z.length qZ] 25, rows Ky.cells 37 4 AP qP P, rows Ms.cells 33 3 AX qX X, rows Ky.cells 37 4 AQ qQ Q, rows Ms.cells 33 3 AY qY Y, rows Ky.cells 37 4 AR qR R, rows Ms.cells 33 3 AZ qZ Z, box b13 [.int .u8 u.k, .int .i64 u.a, .int .i64 u.b, .int .i64 u.n] 37]) rfl rfl rfl (Up.storeS (i := 1) rfl rfl rfl r29 rfl rfl rfl (box_takesAll rfl)) (oks_cons (oks_at 4 rfl) (oks_cons (oks_at 5 rfl) (oks_cons (oks_at 6 rfl) (oks_cons (oks_at 7 rfl) (oks_cons (oks_at 14 rfl) (oks_nil _)))))) ?_
                    refine FlowS.up (Γ' := [box b17 [.slice (some ⟨b122, 0, none⟩) 1 1, .slice none 0 0] 29, box b16 [.slice (some ⟨b119, 0, none⟩) 1 1, .slice none 0 0] 29, row 37 4 (some ⟨b122, 0, none⟩) 1 1 [.int .u8 v.k, .int .i64 v.a, .int .i64 v.b, .int .i64 v.n], row 37 4 (some ⟨b119, 0, none⟩) 1 1 [.int .u8 u.k, .int .i64 u.a, .int .i64 u.b, .int .i64 u.n], box b15 [.int .u8 v.k, .int .i64 v.a, .int .i64 v.b, .int .i64 v.n] 37, box b3 [.slice AP P.length qP, .slice AX X.length qX] 25, box b4 [.slice AQ Q.length qQ, .slice AY Y.length qY] 25, box b5 [.slice AR R.length qR, .slice AZ Z.length qZ] 25, rows Ky.cells 37 4 AP qP P, rows Ms.cells 33 3 AX qX X, rows Ky.cells 37 4 AQ qQ Q, rows Ms.cells 33 3 AY qY Y, rows Ky.cells 37 4 AR qR R, rows Ms.cells 33 3 AZ qZ Z, box b13 [.int .u8 u.k, .int .i64 u.a, .int .i64 u.b, .int .i64 u.n] 37]) rfl rfl rfl (Up.storeS (i := 0) rfl rfl rfl r29 rfl rfl rfl (box_takesAll rfl)) (oks_cons (oks_at 4 rfl) (oks_cons (oks_at 5 rfl) (oks_cons (oks_at 6 rfl) (oks_cons (oks_at 7 rfl) (oks_cons (oks_at 14 rfl) (oks_nil _)))))) ?_
                    refine FlowS.fin ?_
                    refine To.as [box b17 [.slice (some ⟨b122, 0, none⟩) 1 1, .slice none 0 0] 29, box b16 [.slice (some ⟨b119, 0, none⟩) 1 1, .slice none 0 0] 29, row 37 4 (some ⟨b122, 0, none⟩) 1 1 [.int .u8 v.k, .int .i64 v.a, .int .i64 v.b, .int .i64 v.n], row 37 4 (some ⟨b119, 0, none⟩) 1 1 [.int .u8 u.k, .int .i64 u.a, .int .i64 u.b, .int .i64 u.n], box b15 [.int .u8 v.k, .int .i64 v.a, .int .i64 v.b, .int .i64 v.n] 37, box b3 [.slice AP P.length qP, .slice AX X.length qX] 25, box b4 [.slice AQ Q.length qQ, .slice AY Y.length qY] 25, box b5 [.slice AR R.length qR, .slice AZ Z.length qZ] 25, rows Ky.cells 37 4 AP qP P, rows Ms.cells 33 3 AX qX X, rows Ky.cells 37 4 AQ qQ Q, rows Ms.cells 33 3 AY qY Y, rows Ky.cells 37 4 AR qR R, rows Ms.cells 33 3 AZ qZ Z, box b13 [.int .u8 u.k, .int .i64 u.a, .int .i64 u.b, .int .i64 u.n] 37] rfl ?_
                    refine To.thenN ?_
                    refine To.seq ?_
                    refine To.flow [box b17 [.slice (some ⟨b122, 0, none⟩) 1 1, .slice none 0 0] 29, box b16 [.slice (some ⟨b119, 0, none⟩) 1 1, .slice none 0 0] 29, row 37 4 (some ⟨b122, 0, none⟩) 1 1 [.int .u8 v.k, .int .i64 v.a, .int .i64 v.b, .int .i64 v.n], row 37 4 (some ⟨b119, 0, none⟩) 1 1 [.int .u8 u.k, .int .i64 u.a, .int .i64 u.b, .int .i64 u.n], box b15 [.int .u8 v.k, .int .i64 v.a, .int .i64 v.b, .int .i64 v.n] 37, box b3 [.slice AP P.length qP, .slice AX X.length qX] 25, box b4 [.slice AQ Q.length qQ, .slice AY Y.length qY] 25, box b5 [.slice AR R.length qR, .slice AZ Z.length qZ] 25, rows Ky.cells 37 4 AP qP P, rows Ms.cells 33 3 AX qX X, rows Ky.cells 37 4 AQ qQ Q, rows Ms.cells 33 3 AY qY Y, rows Ky.cells 37 4 AR qR R, rows Ms.cells 33 3 AZ qZ Z, box b13 [.int .u8 u.k, .int .i64 u.a, .int .i64 u.b, .int .i64 u.n] 37] [⟨0, [], 1⟩, ⟨1, [], 1⟩, ⟨2, [], 3⟩, ⟨3, [], 1⟩, ⟨4, [], 1⟩, ⟨5, [], 3⟩, ⟨6, [], 0⟩] mixed (by kernel_rfl) (oks_cons (oks_at 0 rfl) (oks_cons (oks_at 1 rfl) (oks_cons (oks_at 2 rfl) (oks_cons (oks_at 3 rfl) (oks_cons (oks_at 4 rfl) (oks_cons (oks_at 5 rfl) (oks_cons (oks_at 6 rfl) (oks_cons (oks_at 7 rfl) (oks_cons (oks_at 8 rfl) (oks_cons (oks_at 9 rfl) (oks_cons (oks_at 10 rfl) (oks_cons (oks_at 11 rfl) (oks_cons (oks_at 12 rfl) (oks_cons (oks_at 13 rfl) (oks_cons (oks_at 14 rfl) (oks_nil _)))))))))))))))) ?_
                    refine FlowS.rd rfl rfl rfl rfl (Rd.loadS (i := 1) rfl rfl r29 rfl box_whole rfl) ?_
                    refine FlowS.rd rfl rfl rfl rfl (Rd.loadS (i := 0) rfl rfl r29 rfl box_whole rfl) ?_
                    refine FlowS.callQ rfl rfl rfl rfl (Ent.fn rfl rfl ca7) (lessK1_fn (some ⟨b119, 0, none⟩) (some ⟨b122, 0, none⟩) u v) rfl (oks_cons (oks_row 3 rfl) (oks_cons (fun w _ => .inl rfl) (oks_cons (oks_row 2 rfl) (oks_cons (fun w _ => .inl rfl) (oks_nil _))))) ?_
                    refine FlowS.rd rfl rfl rfl rfl (Rd.loadS (i := 14) rfl rfl r37 rfl box_whole rfl) ?_
                    refine FlowS.rd rfl rfl rfl rfl (Rd.loadS (i := 4) rfl rfl r37 rfl box_whole rfl) ?_
                    refine FlowS.callQ rfl rfl rfl rfl (Ent.fn rfl rfl ca12) (lessK_fn u v) rfl (oks_nil _) ?_
                    refine FlowS.free rfl rfl rfl rfl (Rd.as (v' := .bool false) (congrArg Value.bool (by rw [beq_self_eq_true]; rfl)) (Rd.neqB rfl Try.underlying4 rfl rfl)) ?_
                    refine FlowS.fin ?_
                    refine To.as [box b17 [.slice (some ⟨b122, 0, none⟩) 1 1, .slice none 0 0] 29, box b16 [.slice (some ⟨b119, 0, none⟩) 1 1, .slice none 0 0] 29, row 37 4 (some ⟨b122, 0, none⟩) 1 1 [.int .u8 v.k, .int .i64 v.a, .int .i64 v.b, .int .i64 v.n], row 37 4 (some ⟨b119, 0, none⟩) 1 1 [.int .u8 u.k, .int .i64 u.a, .int .i64 u.b, .int .i64 u.n], box b15 [.int .u8 v.k, .int .i64 v.a, .int .i64 v.b, .int .i64 v.n] 37, box b3 [.slice AP P.length qP, .slice AX X.length qX] 25, box b4 [.slice AQ Q.length qQ, .slice AY Y.length qY] 25, box b5 [.slice AR R.length qR, .slice AZ Z.length qZ] 25, rows Ky.cells 37 4 AP qP P, rows Ms.cells 33 3 AX qX X, rows Ky.cells 37 4 AQ qQ Q, rows Ms.cells 33 3 AY qY Y, rows Ky.cells 37 4 AR qR R, rows Ms.cells 33 3 AZ qZ Z, box b13 [.int .u8 u.k, .int .i64 u.a, .int .i64 u.b, .int .i64 u.n] 37] rfl ?_
                    refine To.sub [(3, .pointer (some ⟨b3, 0, none⟩)), (4, .pointer (some ⟨b4, 0, none⟩)), (13, .pointer (some ⟨b13, 0, none⟩)), (105, .slice AP P.length qP), (106, .int .i64 ((P.length : Nat) : Int)), (107, .int .i64 ((k : Nat) : Int)), (112, .slice AQ Q.length qQ), (113, .int .i64 ((Q.length : Nat) : Int)), (114, .int .i64 ((m : Nat) : Int)), (115, .bool (decide (((m : Nat) : Int) < ((Q.length : Nat) : Int)))), (15, .pointer (some ⟨b15, 0, none⟩)), (16, .pointer (some ⟨b16, 0, none⟩)), (17, .pointer (some ⟨b17, 0, none⟩)), (130, .bool false)] ⟨rfl, rfl, rfl, rfl, rfl, rfl, rfl, rfl, rfl, rfl, rfl, rfl, rfl, rfl, trivial⟩ ?_
                    refine To.thenN ?_
                    refine To.condF rfl ?_
                    refine To.skip ?_
                    refine To.blockN ?_
                    refine To.thenN ?_
                    refine To.reg ?_
                    refine To.rd rfl rfl rfl (Rd.inc rfl rfl rfl (by omega)) ?_
                    refine To.rd rfl rfl rfl (Rd.move rfl rfl) ?_
                    refine To.nil ?_
                    refine To.thenN ?_
                    refine To.sub [(3, .pointer (some ⟨b3, 0, none⟩)), (4, .pointer (some ⟨b4, 0, none⟩)), (13, .pointer (some ⟨b13, 0, none⟩)), (105, .slice AP P.length qP), (106, .int .i64 ((P.length : Nat) : Int)), (107, .int .i64 ((k : Nat) : Int)), (112, .slice AQ Q.length qQ), (113, .int .i64 ((Q.length : Nat) : Int)), (114, .int .i64 (((m + 1) : Nat) : Int))] ⟨rfl, rfl, rfl, rfl, rfl, rfl, rfl, rfl, rfl, trivial⟩ ?_
                    refine To.only [5, 5, 5, 5, 5, 5, 5, 5, 5, 5] rfl ?_
                    refine To.again (Q.length - (m + 1)) (by omega) ⟨m + 1, rfl, rfl, rfl, (by omega)⟩
                  ·
                    refine FlowS.free rfl rfl rfl rfl (Rd.loadS (i := 4) rfl rfl r37 rfl box_whole rfl) ?_
                    refine FlowS.free rfl rfl rfl rfl (Rd.loadS (i := 0) rfl rfl r37 rfl box_whole rfl) ?_
                    refine FlowS.mk rfl rfl rfl rfl rfl (Mk.sliceN (us := [.int .u8 u.k, .int .i64 u.a, .int .i64 u.b, .int .i64 u.n]) rfl s22 rfl rfl rfl rfl rfl rfl) ?_
                    rintro _ _ ⟨b119_2, rfl, rfl⟩
                    refine FlowS.free rfl rfl rfl rfl (Rd.build (vs := [(0, .slice (some ⟨b119_2, 0, none⟩) 1 1)]) (cells := [.slice (some ⟨b119_2, 0, none⟩) 1 1, .slice none 0 0]) rfl rfl rfl (by kernel_rfl)) ?_
                    refine FlowS.mk rfl rfl rfl rfl rfl (Mk.alloc rfl z29) ?_
                    rintro _ _ ⟨b16_2, rfl, rfl⟩
                    refine FlowS.mk rfl rfl rfl rfl rfl (Mk.alloc rfl z29) ?_
                    rintro _ _ ⟨b17_2, rfl, rfl⟩
                    refine FlowS.up (Γ' := [box b17_2 [.slice none 0 0, .slice none 0 0] 29, box b16_2 [.slice (some ⟨b119_2, 0, none⟩) 1 1, .slice none 0 0] 29, row 37 4 (some ⟨b119_2, 0, none⟩) 1 1 [.int .u8 u.k, .int .i64 u.a, .int .i64 u.b, .int .i64 u.n], box b15 [.int .u8 v.k, .int .i64 v.a, .int .i64 v.b, .int .i64 v.n] 37, box b3 [.slice AP P.length qP, .slice AX X.length qX] 25, box b4 [.slice AQ Q.length qQ, .slice AY Y.length qY] 25, box b5 [.slice AR R.length qR, .slice AZ Z.length qZ] 25, rows Ky.cells 37 4 AP qP P, rows Ms.cells 33 3 AX qX X, rows Ky.cells 37 4 AQ qQ Q, rows Ms.cells 33 3 AY qY Y, rows Ky.cells 37 4 AR qR R, rows Ms.cells 33 3 AZ qZ Z, box b13 [.int .u8 u.k, .int .i64 u.a, .int .i64 u.b, .int .i64 u.n] 37]) rfl rfl rfl (Up.storeS (i := 1) rfl rfl rfl r29 rfl rfl rfl (box_takesAll rfl)) (oks_cons (oks_at 3 rfl) (oks_cons (oks_at 4 rfl) (oks_cons (oks_at 5 rfl) (oks_cons (oks_at 6 rfl) (oks_cons (oks_at 13 rfl) (oks_nil _)))))) ?_
                    refine FlowS.mk rfl rfl rfl rfl rfl (Mk.sliceN (us := [.int .u8 v.k, .int .i64 v.a, .int .i64 v.b, .int .i64 v.n]) rfl s22 rfl rfl rfl rfl rfl rfl) ?_
                    rintro _ _ ⟨b122_2, rfl, rfl⟩
                    refine FlowS.free rfl rfl rfl rfl (Rd.build (vs := [(0, .slice (some ⟨b122_2, 0, none⟩) 1 1)]) (cells := [.slice (some ⟨b122_2, 0, none⟩) 1 1, .slice none 0 0]) rfl rfl rfl (by kernel_rfl)) ?_
                    refine FlowS.up (Γ' := [row 37 4 (some ⟨b122_2, 0, none⟩) 1 1 [.int .u8 v.k, .int .i64 v.a, .int .i64 v.b, .int .i64 v.n], box b17_2 [.slice (some ⟨b122_2, 0, none⟩) 1 1, .slice none 0 0] 29, box b16_2 [.slice (some ⟨b119_2, 0, none⟩) 1 1, .slice none 0 0] 29, row 37 4 (some ⟨b119_2, 0, none⟩) 1 1 [.int .u8 u.k, .int .i64 u.a, .int .i64 u.b, .int .i64 u.n], box b15 [.int .u8 v.k, .int .i64 v.a, .int .i64 v.b, .int .i64 v.n] 37, box b3 [.slice AP P.length qP, .slice AX X.length qX] 25, box b4 [.slice AQ Q.length qQ, .slice AY Y.length qY] 25, box b5 [.slice AR R.length qR, .slice AZ Z.length qZ] 25, rows Ky.cells 37 4 AP qP P, rows Ms.cells 33 3 AX qX X, rows Ky.cells 37 4 AQ qQ Q, rows Ms.cells 33 3 AY qY Y, rows Ky.cells 37 4 AR qR R, rows Ms.cells 33 3 AZ qZ Z, box b13 [.int .u8 u.k, .int .i64 u.a, .int .i64 u.b, .int .i64 u.n] 37]) rfl rfl rfl (Up.storeS (i := 1) rfl rfl rfl r29 rfl rfl rfl (box_takesAll rfl)) (oks_cons (oks_at 4 rfl) (oks_cons (oks_at 5 rfl) (oks_cons (oks_at 6 rfl) (oks_cons (oks_at 7 rfl) (oks_cons (oks_at 14 rfl) (oks_nil _)))))) ?_
                    refine FlowS.fin ?_
                    refine To.as [row 37 4 (some ⟨b122_2, 0, none⟩) 1 1 [.int .u8 v.k, .int .i64 v.a, .int .i64 v.b, .int .i64 v.n], box b17_2 [.slice (some ⟨b122_2, 0, none⟩) 1 1, .slice none 0 0] 29, box b16_2 [.slice (some ⟨b119_2, 0, none⟩) 1 1, .slice none 0 0] 29, row 37 4 (some ⟨b119_2, 0, none⟩) 1 1 [.int .u8 u.k, .int .i64 u.a, .int .i64 u.b, .int .i64 u.n], box b15 [.int .u8 v.k, .int .i64 v.a, .int .i64 v.b, .int .i64 v.n] 37, box b3 [.slice AP P.length qP, .slice AX X.length qX] 25, box b4 [.slice AQ Q.length qQ, .slice AY Y.length qY] 25, box b5 [.slice AR R.length qR, .slice AZ Z.length qZ] 25, rows Ky.cells 37 4 AP qP P, rows Ms.cells 33 3 AX qX X, rows Ky.cells 37 4 AQ qQ Q, rows Ms.cells 33 3 AY qY Y, rows Ky.cells 37 4 AR qR R, rows Ms.cells 33 3 AZ qZ Z, box b13 [.int .u8 u.k, .int .i64 u.a, .int .i64 u.b, .int .i64 u.n] 37] rfl ?_
                    refine To.thenN ?_
                    refine To.seq ?_
                    refine To.flow [row 37 4 (some ⟨b122_2, 0, none⟩) 1 1 [.int .u8 v.k, .int .i64 v.a, .int .i64 v.b, .int .i64 v.n], box b17_2 [.slice (some ⟨b122_2, 0, none⟩) 1 1, .slice none 0 0] 29, box b16_2 [.slice (some ⟨b119_2, 0, none⟩) 1 1, .slice none 0 0] 29, row 37 4 (some ⟨b119_2, 0, none⟩) 1 1 [.int .u8 u.k, .int .i64 u.a, .int .i64 u.b, .int .i64 u.n], box b15 [.int .u8 v.k, .int .i64 v.a, .int .i64 v.b, .int .i64 v.n] 37, box b3 [.slice AP P.length qP, .slice AX X.length qX] 25, box b4 [.slice AQ Q.length qQ, .slice AY Y.length qY] 25, box b5 [.slice AR R.length qR, .slice AZ Z.length qZ] 25, rows Ky.cells 37 4 AP qP P, rows Ms.cells 33 3 AX qX X, rows Ky.cells 37 4 AQ qQ Q, rows Ms.cells 33 3 AY qY Y, rows Ky.cells 37 4 AR qR R, rows Ms.cells 33 3 AZ qZ Z, box b13 [.int .u8 u.k, .int .i64 u.a, .int .i64 u.b, .int .i64 u.n] 37] [⟨0, [], 1⟩, ⟨1, [], 1⟩, ⟨2, [], 3⟩, ⟨3, [], 1⟩, ⟨4, [], 1⟩, ⟨5, [], 3⟩, ⟨6, [], 0⟩] mixed (by kernel_rfl) (oks_cons (oks_at 0 rfl) (oks_cons (oks_at 1 rfl) (oks_cons (oks_at 2 rfl) (oks_cons (oks_at 3 rfl) (oks_cons (oks_at 4 rfl) (oks_cons (oks_at 5 rfl) (oks_cons (oks_at 6 rfl) (oks_cons (oks_at 7 rfl) (oks_cons (oks_at 8 rfl) (oks_cons (oks_at 9 rfl) (oks_cons (oks_at 10 rfl) (oks_cons (oks_at 11 rfl) (oks_cons (oks_at 12 rfl) (oks_cons (oks_at 13 rfl) (oks_cons (oks_at 14 rfl) (oks_nil _)))))))))))))))) ?_
                    refine FlowS.rd rfl rfl rfl rfl (Rd.loadS (i := 2) rfl rfl r29 rfl box_whole rfl) ?_
                    refine FlowS.rd rfl rfl rfl rfl (Rd.loadS (i := 1) rfl rfl r29 rfl box_whole rfl) ?_
                    refine FlowS.callQ rfl rfl rfl rfl (Ent.fn rfl rfl ca7) (lessK1_fn (some ⟨b119_2, 0, none⟩) (some ⟨b122_2, 0, none⟩) u v) rfl (oks_cons (oks_row 3 rfl) (oks_cons (fun w _ => .inl rfl) (oks_cons (oks_row 0 rfl) (oks_cons (fun w _ => .inl rfl) (oks_nil _))))) ?_
                    refine FlowS.rd rfl rfl rfl rfl (Rd.loadS (i := 14) rfl rfl r37 rfl box_whole rfl) ?_
                    refine FlowS.rd rfl rfl rfl rfl (Rd.loadS (i := 4) rfl rfl r37 rfl box_whole rfl) ?_
                    refine FlowS.callQ rfl rfl rfl rfl (Ent.fn rfl rfl ca12) (lessK_fn u v) rfl (oks_nil _) ?_
                    refine FlowS.free rfl rfl rfl rfl (Rd.as (v' := .bool false) (congrArg Value.bool (by rw [beq_self_eq_true]; rfl)) (Rd.neqB rfl Try.underlying4 rfl rfl)) ?_
                    refine FlowS.fin ?_
                    refine To.as [row 37 4 (some ⟨b122_2, 0, none⟩) 1 1 [.int .u8 v.k, .int .i64 v.a, .int .i64 v.b, .int .i64 v.n], box b17_2 [.slice (some ⟨b122_2, 0, none⟩) 1 1, .slice none 0 0] 29, box b16_2 [.slice (some ⟨b119_2, 0, none⟩) 1 1, .slice none 0 0] 29, row 37 4 (some ⟨b119_2, 0, none⟩) 1 1 [.int .u8 u.k, .int .i64 u.a, .int .i64 u.b, .int .i64 u.n], box b15 [.int .u8 v.k, .int .i64 v.a, .int .i64 v.b, .int .i64 v.n] 37, box b3 [.slice AP P.length qP, .slice AX X.length qX] 25, box b4 [.slice AQ Q.length qQ, .slice AY Y.length qY] 25, box b5 [.slice AR R.length qR, .slice AZ Z.length qZ] 25, rows Ky.cells 37 4 AP qP P, rows Ms.cells 33 3 AX qX X, rows Ky.cells 37 4 AQ qQ Q, rows Ms.cells 33 3 AY qY Y, rows Ky.cells 37 4 AR qR R, rows Ms.cells 33 3 AZ qZ Z, box b13 [.int .u8 u.k, .int .i64 u.a, .int .i64 u.b, .int .i64 u.n] 37] rfl ?_
                    refine To.sub [(3, .pointer (some ⟨b3, 0, none⟩)), (4, .pointer (some ⟨b4, 0, none⟩)), (13, .pointer (some ⟨b13, 0, none⟩)), (105, .slice AP P.length qP), (106, .int .i64 ((P.length : Nat) : Int)), (107, .int .i64 ((k : Nat) : Int)), (112, .slice AQ Q.length qQ), (113, .int .i64 ((Q.length : Nat) : Int)), (114, .int .i64 ((m : Nat) : Int)), (115, .bool (decide (((m : Nat) : Int) < ((Q.length : Nat) : Int)))), (15, .pointer (some ⟨b15, 0, none⟩)), (16, .pointer (some ⟨b16_2, 0, none⟩)), (17, .pointer (some ⟨b17_2, 0, none⟩)), (130, .bool false)] ⟨rfl, rfl, rfl, rfl, rfl, rfl, rfl, rfl, rfl, rfl, rfl, rfl, rfl, rfl, trivial⟩ ?_
                    refine To.thenN ?_
                    refine To.condF rfl ?_
                    refine To.skip ?_
                    refine To.blockN ?_
                    refine To.thenN ?_
                    refine To.reg ?_
                    refine To.rd rfl rfl rfl (Rd.inc rfl rfl rfl (by omega)) ?_
                    refine To.rd rfl rfl rfl (Rd.move rfl rfl) ?_
                    refine To.nil ?_
                    refine To.thenN ?_
                    refine To.sub [(3, .pointer (some ⟨b3, 0, none⟩)), (4, .pointer (some ⟨b4, 0, none⟩)), (13, .pointer (some ⟨b13, 0, none⟩)), (105, .slice AP P.length qP), (106, .int .i64 ((P.length : Nat) : Int)), (107, .int .i64 ((k : Nat) : Int)), (112, .slice AQ Q.length qQ), (113, .int .i64 ((Q.length : Nat) : Int)), (114, .int .i64 (((m + 1) : Nat) : Int))] ⟨rfl, rfl, rfl, rfl, rfl, rfl, rfl, rfl, rfl, trivial⟩ ?_
                    refine To.only [5, 5, 5, 5, 5, 5, 5, 5, 5, 5] rfl ?_
                    refine To.again (Q.length - (m + 1)) (by omega) ⟨m + 1, rfl, rfl, rfl, (by omega)⟩
                ·
                  refine To.exit ?_
                  refine To.thenX ?_
                  refine To.thenX ?_
                  refine To.blockX ?_
                  refine To.blockN ?_
                  refine To.thenN ?_
                  refine To.reg ?_
                  refine To.rd rfl rfl rfl (Rd.inc rfl rfl rfl (by omega)) ?_
                  refine To.rd rfl rfl rfl (Rd.move rfl rfl) ?_
                  refine To.nil ?_
                  refine To.thenN ?_
                  refine To.sub [(3, .pointer (some ⟨b3, 0, none⟩)), (4, .pointer (some ⟨b4, 0, none⟩)), (105, .slice AP P.length qP), (106, .int .i64 ((P.length : Nat) : Int)), (107, .int .i64 (((k + 1) : Nat) : Int))] ⟨rfl, rfl, rfl, rfl, rfl, trivial⟩ ?_
                  refine To.only [0, 0, 0, 0, 0, 0, 0, 0, 0] rfl ?_
                  refine To.again (P.length - (k + 1)) (by omega) ⟨k + 1, rfl, rfl, rfl, (by omega)⟩
              ·
                refine To.exit ?_
                refine To.thenX ?_
                refine To.thenX ?_
                refine To.blockX ?_
                refine To.thenN ?_
                refine To.seq ?_
                refine To.reg ?_
                refine To.rd rfl rfl rfl (Rd.assign rfl rfl) ?_
                refine To.nil ?_
                refine To.thenN ?_
                refine To.ret ?_
                refine To.end1 (.inl rfl) Try.results3 rfl ?_
                rfl
        ·
          refine FlowS.skip (by decide) rfl rfl rfl rfl ?_
          refine FlowS.skip (by decide) rfl rfl rfl rfl ?_
          refine FlowS.skip (by decide) rfl rfl rfl rfl ?_
          refine FlowS.skip (by decide) rfl rfl rfl rfl ?_
          refine FlowS.skip (by decide) rfl rfl rfl rfl ?_
          refine FlowS.free rfl rfl rfl rfl (Rd.pickF rfl rfl rfl) ?_
          refine FlowS.free rfl rfl rfl rfl (Rd.pickF rfl rfl rfl) ?_
          refine FlowS.fin ?_
          refine To.as [box b3 [.slice AP P.length qP, .slice AX X.length qX] 25, box b4 [.slice AQ Q.length qQ, .slice AY Y.length qY] 25, box b5 [.slice AR R.length qR, .slice AZ Z.length qZ] 25, rows Ky.cells 37 4 AP qP P, rows Ms.cells 33 3 AX qX X, rows Ky.cells 37 4 AQ qQ Q, rows Ms.cells 33 3 AY qY Y, rows Ky.cells 37 4 AR qR R, rows Ms.cells 33 3 AZ qZ Z] rfl ?_
          refine To.sub [(0, .agg #[.slice A1 p.length a1, .slice B1 x.length d1]), (1, .agg #[.slice A2 q.length a2, .slice B2 y.length d2]), (2, .agg #[.slice A3 r.length a3, .slice B3 z.length d3]), (3, .pointer (some ⟨b3, 0, none⟩)), (4, .pointer (some ⟨b4, 0, none⟩)), (5, .pointer (some ⟨b5, 0, none⟩)), (6, .bool false), (19, .bool false), (7, .func (.func 6) #[] #[]), (80, .bool false)] ⟨rfl, rfl, rfl, rfl, rfl, rfl, rfl, rfl, rfl, rfl, trivial⟩ ?_
          refine To.thenN ?_
          refine To.condF rfl ?_
          refine To.skip ?_
          refine To.thenN ?_
          refine To.seq ?_
          refine To.seq ?_
          refine To.reg ?_
          refine To.rd rfl rfl rfl (Rd.field rfl rfl fl25_1) ?_
          refine To.rd rfl rfl rfl (Rd.load (i := 0) rfl rfl c23 rfl (box_gives1 rfl)) ?_
          refine To.rd rfl rfl rfl (Rd.len rfl rfl Try.underlying23) ?_
          refine To.rd rfl rfl rfl (Rd.move rfl rfl) ?_
          refine To.nil ?_
          refine To.thenN ?_
          refine To.block ?_
          refine To.sub [(3, .pointer (some ⟨b3, 0, none⟩)), (4, .pointer (some ⟨b4, 0, none⟩)), (82, .slice AX X.length qX), (83, .int .i64 ((X.length : Nat) : Int)), (84, .int .i64 ((0 : Nat) : Int))] ⟨rfl, rfl, rfl, rfl, rfl, trivial⟩ ?_
          refine To.only [0, 0, 0, 0, 0, 0, 0, 0, 0] rfl ?_
          refine To.loop (fun mz ρ Γ => ∃ (i : Nat), ρ = [(3, .pointer (some ⟨b3, 0, none⟩)), (4, .pointer (some ⟨b4, 0, none⟩)), (82, .slice AX X.length qX), (83, .int .i64 ((X.length : Nat) : Int)), (84, .int .i64 ((i : Nat) : Int))] ∧ Γ = [box b3 [.slice AP P.length qP, .slice AX X.length qX] 25, box b4 [.slice AQ Q.length qQ, .slice AY Y.length qY] 25, box b5 [.slice AR R.length qR, .slice AZ Z.length qZ] 25, rows Ky.cells 37 4 AP qP P, rows Ms.cells 33 3 AX qX X, rows Ky.cells 37 4 AQ qQ Q, rows Ms.cells 33 3 AY qY Y, rows Ky.cells 37 4 AR qR R, rows Ms.cells 33 3 AZ qZ Z] ∧ mz = X.length - i ∧ (i ≤ X.length)) (X.length - 0) ⟨0, rfl, rfl, rfl, (Nat.zero_le _)⟩ ?_
          rintro mz _ _ ⟨i, rfl, rfl, rfl, hi⟩
          refine To.seq ?_
          refine To.reg ?_
          refine To.rd rfl rfl rfl (Rd.lss rfl rfl rfl) ?_
          refine To.nil ?_
          refine To.thenN ?_
          refine To.seq ?_
          refine To.condP rfl (fun c85 => ?_) (fun c85 => ?_)
          ·
            obtain ⟨u, hu⟩ : ∃ z0, X[i]? = some z0 := ⟨X[i]'(by omega), List.getElem?_eq_getElem _⟩
            refine To.skip ?_
            refine To.thenN ?_
            refine To.seq ?_
            refine To.block ?_
            refine To.seq ?_
            refine To.reg ?_
            refine To.rd rfl rfl rfl (Rd.indexRows (i := 4) (j := i) rfl rfl rfl s23 rfl hu) ?_
            refine To.rd rfl rfl rfl (Rd.loadS (i := 4) rfl rfl r33 rfl (rows_gives encM hu) (encM.len _)) ?_
            refine To.alloc rfl rfl rfl rfl z33 (fun b9_2 => ?_)
            refine To.up rfl rfl (Up.storeS (i := 0) rfl rfl rfl r33 rfl rfl rfl (box_takesAll rfl)) ?_
            refine To.nil ?_
            refine To.thenN ?_
            refine To.seq ?_
            refine To.reg ?_
            refine To.rd rfl rfl rfl (Rd.field rfl rfl fl25_1) ?_
            refine To.rd rfl rfl rfl (Rd.load (i := 2) rfl rfl c23 rfl (box_gives1 rfl)) ?_
            refine To.rd rfl rfl rfl (Rd.len rfl rfl Try.underlying23) ?_
            refine To.rd rfl rfl rfl (Rd.move rfl rfl) ?_
            refine To.nil ?_
            refine To.thenN ?_
            refine To.block ?_
            refine To.sub [(3, .pointer (some ⟨b3, 0, none⟩)), (4, .pointer (some ⟨b4, 0, none⟩)), (9, .pointer (some ⟨b9_2, 0, none⟩)), (82, .slice AX X.length qX), (83, .int .i64 ((X.length : Nat) : Int)), (84, .int .i64 ((i : Nat) : Int)), (89, .slice AY Y.length qY), (90, .int .i64 ((Y.length : Nat) : Int)), (91, .int .i64 ((0 : Nat) : Int))] ⟨rfl, rfl, rfl, rfl, rfl, rfl, rfl, rfl, rfl, trivial⟩ ?_
            refine To.only [1, 1, 1, 1, 1, 1, 1, 1, 1, 0] rfl ?_
            refine To.loop (fun mz ρ Γ => ∃ (j : Nat), ρ = [(3, .pointer (some ⟨b3, 0, none⟩)), (4, .pointer (some ⟨b4, 0, none⟩)), (9, .pointer (some ⟨b9_2, 0, none⟩)), (82, .slice AX X.length qX), (83, .int .i64 ((X.length : Nat) : Int)), (84, .int .i64 ((i : Nat) : Int)), (89, .slice AY Y.length qY), (90, .int .i64 ((Y.length : Nat) : Int)), (91, .int .i64 ((j : Nat) : Int))] ∧ Γ = [box b3 [.slice AP P.length qP, .slice AX X.length qX] 25, box b4 [.slice AQ Q.length qQ, .slice AY Y.length qY] 25, box b5 [.slice AR R.length qR, .slice AZ Z.length qZ] 25, rows Ky.cells 37 4 AP qP P, rows Ms.cells 33 3 AX qX X, rows Ky.cells 37 4 AQ qQ Q, rows Ms.cells 33 3 AY qY Y, rows Ky.cells 37 4 AR qR R, rows Ms.cells 33 3 AZ qZ Z, box b9_2 [.int .i64 u.f, .int .i64 u.t, .int .i64 u.n] 33] ∧ mz = Y.length - j ∧ (j ≤ Y.length)) (Y.length - 0) ⟨0, rfl, rfl, rfl, (Nat.zero_le _)⟩ ?_
            rintro mz _ _ ⟨j, rfl, rfl, rfl, hj⟩
            refine To.seq ?_
            refine To.reg ?_
            refine To.rd rfl rfl rfl (Rd.lss rfl rfl rfl) ?_
            refine To.nil ?_
            refine To.thenN ?_
            refine To.seq ?_
            refine To.condP rfl (fun c92 => ?_) (fun c92 => ?_)
            ·
              obtain ⟨v, hv⟩ : ∃ z0, Y[j]? = some z0 := ⟨Y[j]'(by omega), List.getElem?_eq_getElem _⟩
              refine To.skip ?_
              refine To.thenN ?_
              refine To.seq ?_
              refine To.block ?_
              refine To.seq ?_
              refine To.reg ?_
              refine To.rd rfl rfl rfl (Rd.indexRows (i := 6) (j := j) rfl rfl rfl s23 rfl hv) ?_
              refine To.rd rfl rfl rfl (Rd.loadS (i := 6) rfl rfl r33 rfl (rows_gives encM hv) (encM.len _)) ?_
              refine To.alloc rfl rfl rfl rfl z33 (fun b11_2 => ?_)
              refine To.up rfl rfl (Up.storeS (i := 0) rfl rfl rfl r33 rfl rfl rfl (box_takesAll rfl)) ?_
              refine To.nil ?_
              refine To.thenN ?_
              refine To.seq ?_
              refine To.flow [box b11_2 [.int .i64 v.f, .int .i64 v.t, .int .i64 v.n] 33, box b3 [.slice AP P.length qP, .slice AX X.length qX] 25, box b4 [.slice AQ Q.length qQ, .slice AY Y.length qY] 25, box b5 [.slice AR R.length qR, .slice AZ Z.length qZ] 25, rows Ky.cells 37 4 AP qP P, rows Ms.cells 33 3 AX qX X, rows Ky.cells 37 4 AQ qQ Q, rows Ms.cells 33 3 AY qY Y, rows Ky.cells 37 4 AR qR R, rows Ms.cells 33 3 AZ qZ Z, box b9_2 [.int .i64 u.f, .int .i64 u.t, .int .i64 u.n] 33] [⟨0, [], 1⟩, ⟨1, [], 1⟩, ⟨2, [], 3⟩, ⟨3, [], 1⟩, ⟨4, [], 1⟩, ⟨5, [], 3⟩, ⟨6, [], 0⟩] mixed (by kernel_rfl) (oks_cons (oks_at 0 rfl) (oks_cons (oks_at 1 rfl) (oks_cons (oks_at 2 rfl) (oks_cons (oks_at 3 rfl) (oks_cons (oks_at 4 rfl) (oks_cons (oks_at 5 rfl) (oks_cons (oks_at 6 rfl) (oks_cons (oks_at 7 rfl) (oks_cons (oks_at 8 rfl) (oks_cons (oks_at 9 rfl) (oks_cons (oks_at 10 rfl) (oks_nil _)))))))))))) ?_
              refine FlowS.rd rfl rfl rfl rfl (Rd.loadS (i := 10) rfl rfl r33 rfl box_whole rfl) ?_
              refine FlowS.rd rfl rfl rfl rfl (Rd.loadS (i := 0) rfl rfl r33 rfl box_whole rfl) ?_
              refine FlowS.callQ rfl rfl rfl rfl (Ent.fn rfl rfl ca10) (lessM_fn u v) rfl (oks_nil _) ?_
              refine FlowS.rd rfl rfl rfl rfl (Rd.loadS (i := 10) rfl rfl r33 rfl box_whole rfl) ?_
              refine FlowS.rd rfl rfl rfl rfl (Rd.loadS (i := 0) rfl rfl r33 rfl box_whole rfl) ?_
              refine FlowS.callQ rfl rfl rfl rfl (Ent.fn rfl rfl ca11) (rlessM_fn u v) rfl (oks_nil _) ?_
              refine FlowS.free rfl rfl rfl rfl (Rd.as (v' := .bool false) (congrArg Value.bool (by rw [beq_self_eq_true]; rfl)) (Rd.neqB rfl Try.underlying4 rfl rfl)) ?_
              refine FlowS.fin ?_
              refine To.as [box b11_2 [.int .i64 v.f, .int .i64 v.t, .int .i64 v.n] 33, box b3 [.slice AP P.length qP, .slice AX X.length qX] 25, box b4 [.slice AQ Q.length qQ, .slice AY Y.length qY] 25, box b5 [.slice AR R.length qR, .slice AZ Z.length qZ] 25, rows Ky.cells 37 4 AP qP P, rows Ms.cells 33 3 AX qX X, rows Ky.cells 37 4 AQ qQ Q, rows Ms.cells 33 3 AY qY Y, rows Ky.cells 37 4 AR qR R, rows Ms.cells 33 3 AZ qZ Z, box b9_2 [.int .i64 u.f, .int .i64 u.t, .int .i64 u.n] 33] rfl ?_
              refine To.thenN ?_
              refine To.condF rfl ?_
              refine To.skip ?_
              refine To.blockN ?_
              refine To.thenN ?_
              refine To.reg ?_
              refine To.rd rfl rfl rfl (Rd.inc rfl rfl rfl (by omega)) ?_
              refine To.rd rfl rfl rfl (Rd.move rfl rfl) ?_
              refine To.nil ?_
              refine To.thenN ?_
              refine To.sub [(3, .pointer (some ⟨b3, 0, none⟩)), (4, .pointer (some ⟨b4, 0, none⟩)), (9, .pointer (some ⟨b9_2, 0, none⟩)), (82, .slice AX X.length qX), (83, .int .i64 ((X.length : Nat) : Int)), (84, .int .i64 ((i : Nat) : Int)), (89, .slice AY Y.length qY), (90, .int .i64 ((Y.length : Nat) : Int)), (91, .int .i64 (((j + 1) : Nat) : Int))] ⟨rfl, rfl, rfl, rfl, rfl, rfl, rfl, rfl, rfl, trivial⟩ ?_
              refine To.only [1, 1, 1, 1, 1, 1, 1, 1, 1, 1] rfl ?_
              refine To.again (Y.length - (j + 1)) (by omega) ⟨j + 1, rfl, rfl, rfl, (by omega)⟩
            ·
              refine To.exit ?_
              refine To.thenX ?_
              refine To.thenX ?_
              refine To.blockX ?_
              refine To.blockN ?_
              refine To.thenN ?_
              refine To.reg ?_
              refine To.rd rfl rfl rfl (Rd.inc rfl rfl rfl (by omega)) ?_
              refine To.rd rfl rfl rfl (Rd.move rfl rfl) ?_
              refine To.nil ?_
              refine To.thenN ?_
              refine To.sub [(3, .pointer (some ⟨b3, 0, none⟩)), (4, .pointer (some ⟨b4, 0, none⟩)), (82, .slice AX X.length qX), (83, .int .i64 ((X.length : Nat) : Int)), (84, .int .i64 (((i + 1) : Nat) : Int))] ⟨rfl, rfl, rfl, rfl, rfl, trivial⟩ ?_
              refine To.only [0, 0, 0, 0, 0, 0, 0, 0, 0] rfl ?_
              refine To.again (X.length - (i + 1)) (by omega) ⟨i + 1, rfl, rfl, rfl, (by omega)⟩
          ·
            refine To.exit ?_
            refine To.thenX ?_
            refine To.thenX ?_
            refine To.blockX ?_
            refine To.thenN ?_
            refine To.seq ?_
            refine To.seq ?_
            refine To.reg ?_
            refine To.rd rfl rfl rfl (Rd.field rfl rfl fl25_0) ?_
            refine To.rd rfl rfl rfl (Rd.load (i := 0) rfl rfl c22 rfl (box_gives1 rfl)) ?_
            refine To.rd rfl rfl rfl (Rd.len rfl rfl Try.underlying22) ?_
            refine To.rd rfl rfl rfl (Rd.move rfl rfl) ?_
            refine To.nil ?_
            refine To.thenN ?_
            refine To.block ?_
            refine To.sub [(3, .pointer (some ⟨b3, 0, none⟩)), (4, .pointer (some ⟨b4, 0, none⟩)), (105, .slice AP P.length qP), (106, .int .i64 ((P.length : Nat) : Int)), (107, .int .i64 ((0 : Nat) : Int))] ⟨rfl, rfl, rfl, rfl, rfl, trivial⟩ ?_
            refine To.only [0, 0, 0, 0, 0, 0, 0, 0, 0] rfl ?_
            refine To.loop (fun mz ρ Γ => ∃ (k : Nat), ρ = [(3, .pointer (some ⟨b3, 0, none⟩)), (4, .pointer (some ⟨b4, 0, none⟩)), (105, .slice AP P.length qP), (106, .int .i64 ((P.length : Nat) : Int)), (107, .int .i64 ((k : Nat) : Int))] ∧ Γ = [box b3 [.slice AP P.length qP, .slice AX X.length qX] 25, box b4 [.slice AQ Q.length qQ, .slice AY Y.length qY] 25, box b5 [.slice AR R.length qR, .slice AZ Z.length qZ] 25, rows Ky.cells 37 4 AP qP P, rows Ms.cells 33 3 AX qX X, rows Ky.cells 37 4 AQ qQ Q, rows Ms.cells 33 3 AY qY Y, rows Ky.cells 37 4 AR qR R, rows Ms.cells 33 3 AZ qZ Z] ∧ mz = P.length - k ∧ (k ≤ P.length)) (P.length - 0) ⟨0, rfl, rfl, rfl, (Nat.zero_le _)⟩ ?_
            rintro mz _ _ ⟨k, rfl, rfl, rfl, hk⟩
            refine To.seq ?_
            refine To.reg ?_
            refine To.rd rfl rfl rfl (Rd.lss rfl rfl rfl) ?_
            refine To.nil ?_
            refine To.thenN ?_
            refine To.seq ?_
            refine To.condP rfl (fun c108 => ?_) (fun c108 => ?_)
            ·
              obtain ⟨u, hu⟩ : ∃ z0, P[k]? = some z0 := ⟨P[k]'(by omega), List.getElem?_eq_getElem _⟩
              refine To.skip ?_
              refine To.thenN ?_
              refine To.seq ?_
              refine To.block ?_
              refine To.seq ?_
              refine To.reg ?_
              refine To.rd rfl rfl rfl (Rd.indexRows (i := 3) (j := k) rfl rfl rfl s22 rfl hu) ?_
              refine To.rd rfl rfl rfl (Rd.loadS (i := 3) rfl rfl r37 rfl (rows_gives encK hu) (encK.len _)) ?_
              refine To.alloc rfl rfl rfl rfl z37 (fun b13_2 => ?_)
              refine To.up rfl rfl (Up.storeS (i := 0) rfl rfl rfl r37 rfl rfl rfl (box_takesAll rfl)) ?_
              refine To.nil ?_
              refine To.thenN ?_
              refine To.seq ?_
              refine To.reg ?_
              refine To.rd rfl rfl rfl (Rd.field rfl rfl fl25_0) ?_
              refine To.rd rfl rfl rfl (Rd.load (i := 2) rfl rfl c22 rfl (box_gives1 rfl)) ?_
              refine To.rd rfl rfl rfl (Rd.len rfl rfl Try.underlying22) ?_
              refine To.rd rfl rfl rfl (Rd.move rfl rfl) ?_
              refine To.nil ?_
              refine To.thenN ?_
              refine To.block ?_
              refine To.sub [(3, .pointer (some ⟨b3, 0, none⟩)), (4, .pointer (some ⟨b4, 0, none⟩)), (13, .pointer (some ⟨b13_2, 0, none⟩)), (105, .slice AP P.length qP), (106, .int .i64 ((P.length : Nat) : Int)), (107, .int .i64 ((k : Nat) : Int)), (112, .slice AQ Q.length qQ), (113, .int .i64 ((Q.length : Nat) : Int)), (114, .int .i64 ((0 : Nat) : Int))] ⟨rfl, rfl, rfl, rfl, rfl, rfl, rfl, rfl, rfl, trivial⟩ ?_
              refine To.only [1, 1, 1, 1, 1, 1, 1, 1, 1, 0] rfl ?_
              refine To.loop (fun mz ρ Γ => ∃ (m : Nat), ρ = [(3, .pointer (some ⟨b3, 0, none⟩)), (4, .pointer (some ⟨b4, 0, none⟩)), (13, .pointer (some ⟨b13_2, 0, none⟩)), (105, .slice AP P.length qP), (106, .int .i64 ((P.length : Nat) : Int)), (107, .int .i64 ((k : Nat) : Int)), (112, .slice AQ Q.length qQ), (113, .int .i64 ((Q.length : Nat) : Int)), (114, .int .i64 ((m : Nat) : Int))] ∧ Γ = [box b3 [.slice AP P.length qP, .slice AX X.length qX] 25, box b4 [.slice AQ Q.length qQ, .slice AY Y.length qY] 25, box b5 [.slice AR R.length qR, .slice AZ Z.length qZ] 25, rows Ky.cells 37 4 AP qP P, rows Ms.cells 33 3 AX qX X, rows Ky.cells 37 4 AQ qQ Q, rows Ms.cells 33 3 AY qY Y, rows Ky.cells 37 4 AR qR R, rows Ms.cells 33 3 AZ qZ Z, box b13_2 [.int .u8 u.k, .int .i64 u.a, .int .i64 u.b, .int .i64 u.n] 37] ∧ mz = Q.length - m ∧ (m ≤ Q.length)) (Q.length - 0) ⟨0, rfl, rfl, rfl, (Nat.zero_le _)⟩ ?_
              rintro mz _ _ ⟨m, rfl, rfl, rfl, hm⟩
              refine To.seq ?_
              refine To.reg ?_
              refine To.rd rfl rfl rfl (Rd.lss rfl rfl rfl) ?_
              refine To.nil ?_
              refine To.thenN ?_
              refine To.seq ?_
              refine To.condP rfl (fun c115 => ?_) (fun c115 => ?_)
              ·
                obtain ⟨v, hv⟩ : ∃ z0, Q[m]? = some z0 := ⟨Q[m]'(by omega), List.getElem?_eq_getElem _⟩
                refine To.skip ?_
                refine To.thenN ?_
                refine To.seq ?_
                refine To.block ?_
                refine To.seq ?_
                refine To.reg ?_
                refine To.rd rfl rfl rfl (Rd.indexRows (i := 5) (j := m) rfl rfl rfl s22 rfl hv) ?_
                refine To.rd rfl rfl rfl (Rd.loadS (i := 5) rfl rfl r37 rfl (rows_gives encK hv) (encK.len _)) ?_
                refine To.alloc rfl rfl rfl rfl z37 (fun b15_2 => ?_)
                refine To.up rfl rfl (Up.storeS (i := 0) rfl rfl rfl r37 rfl rfl rfl (box_takesAll rfl)) ?_
                refine To.nil ?_
                refine To.thenN ?_
                refine To.seq ?_
                refine To.flow2 [box b15_2 [.int .u8 v.k, .int .i64 v.a, .int .i64 v.b, .int .i64 v.n] 37, box b3 [.slice AP P.length qP, .slice AX X.length qX] 25, box b4 [.slice AQ Q.length qQ, .slice AY Y.length qY] 25, box b5 [.slice AR R.length qR, .slice AZ Z.length qZ] 25, box b13_2 [.int .u8 u.k, .int .i64 u.a, .int .i64 u.b, .int .i64 u.n] 37] 8 4 [⟨0, [], 0⟩, ⟨3, [], 0⟩, ⟨1, [], 2⟩, ⟨2, [1], 0⟩, ⟨4, [], 2⟩, ⟨5, [4], 0⟩, ⟨6, [], 2⟩, ⟨7, [], 2⟩, ⟨8, [1, 4, 6, 7], 5⟩, ⟨9, [], 5⟩] [⟨0, [], 0⟩, ⟨3, [], 0⟩, ⟨1, [], 2⟩, ⟨2, [1], 0⟩, ⟨6, [], 2⟩, ⟨7, [], 2⟩, ⟨8, [1, 6, 7], 5⟩, ⟨4, [], 2⟩, ⟨5, [4], 0⟩, ⟨9, [4], 5⟩] mixed rfl (by kernel_rfl) (by kernel_rfl) (by kernel_rfl) (oks_cons (oks_at 0 rfl) (oks_cons (oks_at 1 rfl) (oks_cons (oks_at 2 rfl) (oks_cons (oks_at 3 rfl) (oks_cons (oks_at 10 rfl) (oks_nil _)))))) ?_ ?_
                ·
                  refine FlowS.free rfl rfl rfl rfl (Rd.loadS (i := 4) rfl rfl r37 rfl box_whole rfl) ?_
                  refine FlowS.free rfl rfl rfl rfl (Rd.loadS (i := 0) rfl rfl r37 rfl box_whole rfl) ?_
                  refine FlowS.mk rfl rfl rfl rfl rfl (Mk.sliceN (us := [.int .u8 u.k, .int .i64 u.a, .int .i64 u.b, .int .i64 u.n]) rfl s22 rfl rfl rfl rfl rfl rfl) ?_
                  rintro _ _ ⟨b119_3, rfl, rfl⟩
                  refine FlowS.free rfl rfl rfl rfl (Rd.build (vs := [(0, .slice (some ⟨b119_3, 0, none⟩) 1 1)]) (cells := [.slice (some ⟨b119_3, 0, none⟩) 1 1, .slice none 0 0]) rfl rfl rfl (by kernel_rfl)) ?_
                  refine FlowS.mk rfl rfl rfl rfl rfl (Mk.sliceN (us := [.int .u8 v.k, .int .i64 v.a, .int .i64 v.b, .int .i64 v.n]) rfl s22 rfl rfl rfl rfl rfl rfl) ?_
                  rintro _ _ ⟨b122_3, rfl, rfl⟩
                  refine FlowS.free rfl rfl rfl rfl (Rd.build (vs := [(0, .slice (some ⟨b122_3, 0, none⟩) 1 1)]) (cells := [.slice (some ⟨b122_3, 0, none⟩) 1 1, .slice none 0 0]) rfl rfl rfl (by kernel_rfl)) ?_
                  refine FlowS.mk rfl rfl rfl rfl rfl (Mk.alloc rfl z29) ?_
                  rintro _ _ ⟨b16_3, rfl, rfl⟩
                  refine FlowS.mk rfl rfl rfl rfl rfl (Mk.alloc rfl z29) ?_
                  rintro _ _ ⟨b17_3, rfl, rfl⟩
                  refine FlowS.up (Γ' := [box b17_3 [.slice none 0 0, .slice none 0 0] 29, box b16_3 [.slice (some ⟨b119_3, 0, none⟩) 1 1, .slice none 0 0] 29, row 37 4 (some ⟨b122_3, 0, none⟩) 1 1 [.int .u8 v.k, .int .i64 v.a, .int .i64 v.b, .int .i64 v.n], row 37 4 (some ⟨b119_3, 0, none⟩) 1 1 [.int .u8 u.k, .int .i64 u.a, .int .i64 u.b, .int .i64 u.n], box b15_2 [.int .u8 v.k, .int .i64 v.a, .int .i64 v.b, .int .i64 v.n] 37, box b3 [.slice AP P.length qP, .slice AX X.length qX] 25, box b4 [.slice AQ Q.length qQ, .slice AY Y.length qY] 25, box b5 [.slice AR R.length qR, .slice AZ Z.length qZ] 25, rows Ky.cells 37 4 AP qP P, rows Ms.cells 33 3 AX qX X, rows Ky.cells 37 4 AQ qQ Q, rows Ms.cells 33 3 AY qY Y, rows Ky.cells 37 4 AR qR R, rows Ms.cells 33 3 AZ qZ Z, box b13_2 [.int .u8 u.k, .int .i64 u.a, .int .i64 u.b, .int .i64 u.n] 37]) rfl rfl rfl (Up.storeS (i := 1) rfl rfl rfl r29 rfl rfl rfl (box_takesAll rfl)) (oks_cons (oks_at 4 rfl) (oks_cons (oks_at 5 rfl) (oks_cons (oks_at 6 rfl) (oks_cons (oks_at 7 rfl) (oks_cons (oks_at 14 rfl) (oks_nil _)))))) ?_
                  refine FlowS.up (Γ' := [box b17_3 [.slice (some ⟨b122_3, 0, none⟩) 1 1, .slice none 0 0] 29, box b16_3 [.slice (some ⟨b119_3, 0, none⟩) 1 1, .slice none 0 0] 29, row 37 4 (some ⟨b122_3, 0, none⟩) 1 1 [.int .u8 v.k, .int .i64 v.a, .int .i64 v.b, .int .i64 v.n], row 37 4 (some ⟨b119_3, 0, none⟩) 1 1 [.int .u8 u.k, .int .i64 u.a, .int .i64 u.b, .int .i64 u.n], box b15_2 [.int .u8 v.k, .int .i64 v.a, .int .i64 v.b, .int .i64 v.n] 37, box b3 [.slice AP P.length qP, .slice AX X.length qX] 25, box b4 [.slice AQ Q.length qQ, .slice AY Y.length qY] 25, box b5 [.slice AR R.length qR, .slice AZ Z.length qZ] 25, rows Ky.cells 37 4 AP qP P, rows Ms.cells 33 3 AX qX X, rows Ky.cells 37 4 AQ qQ Q, rows Ms.cells 33 3 AY qY Y, rows Ky.cells 37 4 AR qR R, rows Ms.cells 33 3 AZ qZ Z, box b13_2 [.int .u8 u.k, .int .i64 u.a, .int .i64 u.b, .int .i64 u.n] 37]) rfl rfl rfl (Up.storeS (i := 0) rfl rfl rfl r29 rfl rfl rfl (box_takesAll rfl)) (oks_cons (oks_at 4 rfl) (oks_cons (oks_at 5 rfl) (oks_cons (oks_at 6 rfl) (oks_cons (oks_at 7 rfl) (oks_cons (oks_at 14 rfl) (oks_nil _)))))) ?_
                  refine FlowS.fin ?_
                  refine To.as [box b17_3 [.slice (some ⟨b122_3, 0, none⟩) 1 1, .slice none 0 0] 29, box b16_3 [.slice (some ⟨b119_3, 0, none⟩) 1 1, .slice none 0 0] 29, row 37 4 (some ⟨b122_3, 0, none⟩) 1 1 [.int .u8 v.k, .int .i64 v.a, .int .i64 v.b, .int .i64 v.n], row 37 4 (some ⟨b119_3, 0, none⟩) 1 1 [.int .u8 u.k, .int .i64 u.a, .int .i64 u.b, .int .i64 u.n], box b15_2 [.int .u8 v.k, .int .i64 v.a, .int .i64 v.b, .int .i64 v.n] 37, box b3 [.slice AP P.length qP, .slice AX X.length qX] 25, box b4 [.slice AQ Q.length qQ, .slice AY Y.length qY] 25, box b5 [.slice AR R.length qR, .slice AZ Z.length qZ] 25, rows Ky.cells 37 4 AP qP P, rows Ms.cells 33 3 AX qX X, rows Ky.cells 37 4 AQ qQ Q, rows Ms.cells 33 3 AY qY Y, rows Ky.cells 37 4 AR qR R, rows Ms.cells 33 3 AZ qZ Z, box b13_2 [.int .u8 u.k, .int .i64 u.a, .int .i64 u.b, .int .i64 u.n] 37] rfl ?_
                  refine To.thenN ?_
                  refine To.seq ?_
                  refine To.flow [box b17_3 [.slice (some ⟨b122_3, 0, none⟩) 1 1, .slice none 0 0] 29, box b16_3 [.slice (some ⟨b119_3, 0, none⟩) 1 1, .slice none 0 0] 29, row 37 4 (some ⟨b122_3, 0, none⟩) 1 1 [.int .u8 v.k, .int .i64 v.a, .int .i64 v.b, .int .i64 v.n], row 37 4 (some ⟨b119_3, 0, none⟩) 1 1 [.int .u8 u.k, .int .i64 u.a, .int .i64 u.b, .int .i64 u.n], box b15_2 [.int .u8 v.k, .int .i64 v.a, .int .i64 v.b, .int .i64 v.n] 37, box b3 [.slice AP P.length qP, .slice AX X.length qX] 25, box b4 [.slice AQ Q.length qQ, .slice AY Y.length qY] 25, box b5 [.slice AR R.length qR, .slice AZ Z.length qZ] 25, rows Ky.cells 37 4 AP qP P, rows Ms.cells 33 3 AX qX X, rows Ky.cells 37 4 AQ qQ Q, rows Ms.cells 33 3 AY qY Y, rows Ky.cells 37 4 AR qR R, rows Ms.cells 33 3 AZ qZ Z, box b13_2 [.int .u8 u.k, .int .i64 u.a, .int .i64 u.b, .int .i64 u.n] 37] [⟨0, [], 1⟩, ⟨1, [], 1⟩, ⟨2, [], 3⟩, ⟨3, [], 1⟩, ⟨4, [], 1⟩, ⟨5, [], 3⟩, ⟨6, [], 0⟩] mixed (by kernel_rfl) (oks_cons (oks_at 0 rfl) (oks_cons (oks_at 1 rfl) (oks_cons (oks_at 2 rfl) (oks_cons (oks_at 3 rfl) (oks_cons (oks_at 4 rfl) (oks_cons (oks_at 5 rfl) (oks_cons (oks_at 6 rfl) (oks_cons (oks_at 7 rfl) (oks_cons (oks_at 8 rfl) (oks_cons (oks_at 9 rfl) (oks_cons (oks_at 10 rfl) (oks_cons (oks_at 11 rfl) (oks_cons (oks_at 12 rfl) (oks_cons (oks_at 13 rfl) (oks_cons (oks_at 14 rfl) (oks_nil _)))))))))))))))) ?_
                  refine FlowS.rd rfl rfl rfl rfl (Rd.loadS (i := 1) rfl rfl r29 rfl box_whole rfl) ?_
                  refine FlowS.rd rfl rfl rfl rfl (Rd.loadS (i := 0) rfl rfl r29 rfl box_whole rfl) ?_
                  refine FlowS.callQ rfl rfl rfl rfl (Ent.fn rfl rfl ca7) (lessK1_fn (some ⟨b119_3, 0, none⟩) (some ⟨b122_3, 0, none⟩) u v) rfl (oks_cons (oks_row 3 rfl) (oks_cons (fun w _ => .inl rfl) (oks_cons (oks_row 2 rfl) (oks_cons (fun w _ => .inl rfl) (oks_nil _))))) ?_
                  refine FlowS.rd rfl rfl rfl rfl (Rd.loadS (i := 14) rfl rfl r37 rfl box_whole rfl) ?_
                  refine FlowS.rd rfl rfl rfl rfl (Rd.loadS (i := 4) rfl rfl r37 rfl box_whole rfl) ?_
                  refine FlowS.callQ rfl rfl rfl rfl (Ent.fn rfl rfl ca12) (lessK_fn u v) rfl (oks_nil _) ?_
                  refine FlowS.free rfl rfl rfl rfl (Rd.as (v' := .bool false) (congrArg Value.bool (by rw [beq_self_eq_true]; rfl)) (Rd.neqB rfl Try.underlying4 rfl rfl)) ?_
                  refine FlowS.fin ?_
                  refine To.as [box b17_3 [.slice (some ⟨b122_3, 0, none⟩) 1 1, .slice none 0 0] 29, box b16_3 [.slice (some ⟨b119_3, 0, none⟩) 1 1, .slice none 0 0] 29, row 37 4 (some ⟨b122_3, 0, none⟩) 1 1 [.int .u8 v.k, .int .i64 v.a, .int .i64 v.b, .int .i64 v.n], row 37 4 (some ⟨b119_3, 0, none⟩) 1 1 [.int .u8 u.k, .int .i64 u.a, .int .i64 u.b, .int .i64 u.n], box b15_2 [.int .u8 v.k, .int .i64 v.a, .int .i64 v.b, .int .i64 v.n] 37, box b3 [.slice AP P.length qP, .slice AX X.length qX] 25, box b4 [.slice AQ Q.length qQ, .slice AY Y.length qY] 25, box b5 [.slice AR R.length qR, .slice AZ Z.length qZ] 25, rows Ky.cells 37 4 AP qP P, rows Ms.cells 33 3 AX qX X, rows Ky.cells 37 4 AQ qQ Q, rows Ms.cells 33 3 AY qY Y, rows Ky.cells 37 4 AR qR R, rows Ms.cells 33 3 AZ qZ Z, box b13_2 [.int .u8 u.k, .int .i64 u.a, .int .i64 u.b, .int .i64 u.n] 37] rfl ?_
                  refine To.sub [(3, .pointer (some ⟨b3, 0, none⟩)), (4, .pointer (some ⟨b4, 0, none⟩)), (13, .pointer (some ⟨b13_2, 0, none⟩)), (105, .slice AP P.length qP), (106, .int .i64 ((P.length : Nat) : Int)), (107, .int .i64 ((k : Nat) : Int)), (112, .slice AQ Q.length qQ), (113, .int .i64 ((Q.length : Nat) : Int)), (114, .int .i64 ((m : Nat) : Int)), (115, .bool (decide (((m : Nat) : Int) < ((Q.length : Nat) : Int)))), (15, .pointer (some ⟨b15_2, 0, none⟩)), (16, .pointer (some ⟨b16_3, 0, none⟩)), (17, .pointer (some ⟨b17_3, 0, none⟩)), (130, .bool false)] ⟨rfl, rfl, rfl, rfl, rfl, rfl, rfl, rfl, rfl, rfl, rfl, rfl, rfl, rfl, trivial⟩ ?_
                  refine To.thenN ?_
                  refine To.condF rfl ?_
                  refine To.skip ?_
                  refine To.blockN ?_
                  refine To.thenN ?_
                  refine To.reg ?_
                  refine To.rd rfl rfl rfl (Rd.inc rfl rfl rfl (by omega)) ?_
                  refine To.rd rfl rfl rfl (Rd.move rfl rfl) ?_
                  refine To.nil ?_
                  refine To.thenN ?_
                  refine To.sub [(3, .pointer (some ⟨b3, 0, none⟩)), (4, .pointer (some ⟨b4, 0, none⟩)), (13, .pointer (some ⟨b13_2, 0, none⟩)), (105, .slice AP P.length qP), (106, .int .i64 ((P.length : Nat) : Int)), (107, .int .i64 ((k : Nat) : Int)), (112, .slice AQ Q.length qQ), (113, .int .i64 ((Q.length : Nat) : Int)), (114, .int .i64 (((m + 1) : Nat) : Int))] ⟨rfl, rfl, rfl, rfl, rfl, rfl, rfl, rfl, rfl, trivial⟩ ?_
                  refine To.only [5, 5, 5, 5, 5, 5, 5, 5, 5, 5] rfl ?_
                  refine To.again (Q.length - (m + 1)) (by omega) ⟨m + 1, rfl, rfl, rfl, (by omega)⟩
                ·
                  refine FlowS.free rfl rfl rfl rfl (Rd.loadS (i := 4) rfl rfl r37 rfl box_whole rfl) ?_
                  refine FlowS.free rfl rfl rfl rfl (Rd.loadS (i := 0) rfl rfl r37 rfl box_whole rfl) ?_
                  refine FlowS.mk rfl rfl rfl rfl rfl (Mk.sliceN (us := [.int .u8 u.k, .int .i64 u.a, .int .i64 u.b, .int .i64 u.n]) rfl s22 rfl rfl rfl rfl rfl rfl) ?_
                  rintro _ _ ⟨b119_4, rfl, rfl⟩
                  refine FlowS.free rfl rfl rfl rfl (Rd.build (vs := [(0, .slice (some ⟨b119_4, 0, none⟩) 1 1)]) (cells := [.slice (some ⟨b119_4, 0, none⟩) 1 1, .slice none 0 0]) rfl rfl rfl (by kernel_rfl)) ?_
                  refine FlowS.mk rfl rfl rfl rfl rfl (Mk.alloc rfl z29) ?_
                  rintro _ _ ⟨b16_4, rfl, rfl⟩
                  refine FlowS.mk rfl rfl rfl rfl rfl (Mk.alloc rfl z29) ?_
                  rintro _ _ ⟨b17_4, rfl, rfl⟩
                  refine FlowS.up (Γ' := [box b17_4 [.slice none 0 0, .slice none 0 0] 29, box b16_4 [.slice (some ⟨b119_4, 0, none⟩) 1 1, .slice none 0 0] 29, row 37 4 (some ⟨b119_4, 0, none⟩) 1 1 [.int .u8 u.k, .int .i64 u.a, .int .i64 u.b, .int .i64 u.n], box b15_2 [.int .u8 v.k, .int .i64 v.a, .int .i64 v.b, .int .i64 v.n] 37, box b3 [.slice AP P.length qP, .slice AX X.length qX] 25, box b4 [.slice AQ Q.length qQ, .slice AY Y.length qY] 25, box b5 [.slice AR R.length qR, .slice AZ Z.length qZ] 25, rows Ky.cells 37 4 AP qP P, rows Ms.cells 33 3 AX qX X, rows Ky.cells 37 4 AQ qQ Q, rows Ms.cells 33 3 AY qY Y, rows Ky.cells 37 4 AR qR R, rows Ms.cells 33 3 AZ qZ Z, box b13_2 [.int .u8 u.k, .int .i64 u.a, .int .i64 u.b, .int .i64 u.n] 37]) rfl rfl rfl (Up.storeS (i := 1) rfl rfl rfl r29 rfl rfl rfl (box_takesAll rfl)) (oks_cons (oks_at 3 rfl) (oks_cons (oks_at 4 rfl) (oks_cons (oks_at 5 rfl) (oks_cons (oks_at 6 rfl) (oks_cons (oks_at 13 rfl) (oks_nil _)))))) ?_
                  refine FlowS.mk rfl rfl rfl rfl rfl (Mk.sliceN (us := [.int .u8 v.k, .int .i64 v.a, .int .i64 v.b, .int .i64 v.n]) rfl s22 rfl rfl rfl rfl rfl rfl) ?_
                  rintro _ _ ⟨b122_4, rfl, rfl⟩
                  refine FlowS.free rfl rfl rfl rfl (Rd.build (vs := [(0, .slice (some ⟨b122_4, 0, none⟩) 1 1)]) (cells := [.slice (some ⟨b122_4, 0, none⟩) 1 1, .slice none 0 0]) rfl rfl rfl (by kernel_rfl)) ?_
                  refine FlowS.up (Γ' := [row 37 4 (some ⟨b122_4, 0, none⟩) 1 1 [.int .u8 v.k, .int .i64 v.a, .int .i64 v.b, .int .i64 v.n], box b17_4 [.slice (some ⟨b122_4, 0, none⟩) 1 1, .slice none 0 0] 29, box b16_4 [.slice (some ⟨b119_4, 0, none⟩) 1 1, .slice none 0 0] 29, row 37 4 (some ⟨b119_4, 0, none⟩) 1 1 [.int .u8 u.k, .int .i64 u.a, .int .i64 u.b, .int .i64 u.n], box b15_2 [.int .u8 v.k, .int .i64 v.a, .int .i64 v.b, .int .i64 v.n] 37, box b3 [.slice AP P.length qP, .slice AX X.length qX] 25, box b4 [.slice AQ Q.length qQ, .slice AY Y.length qY] 25, box b5 [.slice AR R.length qR, .slice AZ Z.length qZ] 25, rows Ky.cells 37 4 AP qP P, rows Ms.cells 33 3 AX qX X, rows Ky.cells 37 4 AQ qQ Q, rows Ms.cells 33 3 AY qY Y, rows Ky.cells 37 4 AR qR R, rows Ms.cells 33 3 AZ qZ Z, box b13_2 [.int .u8 u.k, .int .i64 u.a, .int .i64 u.b, .int .i64 u.n] 37]) rfl rfl rfl (Up.storeS (i := 1) rfl rfl rfl r29 rfl rfl rfl (box_takesAll rfl)) (oks_cons (oks_at 4 rfl) (oks_cons (oks_at 5 rfl) (oks_cons (oks_at 6 rfl) (oks_cons (oks_at 7 rfl) (oks_cons (oks_at 14 rfl) (oks_nil _)))))) ?_
                  refine FlowS.fin ?_
                  refine To.as [row 37 4 (some ⟨b122_4, 0, none⟩) 1 1 [.int .u8 v.k, .int .i64 v.a, .int .i64 v.b, .int .i64 v.n], box b17_4 [.slice (some ⟨b122_4, 0, none⟩) 1 1, .slice none 0 0] 29, box b16_4 [.slice (some ⟨b119_4, 0, none⟩) 1 1, .slice none 0 0] 29, row 37 4 (some ⟨b119_4, 0, none⟩) 1 1 [.int .u8 u.k, .int .i64 u.a, .int .i64 u.b, .int .i64 u.n], box b15_2 [.int .u8 v.k, .int .i64 v.a, .int .i64 v.b, .int .i64 v.n] 37, box b3 [.slice AP P.length qP, .slice AX X.length qX] 25, box b4 [.slice AQ Q.length qQ, .slice AY Y.length qY] 25, box b5 [.slice AR R.length qR, .slice AZ Z.length qZ] 25, rows Ky.cells 37 4 AP qP P, rows Ms.cells 33 3 AX qX X, rows Ky.cells 37 4 AQ qQ Q, rows Ms.cells 33 3 AY qY Y, rows Ky.cells 37 4 AR qR R, rows Ms.cells 33 3 AZ qZ Z, box b13_2 [.int .u8 u.k, .int .i64 u.a, .int .i64 u.b, .int .i64 u.n] 37] rfl ?_
                  refine To.thenN ?_
                  refine To.seq ?_
                  refine To.flow [row 37 4 (some ⟨b122_4, 0, none⟩) 1 1 [.int .u8 v.k, .int .i64 v.a, .int .i64 v.b, .int .i64 v.n], box b17_4 [.slice (some ⟨b122_4, 0, none⟩) 1 1, .slice none 0 0] 29, box b16_4 [.slice (some ⟨b119_4, 0, none⟩) 1 1, .slice none 0 0] 29, row 37 4 (some ⟨b119_4, 0, none⟩) 1 1 [.int .u8 u.k, .int .i64 u.a, .int .i64 u.b, .int .i64 u.n], box b15_2 [.int .u8 v.k, .int .i64 v.a, .int .i64 v.b, .int .i64 v.n] 37, box b3 [.slice AP P.length qP, .slice AX X.length qX] 25, box b4 [.slice AQ Q.length qQ, .slice AY Y.length qY] 25, box b5 [.slice AR R.length qR, .slice AZ Z.length qZ] 25, rows Ky.cells 37 4 AP qP P, rows Ms.cells 33 3 AX qX X, rows Ky.cells 37 4 AQ qQ Q, rows Ms.cells 33 3 AY qY Y, rows Ky.cells 37 4 AR qR R, rows Ms.cells 33 3 AZ qZ Z, box b13_2 [.int .u8 u.k, .int .i64 u.a, .int .i64 u.b, .int .i64 u.n] 37] [⟨0, [], 1⟩, ⟨1, [], 1⟩, ⟨2, [], 3⟩, ⟨3, [], 1⟩, ⟨4, [], 1⟩, ⟨5, [], 3⟩, ⟨6, [], 0⟩] mixed (by kernel_rfl) (oks_cons (oks_at 0 rfl) (oks_cons (oks_at 1 rfl) (oks_cons (oks_at 2 rfl) (oks_cons (oks_at 3 rfl) (oks_cons (oks_at 4 rfl) (oks_cons (oks_at 5 rfl) (oks_cons (oks_at 6 rfl) (oks_cons (oks_at 7 rfl) (oks_cons (oks_at 8 rfl) (oks_cons (oks_at 9 rfl) (oks_cons (oks_at 10 rfl) (oks_cons (oks_at 11 rfl) (oks_cons (oks_at 12 rfl) (oks_cons (oks_at 13 rfl) (oks_cons (oks_at 14 rfl) (oks_nil _)))))))))))))))) ?_
                  refine FlowS.rd rfl rfl rfl rfl (Rd.loadS (i := 2) rfl rfl r29 rfl box_whole rfl) ?_
                  refine FlowS.rd rfl rfl rfl rfl (Rd.loadS (i := 1) rfl rfl r29 rfl box_whole rfl) ?_
                  refine FlowS.callQ rfl rfl rfl rfl (Ent.fn rfl rfl ca7) (lessK1_fn (some ⟨b119_4, 0, none⟩) (some ⟨b122_4, 0, none⟩) u v) rfl (oks_cons (oks_row 3 rfl) (oks_cons (fun w _ => .inl rfl) (oks_cons (oks_row 0 rfl) (oks_cons (fun w _ => .inl rfl) (oks_nil _))))) ?_
                  refine FlowS.rd rfl rfl rfl rfl (Rd.loadS (i := 14) rfl rfl r37 rfl box_whole rfl) ?_
                  refine FlowS.rd rfl rfl rfl rfl (Rd.loadS (i := 4) rfl rfl r37 rfl box_whole rfl) ?_
                  refine FlowS.callQ rfl rfl rfl rfl (Ent.fn rfl rfl ca12) (lessK_fn u v) rfl (oks_nil _) ?_
                  refine FlowS.free rfl rfl rfl rfl (Rd.as (v' := .bool false) (congrArg Value.bool (by rw [beq_self_eq_true]; rfl)) (Rd.neqB rfl Try.underlying4 rfl rfl)) ?_
                  refine FlowS.fin ?_
                  refine To.as [row 37 4 (some ⟨b122_4, 0, none⟩) 1 1 [.int .u8 v.k, .int .i64 v.a, .int .i64 v.b, .int .i64 v.n], box b17_4 [.slice (some ⟨b122_4, 0, none⟩) 1 1, .slice none 0 0] 29, box b16_4 [.slice (some ⟨b119_4, 0, none⟩) 1 1, .slice none 0 0] 29, row 37 4 (some ⟨b119_4, 0, none⟩) 1 1 [.int .u8 u.k, .int .i64 u.a, .int .i64 u.b, .int .i64 u.n], box b15_2 [.int .u8 v.k, .int .i64 v.a, .int .i64 v.b, .int .i64 v.n] 37, box b3 [.slice AP P.length qP, .slice AX X.length qX] 25, box b4 [.slice AQ Q.length qQ, .slice AY Y.length qY] 25, box b5 [.slice AR R.length qR, .slice AZ Z.length qZ] 25, rows Ky.cells 37 4 AP qP P, rows Ms.cells 33 3 AX qX X, rows Ky.cells 37 4 AQ qQ Q, rows Ms.cells 33 3 AY qY Y, rows Ky.cells 37 4 AR qR R, rows Ms.cells 33 3 AZ qZ Z, box b13_2 [.int .u8 u.k, .int .i64 u.a, .int .i64 u.b, .int .i64 u.n] 37] rfl ?_
                  refine To.sub [(3, .pointer (some ⟨b3, 0, none⟩)), (4, .pointer (some ⟨b4, 0, none⟩)), (13, .pointer (some ⟨b13_2, 0, none⟩)), (105, .slice AP P.length qP), (106, .int .i64 ((P.length : Nat) : Int)), (107, .int .i64 ((k : Nat) : Int)), (112, .slice AQ Q.length qQ), (113, .int .i64 ((Q.length : Nat) : Int)), (114, .int .i64 ((m : Nat) : Int)), (115, .bool (decide (((m : Nat) : Int) < ((Q.length : Nat) : Int)))), (15, .pointer (some ⟨b15_2, 0, none⟩)), (16, .pointer (some ⟨b16_4, 0, none⟩)), (17, .pointer (some ⟨b17_4, 0, none⟩)), (130, .bool false)] ⟨rfl, rfl, rfl, rfl, rfl, rfl, rfl, rfl, rfl, rfl, rfl, rfl, rfl, rfl, trivial⟩ ?_
                  refine To.thenN ?_
                  refine To.condF rfl ?_
                  refine To.skip ?_
                  refine To.blockN ?_
                  refine To.thenN ?_
                  refine To.reg ?_
                  refine To.rd rfl rfl rfl (Rd.inc rfl rfl rfl (by omega)) ?_
                  refine To.rd rfl rfl rfl (Rd.move rfl rfl) ?_
                  refine To.nil ?_
                  refine To.thenN ?_
                  refine To.sub [(3, .pointer (some ⟨b3, 0, none⟩)), (4, .pointer (some ⟨b4, 0, none⟩)), (13, .pointer (some ⟨b13_2, 0, none⟩)), (105, .slice AP P.length qP), (106, .int .i64 ((P.length : Nat) : Int)), (107, .int .i64 ((k : Nat) : Int)), (112, .slice AQ Q.length qQ), (113, .int .i64 ((Q.length : Nat) : Int)), (114, .int .i64 (((m + 1) : Nat) : Int))] ⟨rfl, rfl, rfl, rfl, rfl, rfl, rfl, rfl, rfl, trivial⟩ ?_
                  refine To.only [5, 5, 5, 5, 5, 5, 5, 5, 5, 5] rfl ?_
                  refine To.again (Q.length - (m + 1)) (by omega) ⟨m + 1, rfl, rfl, rfl, (by omega)⟩
              ·
                refine To.exit ?_
                refine To.thenX ?_
                refine To.thenX ?_
                refine To.blockX ?_
                refine To.blockN ?_
                refine To.thenN ?_
                refine To.reg ?_
                refine To.rd rfl rfl rfl (Rd.inc rfl rfl rfl (by omega)) ?_
                refine To.rd rfl rfl rfl (Rd.move rfl rfl) ?_
                refine To.nil ?_
                refine To.thenN ?_
                refine To.sub [(3, .pointer (some ⟨b3, 0, none⟩)), (4, .pointer (some ⟨b4, 0, none⟩)), (105, .slice AP P.length qP), (106, .int .i64 ((P.length : Nat) : Int)), (107, .int .i64 (((k + 1) : Nat) : Int))] ⟨rfl, rfl, rfl, rfl, rfl, trivial⟩ ?_
                refine To.only [0, 0, 0, 0, 0, 0, 0, 0, 0] rfl ?_
                refine To.again (P.length - (k + 1)) (by omega) ⟨k + 1, rfl, rfl, rfl, (by omega)⟩
            ·
              refine To.exit ?_
              refine To.thenX ?_
              refine To.thenX ?_
              refine To.blockX ?_
              refine To.thenN ?_
              refine To.seq ?_
              refine To.reg ?_
              refine To.rd rfl rfl rfl (Rd.assign rfl rfl) ?_
              refine To.nil ?_
              refine To.thenN ?_
              refine To.ret ?_
              refine To.end1 (.inl rfl) Try.results3 rfl ?_
              rfl
      ·
        exact absurd g55 g67
  ·
    refine FlowS.skip (by decide) rfl rfl rfl rfl ?_
    refine FlowS.skip (by decide) rfl rfl rfl rfl ?_
    refine FlowS.skip (by decide) rfl rfl rfl rfl ?_
    refine FlowS.skip (by decide) rfl rfl rfl rfl ?_
    refine FlowS.free rfl rfl rfl rfl (Rd.pickF rfl rfl rfl) ?_
    refine FlowS.free rfl rfl rfl rfl (Rd.pickF rfl rfl rfl) ?_
    refine FlowS.free rfl rfl rfl rfl (Rd.move rfl rfl) ?_
    refine FlowS.free rfl rfl rfl rfl (Rd.move rfl rfl) ?_
    refine FlowS.rd rfl rfl rfl rfl (Rd.loadS (i := 0) rfl rfl r25 rfl box_whole rfl) ?_
    refine FlowS.rd rfl rfl rfl rfl (Rd.loadS (i := 1) rfl rfl r25 rfl box_whole rfl) ?_
    refine FlowS.callQ rfl rfl rfl rfl (Ent.func (first := []) (captured := []) rfl rfl rfl ca6) (lessS_fn AP AX AQ AY qP qX qQ qY P Q X Y hP hX hQ hY) rfl (oks_cons (oks_row 3 rfl) (oks_cons (oks_row 4 rfl) (oks_cons (oks_row 5 rfl) (oks_cons (oks_row 6 rfl) (oks_nil _))))) ?_
    refine FlowS.rdP rfl rfl rfl rfl (Rd.move rfl rfl) (fun g67 => ?_) (fun g67 => ?_)
    ·
      exact absurd g67 g55
    ·
      refine FlowS.skip (by decide) rfl rfl rfl rfl ?_
      refine FlowS.skip (by decide) rfl rfl rfl rfl ?_
      refine FlowS.skip (by decide) rfl rfl rfl rfl ?_
      refine FlowS.skip (by decide) rfl rfl rfl rfl ?_
      refine FlowS.free rfl rfl rfl rfl (Rd.pickF rfl rfl rfl) ?_
      refine FlowS.free rfl rfl rfl rfl (Rd.move rfl rfl) ?_
      refine FlowS.skip (by decide) rfl rfl rfl rfl ?_
      refine FlowS.skip (by decide) rfl rfl rfl rfl ?_
      refine FlowS.skip (by decide) rfl rfl rfl rfl ?_
      refine FlowS.skip (by decide) rfl rfl rfl rfl ?_
      refine FlowS.skip (by decide) rfl rfl rfl rfl ?_
      refine FlowS.free rfl rfl rfl rfl (Rd.pickF rfl rfl rfl) ?_
      refine FlowS.free rfl rfl rfl rfl (Rd.pickF rfl rfl rfl) ?_
      refine FlowS.fin ?_
      refine To.as [box b3 [.slice AP P.length qP, .slice AX X.length qX] 25, box b4 [.slice AQ Q.length qQ, .slice AY Y.length qY] 25, box b5 [.slice AR R.length qR, .slice AZ Z.length qZ] 25, rows Ky.cells 37 4 AP qP P, rows Ms.cells 33 3 AX qX X, rows Ky.cells 37 4 AQ qQ Q, rows Ms.cells 33 3 AY qY Y, rows Ky.cells 37 4 AR qR R, rows Ms.cells 33 3 AZ qZ Z] rfl ?_
      refine To.sub [(0, .agg #[.slice A1 p.length a1, .slice B1 x.length d1]), (1, .agg #[.slice A2 q.length a2, .slice B2 y.length d2]), (2, .agg #[.slice A3 r.length a3, .slice B3 z.length d3]), (3, .pointer (some ⟨b3, 0, none⟩)), (4, .pointer (some ⟨b4, 0, none⟩)), (5, .pointer (some ⟨b5, 0, none⟩)), (6, .bool false), (19, .bool false), (7, .func (.func 6) #[] #[]), (80, .bool false)] ⟨rfl, rfl, rfl, rfl, rfl, rfl, rfl, rfl, rfl, rfl, trivial⟩ ?_
      refine To.thenN ?_
      refine To.condF rfl ?_
      refine To.skip ?_
      refine To.thenN ?_
      refine To.seq ?_
      refine To.seq ?_
      refine To.reg ?_
      refine To.rd rfl rfl rfl (Rd.field rfl rfl fl25_1) ?_
      refine To.rd rfl rfl rfl (Rd.load (i := 0) rfl rfl c23 rfl (box_gives1 rfl)) ?_
      refine To.rd rfl rfl rfl (Rd.len rfl rfl Try.underlying23) ?_
      refine To.rd rfl rfl rfl (Rd.move rfl rfl) ?_
      refine To.nil ?_
      refine To.thenN ?_
      refine To.block ?_
      refine To.sub [(3, .pointer (some ⟨b3, 0, none⟩)), (4, .pointer (some ⟨b4, 0, none⟩)), (82, .slice AX X.length qX), (83, .int .i64 ((X.length : Nat) : Int)), (84, .int .i64 ((0 : Nat) : Int))] ⟨rfl, rfl, rfl, rfl, rfl, trivial⟩ ?_
      refine To.only [0, 0, 0, 0, 0, 0, 0, 0, 0] rfl ?_
      refine To.loop (fun mz ρ Γ => ∃ (i : Nat), ρ = [(3, .pointer (some ⟨b3, 0, none⟩)), (4, .pointer (some ⟨b4, 0, none⟩)), (82, .slice AX X.length qX), (83, .int .i64 ((X.length : Nat) : Int)), (84, .int .i64 ((i : Nat) : Int))] ∧ Γ = [box b3 [.slice AP P.length qP, .slice AX X.length qX] 25, box b4 [.slice AQ Q.length qQ, .slice AY Y.length qY] 25, box b5 [.slice AR R.length qR, .slice AZ Z.length qZ] 25, rows Ky.cells 37 4 AP qP P, rows Ms.cells 33 3 AX qX X, rows Ky.cells 37 4 AQ qQ Q, rows Ms.cells 33 3 AY qY Y, rows Ky.cells 37 4 AR qR R, rows Ms.cells 33 3 AZ qZ Z] ∧ mz = X.length - i ∧ (i ≤ X.length)) (X.length - 0) ⟨0, rfl, rfl, rfl, (Nat.zero_le _)⟩ ?_
      rintro mz _ _ ⟨i, rfl, rfl, rfl, hi⟩
      refine To.seq ?_
      refine To.reg ?_
      refine To.rd rfl rfl rfl (Rd.lss rfl rfl rfl) ?_
      refine To.nil ?_
      refine To.thenN ?_
      refine To.seq ?_
      refine To.condP rfl (fun c85 => ?_) (fun c85 => ?_)
      ·
        obtain ⟨u, hu⟩ : ∃ z0, X[i]? = some z0 := ⟨X[i]'(by omega), List.getElem?_eq_getElem _⟩
        refine To.skip ?_
        refine To.thenN ?_
        refine To.seq ?_
        refine To.block ?_
        refine To.seq ?_
        refine To.reg ?_
        refine To.rd rfl rfl rfl (Rd.indexRows (i := 4) (j := i) rfl rfl rfl s23 rfl hu) ?_
        refine To.rd rfl rfl rfl (Rd.loadS (i := 4) rfl rfl r33 rfl (rows_gives encM hu) (encM.len _)) ?_
        refine To.alloc rfl rfl rfl rfl z33 (fun b9_3 => ?_)
        refine To.up rfl rfl (Up.storeS (i := 0) rfl rfl rfl r33 rfl rfl rfl (box_takesAll rfl)) ?_
        refine To.nil ?_
        refine To.thenN ?_
        refine To.seq ?_
        refine To.reg ?_
        refine To.rd rfl rfl rfl (Rd.field rfl rfl fl25_1) ?_
        refine To.rd rfl rfl rfl (Rd.load (i := 2) rfl rfl c23 rfl (box_gives1 rfl)) ?_
        refine To.rd rfl rfl rfl (Rd.len rfl rfl Try.underlying23) ?_
        refine To.rd rfl rfl rfl (Rd.move rfl rfl) ?_
        refine To.nil ?_
        refine To.thenN ?_
        refine To.block ?_
        refine To.sub [(3, .pointer (some ⟨b3, 0, none⟩)), (4, .pointer (some ⟨b4, 0, none⟩)), (9, .pointer (some ⟨b9_3, 0, none⟩)), (82, .slice AX X.length qX), (83, .int .i64 ((X.length : Nat) : Int)), (84, .int .i64 ((i : Nat) : Int)), (89, .slice AY Y.length qY), (90, .int .i64 ((Y.length : Nat) : Int)), (91, .int .i64 ((0 : Nat) : Int))] ⟨rfl, rfl, rfl, rfl, rfl, rfl, rfl, rfl, rfl, trivial⟩ ?_
        refine To.only [1, 1, 1, 1, 1, 1, 1, 1, 1, 0] rfl ?_
        refine To.loop (fun mz ρ Γ => ∃ (j : Nat), ρ = [(3, .pointer (some ⟨b3, 0, none⟩)), (4, .pointer (some ⟨b4, 0, none⟩)), (9, .pointer (some ⟨b9_3, 0, none⟩)), (82, .slice AX X.length qX), (83, .int .i64 ((X.length : Nat) : Int)), (84, .int .i64 ((i : Nat) : Int)), (89, .slice AY Y.length qY), (90, .int .i64 ((Y.length : Nat) : Int)), (91, .int .i64 ((j : Nat) : Int))] ∧ Γ = [box b3 [.slice AP P.length qP, .slice AX X.length qX] 25, box b4 [.slice AQ Q.length qQ, .slice AY Y.length qY] 25, box b5 [.slice AR R.length qR, .slice AZ Z.length qZ] 25, rows Ky.cells 37 4 AP qP P, rows Ms.cells 33 3 AX qX X, rows Ky.cells 37 4 AQ qQ Q, rows Ms.cells 33 3 AY qY Y, rows Ky.cells 37 4 AR qR R, rows Ms.cells 33 3 AZ qZ Z, box b9_3 [.int .i64 u.f, .int .i64 u.t, .int .i64 u.n] 33] ∧ mz = Y.length - j ∧ (j ≤ Y.length)) (Y.length - 0) ⟨0, rfl, rfl, rfl, (Nat.zero_le _)⟩ ?_
        rintro mz _ _ ⟨j, rfl, rfl, rfl, hj⟩
        refine To.seq ?_
        refine To.reg ?_
        refine To.rd rfl rfl rfl (Rd.lss rfl rfl rfl) ?_
        refine To.nil ?_
        refine To.thenN ?_
        refine To.seq ?_
        refine To.condP rfl (fun c92 => ?_) (fun c92 => ?_)
        ·
          obtain ⟨v, hv⟩ : ∃ z0, Y[j]? = some z0 := ⟨Y[j]'(by omega), List.getElem?_eq_getElem _⟩
          refine To.skip ?_
          refine To.thenN ?_
          refine To.seq ?_
          refine To.block ?_
          refine To.seq ?_
          refine To.reg ?_
          refine To.rd rfl rfl rfl (Rd.indexRows (i := 6) (j := j) rfl rfl rfl s23 rfl hv) ?_
          refine To.rd rfl rfl rfl (Rd.loadS (i := 6) rfl rfl r33 rfl (rows_gives encM hv) (encM.len _)) ?_
          refine To.alloc rfl rfl rfl rfl z33 (fun b11_3 => ?_)
          refine To.up rfl rfl (Up.storeS (i := 0) rfl rfl rfl r33 rfl rfl rfl (box_takesAll rfl)) ?_
          refine To.nil ?_
          refine To.thenN ?_
          refine To.seq ?_
          refine To.flow [box b11_3 [.int .i64 v.f, .int .i64 v.t, .int .i64 v.n] 33, box b3 [.slice AP P.length qP, .slice AX X.length qX] 25, box b4 [.slice AQ Q.length qQ, .slice AY Y.length qY] 25, box b5 [.slice AR R.length qR, .slice AZ Z.length qZ] 25, rows Ky.cells 37 4 AP qP P, rows Ms.cells 33 3 AX qX X, rows Ky.cells 37 4 AQ qQ Q, rows Ms.cells 33 3 AY qY Y, rows Ky.cells 37 4 AR qR R, rows Ms.cells 33 3 AZ qZ Z, box b9_3 [.int .i64 u.f, .int .i64 u.t, .int .i64 u.n] 33] [⟨0, [], 1⟩, ⟨1, [], 1⟩, ⟨2, [], 3⟩, ⟨3, [], 1⟩, ⟨4, [], 1⟩, ⟨5, [], 3⟩, ⟨6, [], 0⟩] mixed (by kernel_rfl) (oks_cons (oks_at 0 rfl) (oks_cons (oks_at 1 rfl) (oks_cons (oks_at 2 rfl) (oks_cons (oks_at 3 rfl) (oks_cons (oks_at 4 rfl) (oks_cons (oks_at 5 rfl) (oks_cons (oks_at 6 rfl) (oks_cons (oks_at 7 rfl) (oks_cons (oks_at 8 rfl) (oks_cons (oks_at 9 rfl) (oks_cons (oks_at 10 rfl) (oks_nil _)))))))))))) ?_
          refine FlowS.rd rfl rfl rfl rfl (Rd.loadS (i := 10) rfl rfl r33 rfl box_whole rfl) ?_
          refine FlowS.rd rfl rfl rfl rfl (Rd.loadS (i := 0) rfl rfl r33 rfl box_whole rfl) ?_
          refine FlowS.callQ rfl rfl rfl rfl (Ent.fn rfl rfl ca10) (lessM_fn u v) rfl (oks_nil _) ?_
          refine FlowS.rd rfl rfl rfl rfl (Rd.loadS (i := 10) rfl rfl r33 rfl box_whole rfl) ?_
          refine FlowS.rd rfl rfl rfl rfl (Rd.loadS (i := 0) rfl rfl r33 rfl box_whole rfl) ?_
          refine FlowS.callQ rfl rfl rfl rfl (Ent.fn rfl rfl ca11) (rlessM_fn u v) rfl (oks_nil _) ?_
          refine FlowS.free rfl rfl rfl rfl (Rd.as (v' := .bool false) (congrArg Value.bool (by rw [beq_self_eq_true]; rfl)) (Rd.neqB rfl Try.underlying4 rfl rfl)) ?_
          refine FlowS.fin ?_
          refine To.as [box b11_3 [.int .i64 v.f, .int .i64 v.t, .int .i64 v.n] 33, box b3 [.slice AP P.length qP, .slice AX X.length qX] 25, box b4 [.slice AQ Q.length qQ, .slice AY Y.length qY] 25, box b5 [.slice AR R.length qR, .slice AZ Z.length qZ] 25, rows Ky.cells 37 4 AP qP P, rows Ms.cells 33 3 AX qX X, rows Ky.cells 37 4 AQ qQ Q, rows Ms.cells 33 3 AY qY Y, rows Ky.cells 37 4 AR qR R, rows Ms.cells 33 3 AZ qZ Z, box b9_3 [.int .i64 u.f, .int .i64 u.t, .int .i64 u.n] 33] rfl ?_
          refine To.thenN ?_
          refine To.condF rfl ?_
          refine To.skip ?_
          refine To.blockN ?_
          refine To.thenN ?_
          refine To.reg ?_
          refine To.rd rfl rfl rfl (Rd.inc rfl rfl rfl (by omega)) ?_
          refine To.rd rfl rfl rfl (Rd.move rfl rfl) ?_
          refine To.nil ?_
          refine To.thenN ?_
          refine To.sub [(3, .pointer (some ⟨b3, 0, none⟩)), (4, .pointer (some ⟨b4, 0, none⟩)), (9, .pointer (some ⟨b9_3, 0, none⟩)), (82, .slice AX X.length qX), (83, .int .i64 ((X.length : Nat) : Int)), (84, .int .i64 ((i : Nat) : Int)), (89, .slice AY Y.length qY), (90, .int .i64 ((Y.length : Nat) : Int)), (91, .int .i64 (((j + 1) : Nat) : Int))] ⟨rfl, rfl, rfl, rfl, rfl, rfl, rfl, rfl, rfl, trivial⟩ ?_
          refine To.only [1, 1, 1, 1, 1, 1, 1, 1, 1, 1] rfl ?_
          refine To.again (Y.length - (j + 1)) (by omega) ⟨j + 1, rfl, rfl, rfl, (by omega)⟩
        ·
          refine To.exit ?_
          refine To.thenX ?_
          refine To.thenX ?_
          refine To.blockX ?_
          refine To.blockN ?_
          refine To.thenN ?_
          refine To.reg ?_
          refine To.rd rfl rfl rfl (Rd.inc rfl rfl rfl (by omega)) ?_
          refine To.rd rfl rfl rfl (Rd.move rfl rfl) ?_
          refine To.nil ?_
          refine To.thenN ?_
          refine To.sub [(3, .pointer (some ⟨b3, 0, none⟩)), (4, .pointer (some ⟨b4, 0, none⟩)), (82, .slice AX X.length qX), (83, .int .i64 ((X.length : Nat) : Int)), (84, .int .i64 (((i + 1) : Nat) : Int))] ⟨rfl, rfl, rfl, rfl, rfl, trivial⟩ ?_
          refine To.only [0, 0, 0, 0, 0, 0, 0, 0, 0] rfl ?_
          refine To.again (X.length - (i + 1)) (by omega) ⟨i + 1, rfl, rfl, rfl, (by omega)⟩
      ·
        refine To.exit ?_
        refine To.thenX ?_
        refine To.thenX ?_
        refine To.blockX ?_
        refine To.thenN ?_
        refine To.seq ?_
        refine To.seq ?_
        refine To.reg ?_
        refine To.rd rfl rfl rfl (Rd.field rfl rfl fl25_0) ?_
        refine To.rd rfl rfl rfl (Rd.load (i := 0) rfl rfl c22 rfl (box_gives1 rfl)) ?_
        refine To.rd rfl rfl rfl (Rd.len rfl rfl Try.underlying22) ?_
        refine To.rd rfl rfl rfl (Rd.move rfl rfl) ?_
        refine To.nil ?_
        refine To.thenN ?_
        refine To.block ?_
        refine To.sub [(3, .pointer (some ⟨b3, 0, none⟩)), (4, .pointer (some ⟨b4, 0, none⟩)), (105, .slice AP P.length qP), (106, .int .i64 ((P.length : Nat) : Int)), (107, .int .i64 ((0 : Nat) : Int))] ⟨rfl, rfl, rfl, rfl, rfl, trivial⟩ ?_
        refine To.only [0, 0, 0, 0, 0, 0, 0, 0, 0] rfl ?_
        refine To.loop (fun mz ρ Γ => ∃ (k : Nat), ρ = [(3, .pointer (some ⟨b3, 0, none⟩)), (4, .pointer (some ⟨b4, 0, none⟩)), (105, .slice AP P.length qP), (106, .int .i64 ((P.length : Nat) : Int)), (107, .int .i64 ((k : Nat) : Int))] ∧ Γ = [box b3 [.slice AP P.length qP, .slice AX X.length qX] 25, box b4 [.slice AQ Q.length qQ, .slice AY Y.length qY] 25, box b5 [.slice AR R.length qR, .slice AZ Z.length qZ] 25, rows Ky.cells 37 4 AP qP P, rows Ms.cells 33 3 AX qX X, rows Ky.cells 37 4 AQ qQ Q, rows Ms.cells 33 3 AY qY Y, rows Ky.cells 37 4 AR qR R, rows Ms.cells 33 3 AZ qZ Z] ∧ mz = P.length - k ∧ (k ≤ P.length)) (P.length - 0) ⟨0, rfl, rfl, rfl, (Nat.zero_le _)⟩ ?_
        rintro mz _ _ ⟨k, rfl, rfl, rfl, hk⟩
        refine To.seq ?_
        refine To.reg ?_
        refine To.rd rfl rfl rfl (Rd.lss rfl rfl rfl) ?_
        refine To.nil ?_
        refine To.thenN ?_
        refine To.seq ?_
        refine To.condP rfl (fun c108 => ?_) (fun c108 => ?_)
        ·
          obtain ⟨u, hu⟩ : ∃ z0, P[k]? = some z0 := ⟨P[k]'(by omega), List.getElem?_eq_getElem _⟩
          refine To.skip ?_
          refine To.thenN ?_
          refine To.seq ?_
          refine To.block ?_
          refine To.seq ?_
          refine To.reg ?_
          refine To.rd rfl rfl rfl (Rd.indexRows (i := 3) (j := k) rfl rfl rfl s22 rfl hu) ?_
          refine To.rd rfl rfl rfl (Rd.loadS (i := 3) rfl rfl r37 rfl (rows_gives encK hu) (encK.len _)) ?_
          refine To.alloc rfl rfl rfl rfl z37 (fun b13_3 => ?_)
          refine To.up rfl rfl (Up.storeS (i := 0) rfl rfl rfl r37 rfl rfl rfl (box_takesAll rfl)) ?_
          refine To.nil ?_
          refine To.thenN ?_
          refine To.seq ?_
          refine To.reg ?_
          refine To.rd rfl rfl rfl (Rd.field rfl rfl fl25_0) ?_
          refine To.rd rfl rfl rfl (Rd.load (i := 2) rfl rfl c22 rfl (box_gives1 rfl)) ?_
          refine To.rd rfl rfl rfl (Rd.len rfl rfl Try.underlying22) ?_
          refine To.rd rfl rfl rfl (Rd.move rfl rfl) ?_
          refine To.nil ?_
          refine To.thenN ?_
          refine To.block ?_
          refine To.sub [(3, .pointer (some ⟨b3, 0, none⟩)), (4, .pointer (some ⟨b4, 0, none⟩)), (13, .pointer (some ⟨b13_3, 0, none⟩)), (105, .slice AP P.length qP), (106, .int .i64 ((P.length : Nat) : Int)), (107, .int .i64 ((k : Nat) : Int)), (112, .slice AQ Q.length qQ), (113, .int .i64 ((Q.length : Nat) : Int)), (114, .int .i64 ((0 : Nat) : Int))] ⟨rfl, rfl, rfl, rfl, rfl, rfl, rfl, rfl, rfl, trivial⟩ ?_
          refine To.only [1, 1, 1, 1, 1, 1, 1, 1, 1, 0] rfl ?_
          refine To.loop (fun mz ρ Γ => ∃ (m : Nat), ρ = [(3, .pointer (some ⟨b3, 0, none⟩)), (4, .pointer (some ⟨b4, 0, none⟩)), (13, .pointer (some ⟨b13_3, 0, none⟩)), (105, .slice AP P.length qP), (106, .int .i64 ((P.length : Nat) : Int)), (107, .int .i64 ((k : Nat) : Int)), (112, .slice AQ Q.length qQ), (113, .int .i64 ((Q.length : Nat) : Int)), (114, .int .i64 ((m : Nat) : Int))] ∧ Γ = [box b3 [.slice AP P.length qP, .slice AX X.length qX] 25, box b4 [.slice AQ Q.length qQ, .slice AY Y.length qY] 25, box b5 [.slice AR R.length qR, .slice AZ Z.length qZ] 25, rows Ky.cells 37 4 AP qP P, rows Ms.cells 33 3 AX qX X, rows Ky.cells 37 4 AQ qQ Q, rows Ms.cells 33 3 AY qY Y, rows Ky.cells 37 4 AR qR R, rows Ms.cells 33 3 AZ qZ Z, box b13_3 [.int .u8 u.k, .int .i64 u.a, .int .i64 u.b, .int .i64 u.n] 37] ∧ mz = Q.length - m ∧ (m ≤ Q.length)) (Q.length - 0) ⟨0, rfl, rfl, rfl, (Nat.zero_le _)⟩ ?_
          rintro mz _ _ ⟨m, rfl, rfl, rfl, hm⟩
          refine To.seq ?_
          refine To.reg ?_
          refine To.rd rfl rfl rfl (Rd.lss rfl rfl rfl) ?_
          refine To.nil ?_
          refine To.thenN ?_
          refine To.seq ?_
          refine To.condP rfl (fun c115 => ?_) (fun c115 => ?_)
          ·
            obtain ⟨v, hv⟩ : ∃ z0, Q[m]? = some z0 := ⟨Q[m]'(by omega), List.getElem?_eq_getElem _⟩
            refine To.skip ?_
            refine To.thenN ?_
            refine To.seq ?_
            refine To.block ?_
            refine To.seq ?_
            refine To.reg ?_
            refine To.rd rfl rfl rfl (Rd.indexRows (i := 5) (j := m) rfl rfl rfl s22 rfl hv) ?_
            refine To.rd rfl rfl rfl (Rd.loadS (i := 5) rfl rfl r37 rfl (rows_gives encK hv) (encK.len _)) ?_
            refine To.alloc rfl rfl rfl rfl z37 (fun b15_3 => ?_)
            refine To.up rfl rfl (Up.storeS (i := 0) rfl rfl rfl r37 rfl rfl rfl (box_takesAll rfl)) ?_
            refine To.nil ?_
            refine To.thenN ?_
            refine To.seq ?_
            refine To.flow2 [box b15_3 [.int .u8 v.k, .int .i64 v.a, .int .i64 v.b, .int .i64 v.n] 37, box b3 [.slice AP P.length qP, .slice AX X.length qX] 25, box b4 [.slice AQ Q.length qQ, .slice AY Y.length qY] 25, box b5 [.slice AR R.length qR, .slice AZ Z.length qZ] 25, box b13_3 [.int .u8 u.k, .int .i64 u.a, .int .i64 u.b, .int .i64 u.n] 37] 8 4 [⟨0, [], 0⟩, ⟨3, [], 0⟩, ⟨1, [], 2⟩, ⟨2, [1], 0⟩, ⟨4, [], 2⟩, ⟨5, [4], 0⟩, ⟨6, [], 2⟩, ⟨7, [], 2⟩, ⟨8, [1, 4, 6, 7], 5⟩, ⟨9, [], 5⟩] [⟨0, [], 0⟩, ⟨3, [], 0⟩, ⟨1, [], 2⟩, ⟨2, [1], 0⟩, ⟨6, [], 2⟩, ⟨7, [], 2⟩, ⟨8, [1, 6, 7], 5⟩, ⟨4, [], 2⟩, ⟨5, [4], 0⟩, ⟨9, [4], 5⟩] mixed rfl (by kernel_rfl) (by kernel_rfl) (by kernel_rfl) (oks_cons (oks_at 0 rfl) (oks_cons (oks_at 1 rfl) (oks_cons (oks_at 2 rfl) (oks_cons (oks_at 3 rfl) (oks_cons (oks_at 10 rfl) (oks_nil _)))))) ?_ ?_
            ·
              refine FlowS.free rfl rfl rfl rfl (Rd.loadS (i := 4) rfl rfl r37 rfl box_whole rfl) ?_
              refine FlowS.free rfl rfl rfl rfl (Rd.loadS (i := 0) rfl rfl r37 rfl box_whole rfl) ?_
              refine FlowS.mk rfl rfl rfl rfl rfl (Mk.sliceN (us := [.int .u8 u.k, .int .i64 u.a, .int .i64 u.b, .int .i64 u.n]) rfl s22 rfl rfl rfl rfl rfl rfl) ?_
              rintro _ _ ⟨b119_5, rfl, rfl⟩
              refine FlowS.free rfl rfl rfl rfl (Rd.build (vs := [(0, .slice (some ⟨b119_5, 0, none⟩) 1 1)]) (cells := [.slice (some ⟨b119_5, 0, none⟩) 1 1, .slice none 0 0]) rfl rfl rfl (by kernel_rfl)) ?_
              refine FlowS.mk rfl rfl rfl rfl rfl (Mk.sliceN (us := [.int .u8 v.k, .int .i64 v.a, .int .i64 v.b, .int .i64 v.n]) rfl s22 rfl rfl rfl rfl rfl rfl) ?_
              rintro _ _ ⟨b122_5, rfl, rfl⟩
              refine FlowS.free rfl rfl rfl rfl (Rd.build (vs := [(0, .slice (some ⟨b122_5, 0, none⟩) 1 1)]) (cells := [.slice (some ⟨b122_5, 0, none⟩) 1 1, .slice none 0 0]) rfl rfl rfl (by kernel_rfl)) ?_
              refine FlowS.mk rfl rfl rfl rfl rfl (Mk.alloc rfl z29) ?_
              rintro _ _ ⟨b16_5, rfl, rfl⟩
              refine FlowS.mk rfl rfl rfl rfl rfl (Mk.alloc rfl z29) ?_
              rintro _ _ ⟨b17_5, rfl, rfl⟩
              refine FlowS.up (Γ' := [box b17_5 [.slice none 0 0, .slice none 0 0] 29, box b16_5 [.slice (some ⟨b119_5, 0, none⟩) 1 1, .slice none 0 0] 29, row 37 4 (some ⟨b122_5, 0, none⟩) 1 1 [.int .u8 v.k, .int .i64 v.a, .int .i64 v.b, .int .i64 v.n], row 37 4 (some ⟨b119_5, 0, none⟩) 1 1 [.int .u8 u.k, .int .i64 u.a, .int .i64 u.b, .int .i64 u.n], box b15_3 [.int .u8 v.k, .int .i64 v.a, .int .i64 v.b, .int .i64 v.n] 37, box b3 [.slice AP P.length qP, .slice AX X.length qX] 25, box b4 [.slice AQ Q.length qQ, .slice AY Y.length qY] 25, box b5 [.slice AR R.length qR, .slice AZ Z.length qZ] 25, rows Ky.cells 37 4 AP qP P, rows Ms.cells 33 3 AX qX X, rows Ky.cells 37 4 AQ qQ Q, rows Ms.cells 33 3 AY qY Y, rows Ky.cells 37 4 AR qR R, rows Ms.cells 33 3 AZ qZ Z, box b13_3 [.int .u8 u.k, .int .i64 u.a, .int .i64 u.b, .int .i64 u.n] 37]) rfl rfl rfl (Up.storeS (i := 1) rfl rfl rfl r29 rfl rfl rfl (box_takesAll rfl)) (oks_cons (oks_at 4 rfl) (oks_cons (oks_at 5 rfl) (oks_cons (oks_at 6 rfl) (oks_cons (oks_at 7 rfl) (oks_cons (oks_at 14 rfl) (oks_nil _)))))) ?_
              refine FlowS.up (Γ' := [box b17_5 [.slice (some ⟨b122_5, 0, none⟩) 1 1, .slice none 0 0] 29, box b16_5 [.slice (some ⟨b119_5, 0, none⟩) 1 1, .slice none 0 0] 29, row 37 4 (some ⟨b122_5, 0, none⟩) 1 1 [.int .u8 v.k, .int .i64 v.a, .int .i64 v.b, .int .i64 v.n], row 37 4 (some ⟨b119_5, 0, none⟩) 1 1 [.int .u8 u.k, .int .i64 u.a, .int .i64 u.b, .int .i64 u.n], box b15_3 [.int .u8 v.k, .int .i64 v.a, .int .i64 v.b, .int .i64 v.n] 37, box b3 [.slice AP P.length qP, .slice AX X.length qX] 25, box b4 [.slice AQ Q.length qQ, .slice AY Y.length qY] 25, box b5 [.slice AR R.length qR, .slice AZ Z.length qZ] 25, rows Ky.cells 37 4 AP qP P, rows Ms.cells 33 3 AX qX X, rows Ky.cells 37 4 AQ qQ Q, rows Ms.cells 33 3 AY qY Y, rows Ky.cells 37 4 AR qR R, rows Ms.cells 33 3 AZ qZ Z, box b13_3 [.int .u8 u.k, .int .i64 u.a, .int .i64 u.b, .int .i64 u.n] 37]) rfl rfl rfl (Up.storeS (i := 0) rfl rfl rfl r29 rfl rfl rfl (box_takesAll rfl)) (oks_cons (oks_at 4 rfl) (oks_cons (oks_at 5 rfl) (oks_cons (oks_at 6 rfl) (oks_cons (oks_at 7 rfl) (oks_cons (oks_at 14 rfl) (oks_nil _)))))) ?_
              refine FlowS.fin ?_
              refine To.as [box b17_5 [.slice (some ⟨b122_5, 0, none⟩) 1 1, .slice none 0 0] 29, box b16_5 [.slice (some ⟨b119_5, 0, none⟩) 1 1, .slice none 0 0] 29, row 37 4 (some ⟨b122_5, 0, none⟩) 1 1 [.int .u8 v.k, .int .i64 v.a, .int .i64 v.b, .int .i64 v.n], row 37 4 (some ⟨b119_5, 0, none⟩) 1 1 [.int .u8 u.k, .int .i64 u.a, .int .i64 u.b, .int .i64 u.n], box b15_3 [.int .u8 v.k, .int .i64 v.a, .int .i64 v.b, .int .i64 v.n] 37, box b3 [.slice AP P.length qP, .slice AX X.length qX] 25, box b4 [.slice AQ Q.length qQ, .slice AY Y.length qY] 25, box b5 [.slice AR R.length qR, .slice AZ Z.length qZ] 25, rows Ky.cells 37 4 AP qP P, rows Ms.cells 33 3 AX qX X, rows Ky.cells 37 4 AQ qQ Q, rows Ms.cells 33 3 AY qY Y, rows Ky.cells 37 4 AR qR R, rows Ms.cells 33 3 AZ qZ Z, box b13_3 [.int .u8 u.k, .int .i64 u.a, .int .i64 u.b, .int .i64 u.n] 37] rfl ?_
              refine To.thenN ?_
              refine To.seq ?_
              refine To.flow [box b17_5 [.slice (some ⟨b122_5, 0, none⟩) 1 1, .slice none 0 0] 29, box b16_5 [.slice (some ⟨b119_5, 0, none⟩) 1 1, .slice none 0 0] 29, row 37 4 (some ⟨b122_5, 0, none⟩) 1 1 [.int .u8 v.k, .int .i64 v.a, .int .i64 v.b, .int .i64 v.n], row 37 4 (some ⟨b119_5, 0, none⟩) 1 1 [.int .u8 u.k, .int .i64 u.a, .int .i64 u.b, .int .i64 u.n], box b15_3 [.int .u8 v.k, .int .i64 v.a, .int .i64 v.b, .int .i64 v.n] 37, box b3 [.slice AP P.length qP, .slice AX X.length qX] 25, box b4 [.slice AQ Q.length qQ, .slice AY Y.length qY] 25, box b5 [.slice AR R.length qR, .slice AZ Z.length qZ] 25, rows Ky.cells 37 4 AP qP P, rows Ms.cells 33 3 AX qX X, rows Ky.cells 37 4 AQ qQ Q, rows Ms.cells 33 3 AY qY Y, rows Ky.cells 37 4 AR qR R, rows Ms.cells 33 3 AZ qZ Z, box b13_3 [.int .u8 u.k, .int .i64 u.a, .int .i64 u.b, .int .i64 u.n] 37] [⟨0, [], 1⟩, ⟨1, [], 1⟩, ⟨2, [], 3⟩, ⟨3, [], 1⟩, ⟨4, [], 1⟩, ⟨5, [], 3⟩, ⟨6, [], 0⟩] mixed (by kernel_rfl) (oks_cons (oks_at 0 rfl) (oks_cons (oks_at 1 rfl) (oks_cons (oks_at 2 rfl) (oks_cons (oks_at 3 rfl) (oks_cons (oks_at 4 rfl) (oks_cons (oks_at 5 rfl) (oks_cons (oks_at 6 rfl) (oks_cons (oks_at 7 rfl) (oks_cons (oks_at 8 rfl) (oks_cons (oks_at 9 rfl) (oks_cons (oks_at 10 rfl) (oks_cons (oks_at 11 rfl) (oks_cons (oks_at 12 rfl) (oks_cons (oks_at 13 rfl) (oks_cons (oks_at 14 rfl) (oks_nil _)))))))))))))))) ?_
              refine FlowS.rd rfl rfl rfl rfl (Rd.loadS (i := 1) rfl rfl r29 rfl box_whole rfl) ?_
              refine FlowS.rd rfl rfl rfl rfl (Rd.loadS (i := 0) rfl rfl r29 rfl box_whole rfl) ?_
              refine FlowS.callQ rfl rfl rfl rfl (Ent.fn rfl rfl ca7) (lessK1_fn (some ⟨b119_5, 0, none⟩) (some ⟨b122_5, 0, none⟩) u v) rfl (oks_cons (oks_row 3 rfl) (oks_cons (fun w _ => .inl rfl) (oks_cons (oks_row 2 rfl) (oks_cons (fun w _ => .inl rfl) (oks_nil _))))) ?_
              refine FlowS.rd rfl rfl rfl rfl (Rd.loadS (i := 14) rfl rfl r37 rfl box_whole rfl) ?_
              refine FlowS.rd rfl rfl rfl rfl (Rd.loadS (i := 4) rfl rfl r37 rfl box_whole rfl) ?_
              refine FlowS.callQ rfl rfl rfl rfl (Ent.fn rfl rfl ca12) (lessK_fn u v) rfl (oks_nil _) ?_
              refine FlowS.free rfl rfl rfl rfl (Rd.as (v' := .bool false) (congrArg Value.bool (by rw [beq_self_eq_true]; rfl)) (Rd.neqB rfl Try.underlying4 rfl rfl)) ?_
              refine FlowS.fin ?_
              refine To.as [box b17_5 [.slice (some ⟨b122_5, 0, none⟩) 1 1, .slice none 0 0] 29, box b16_5 [.slice (some ⟨b119_5, 0, none⟩) 1 1, .slice none 0 0] 29, row 37 4 (some ⟨b122_5, 0, none⟩) 1 1 [.int .u8 v.k, .int .i64 v.a, .int .i64 v.b, .int .i64 v.n], row 37 4 (some ⟨b119_5, 0, none⟩) 1 1 [.int .u8 u.k, .int .i64 u.a, .int .i64 u.b, .int .i64 u.n], box b15_3 [.int .u8 v.k, .int .i64 v.a, .int .i64 v.b, .int .i64 v.n] 37, box b3 [.slice AP P.length qP, .slice AX X.length qX] 25, box b4 [.slice AQ Q.length qQ, .slice AY Y.length qY] 25, box b5 [.slice AR R.length qR, .slice AZ Z.length qZ] 25, rows Ky.cells 37 4 AP qP P, rows Ms.cells 33 3 AX qX X, rows Ky.cells 37 4 AQ qQ Q, rows Ms.cells 33 3 AY qY Y, rows Ky.cells 37 4 AR qR R, rows Ms.cells 33 3 AZ qZ Z, box b13_3 [.int .u8 u.k, .int .i64 u.a, .int .i64 u.b, .int .i64 u.n] 37] rfl ?_
              refine To.sub [(3, .pointer (some ⟨b3, 0, none⟩)), (4, .pointer (some ⟨b4, 0, none⟩)), (13, .pointer (some ⟨b13_3, 0, none⟩)), (105, .slice AP P.length qP), (106, .int .i64 ((P.length : Nat) : Int)), (107, .int .i64 ((k : Nat) : Int)), (112, .slice AQ Q.length qQ), (113, .int .i64 ((Q.length : Nat) : Int)), (114, .int .i64 ((m : Nat) : Int)), (115, .bool (decide (((m : Nat) : Int) < ((Q.length : Nat) : Int)))), (15, .pointer (some ⟨b15_3, 0, none⟩)), (16, .pointer (some ⟨b16_5, 0, none⟩)), (17, .pointer (some ⟨b17_5, 0, none⟩)), (130, .bool false)] ⟨rfl, rfl, rfl, rfl, rfl, rfl, rfl, rfl, rfl, rfl, rfl, rfl, rfl, rfl, trivial⟩ ?_
              refine To.thenN ?_
              refine To.condF rfl ?_
              refine To.skip ?_
              refine To.blockN ?_
              refine To.thenN ?_
              refine To.reg ?_
              refine To.rd rfl rfl rfl (Rd.inc rfl rfl rfl (by omega)) ?_
              refine To.rd rfl rfl rfl (Rd.move rfl rfl) ?_
              refine To.nil ?_
              refine To.thenN ?_
              refine To.sub [(3, .pointer (some ⟨b3, 0, none⟩)), (4, .pointer (some ⟨b4, 0, none⟩)), (13, .pointer (some ⟨b13_3, 0, none⟩)), (105, .slice AP P.length qP), (106, .int .i64 ((P.length : Nat) : Int)), (107, .int .i64 ((k : Nat) : Int)), (112, .slice AQ Q.length qQ), (113, .int .i64 ((Q.length : Nat) : Int)), (114, .int .i64 (((m + 1) : Nat) : Int))] ⟨rfl, rfl, rfl, rfl, rfl, rfl, rfl, rfl, rfl, trivial⟩ ?_
              refine To.only [5, 5, 5, 5, 5, 5, 5, 5, 5, 5] rfl ?_
              refine To.again (Q.length - (m + 1)) (by omega) ⟨m + 1, rfl, rfl, rfl, (by omega)⟩
            ·
              refine FlowS.free rfl rfl rfl rfl (Rd.loadS (i := 4) rfl rfl r37 rfl box_whole rfl) ?_
              refine FlowS.free rfl rfl rfl rfl (Rd.loadS (i := 0) rfl rfl r37 rfl box_whole rfl) ?_
              refine FlowS.mk rfl rfl rfl rfl rfl (Mk.sliceN (us := [.int .u8 u.k, .int .i64 u.a, .int .i64 u.b, .int .i64 u.n]) rfl s22 rfl rfl rfl rfl rfl rfl) ?_
              rintro _ _ ⟨b119_6, rfl, rfl⟩
              refine FlowS.free rfl rfl rfl rfl (Rd.build (vs := [(0, .slice (some ⟨b119_6, 0, none⟩) 1 1)]) (cells := [.slice (some ⟨b119_6, 0, none⟩) 1 1, .slice none 0 0]) rfl rfl rfl (by kernel_rfl)) ?_
              refine FlowS.mk rfl rfl rfl rfl rfl (Mk.alloc rfl z29) ?_
              rintro _ _ ⟨b16_6, rfl, rfl⟩
              refine FlowS.mk rfl rfl rfl rfl rfl (Mk.alloc rfl z29) ?_
              rintro _ _ ⟨b17_6, rfl, rfl⟩
              refine FlowS.up (Γ' := [box b17_6 [.slice none 0 0, .slice none 0 0] 29, box b16_6 [.slice (some ⟨b119_6, 0, none⟩) 1 1, .slice none 0 0] 29, row 37 4 (some ⟨b119_6, 0, none⟩) 1 1 [.int .u8 u.k, .int .i64 u.a, .int .i64 u.b, .int .i64 u.n], box b15_3 [.int .u8 v.k, .int .i64 v.a, .int .i64 v.b, .int .i64 v.n] 37, box b3 [.slice AP P.length qP, .slice AX X.length qX] 25, box b4 [.slice AQ Q.length qQ, .slice AY Y.length qY] 25, box b5 [.slice AR R.length qR, .slice AZ Z.length qZ] 25, rows Ky.cells 37 4 AP qP P, rows Ms.cells 33 3 AX qX X, rows Ky.cells 37 4 AQ qQ Q, rows Ms.cells 33 3 AY qY Y, rows Ky.cells 37 4 AR qR R, rows Ms.cells 33 3 AZ qZ Z, box b13_3 [.int .u8 u.k, .int .i64 u.a, .int .i64 u.b, .int .i64 u.n] 37]) rfl rfl rfl (Up.storeS (i := 1) rfl rfl rfl r29 rfl rfl rfl (box_takesAll rfl)) (oks_cons (oks_at 3 rfl) (oks_cons (oks_at 4 rfl) (oks_cons (oks_at 5 rfl) (oks_cons (oks_at 6 rfl) (oks_cons (oks_at 13 rfl) (oks_nil _)))))) ?_
              refine FlowS.mk rfl rfl rfl rfl rfl (Mk.sliceN (us := [.int .u8 v.k, .int .i64 v.a, .int .i64 v.b, .int .i64 v.n]) rfl s22 rfl rfl rfl rfl rfl rfl) ?_
              rintro _ _ ⟨b122_6, rfl, rfl⟩
              refine FlowS.free rfl rfl rfl rfl (Rd.build (vs := [(0, .slice (some ⟨b122_6, 0, none⟩) 1 1)]) (cells := [.slice (some ⟨b122_6, 0, none⟩) 1 1, .slice none 0 0]) rfl rfl rfl (by kernel_rfl)) ?_
              refine FlowS.up (Γ' := [row 37 4 (some ⟨b122_6, 0, none⟩) 1 1 [.int .u8 v.k, .int .i64 v.a, .int .i64 v.b, .int .i64 v.n], box b17_6 [.slice (some ⟨b122_6, 0, none⟩) 1 1, .slice none 0 0] 29, box b16_6 [.slice (some ⟨b119_6, 0, none⟩) 1 1, .slice none 0 0] 29, row 37 4 (some ⟨b119_6, 0, none⟩) 1 1 [.int .u8 u.k, .int .i64 u.a, .int .i64 u.b, .int .i64 u.n], box b15_3 [.int .u8 v.k, .int .i64 v.a, .int .i64 v.b, .int .i64 v.n] 37, box b3 [.slice AP P.length qP, .slice AX X.length qX] 25, box b4 [.slice AQ Q.length qQ, .slice AY Y.length qY] 25, box b5 [.slice AR R.length qR, .slice AZ Z.length qZ] 25, rows Ky.cells 37 4 AP qP P, rows Ms.cells 33 3 AX qX X, rows Ky.cells 37 4 AQ qQ Q, rows Ms.cells 33 3 AY qY Y, rows Ky.cells 37 4 AR qR R, rows Ms.cells 33 3 AZ qZ Z, box b13_3 [.int .u8 u.k, .int .i64 u.a, .int .i64 u.b, .int .i64 u.n] 37]) rfl rfl rfl (Up.storeS (i := 1) rfl rfl rfl r29 rfl rfl rfl (box_takesAll rfl)) (oks_cons (oks_at 4 rfl) (oks_cons (oks_at 5 rfl) (oks_cons (oks_at 6 rfl) (oks_cons (oks_at 7 rfl) (oks_cons (oks_at 14 rfl) (oks_nil _)))))) ?_
              refine FlowS.fin ?_
              refine To.as [row 37 4 (some ⟨b122_6, 0, none⟩) 1 1 [.int .u8 v.k, .int .i64 v.a, .int .i64 v.b, .int .i64 v.n], box b17_6 [.slice (some ⟨b122_6, 0, none⟩) 1 1, .slice none 0 0] 29, box b16_6 [.slice (some ⟨b119_6, 0, none⟩) 1 1, .slice none 0 0] 29, row 37 4 (some ⟨b119_6, 0, none⟩) 1 1 [.int .u8 u.k, .int .i64 u.a, .int .i64 u.b, .int .i64 u.n], box b15_3 [.int .u8 v.k, .int .i64 v.a, .int .i64 v.b, .int .i64 v.n] 37, box b3 [.slice AP P.length qP, .slice AX X.length qX] 25, box b4 [.slice AQ Q.length qQ, .slice AY Y.length qY] 25, box b5 [.slice AR R.length qR, .slice AZ Z.length qZ] 25, rows Ky.cells 37 4 AP qP P, rows Ms.cells 33 3 AX qX X, rows Ky.cells 37 4 AQ qQ Q, rows Ms.cells 33 3 AY qY Y, rows Ky.cells 37 4 AR qR R, rows Ms.cells 33 3 AZ qZ Z, box b13_3 [.int .u8 u.k, .int .i64 u.a, .int .i64 u.b, .int .i64 u.n] 37] rfl ?_
              refine To.thenN ?_
              refine To.seq ?_
              refine To.flow [row 37 4 (some ⟨b122_6, 0, none⟩) 1 1 [.int .u8 v.k, .int .i64 v.a, .int .i64 v.b, .int .i64 v.n], box b17_6 [.slice (some ⟨b122_6, 0, none⟩) 1 1, .slice none 0 0] 29, box b16_6 [.slice (some ⟨b119_6, 0, none⟩) 1 1, .slice none 0 0] 29, row 37 4 (some ⟨b119_6, 0, none⟩) 1 1 [.int .u8 u.k, .int .i64 u.a, .int .i64 u.b, .int .i64 u.n], box b15_3 [.int .u8 v.k, .int .i64 v.a, .int .i64 v.b, .int .i64 v.n] 37, box b3 [.slice AP P.length qP, .slice AX X.length qX] 25, box b4 [.slice AQ Q.length qQ, .slice AY Y.length qY] 25, box b5 [.slice AR R.length qR, .slice AZ Z.length qZ] 25, rows Ky.cells 37 4 AP qP P, rows Ms.cells 33 3 AX qX X, rows Ky.cells 37 4 AQ qQ Q, rows Ms.cells 33 3 AY qY Y, rows Ky.cells 37 4 AR qR R, rows Ms.cells 33 3 AZ qZ Z, box b13_3 [.int .u8 u.k, .int .i64 u.a, .int .i64 u.b, .int .i64 u.n] 37] [⟨0, [], 1⟩, ⟨1, [], 1⟩, ⟨2, [], 3⟩, ⟨3, [], 1⟩, ⟨4, [], 1⟩, ⟨5, [], 3⟩, ⟨6, [], 0⟩] mixed (by kernel_rfl) (oks_cons (oks_at 0 rfl) (oks_cons (oks_at 1 rfl) (oks_cons (oks_at 2 rfl) (oks_cons (oks_at 3 rfl) (oks_cons (oks_at 4 rfl) (oks_cons (oks_at 5 rfl) (oks_cons (oks_at 6 rfl) (oks_cons (oks_at 7 rfl) (oks_cons (oks_at 8 rfl) (oks_cons (oks_at 9 rfl) (oks_cons (oks_at 10 rfl) (oks_cons (oks_at 11 rfl) (oks_cons (oks_at 12 rfl) (oks_cons (oks_at 13 rfl) (oks_cons (oks_at 14 rfl) (oks_nil _)))))))))))))))) ?_
              refine FlowS.rd rfl rfl rfl rfl (Rd.loadS (i := 2) rfl rfl r29 rfl box_whole rfl) ?_
              refine FlowS.rd rfl rfl rfl rfl (Rd.loadS (i := 1) rfl rfl r29 rfl box_whole rfl) ?_
              refine FlowS.callQ rfl rfl rfl rfl (Ent.fn rfl rfl ca7) (lessK1_fn (some ⟨b119_6, 0, none⟩) (some ⟨b122_6, 0, none⟩) u v) rfl (oks_cons (oks_row 3 rfl) (oks_cons (fun w _ => .inl rfl) (oks_cons (oks_row 0 rfl) (oks_cons (fun w _ => .inl rfl) (oks_nil _))))) ?_
              refine FlowS.rd rfl rfl rfl rfl (Rd.loadS (i := 14) rfl rfl r37 rfl box_whole rfl) ?_
              refine FlowS.rd rfl rfl rfl rfl (Rd.loadS (i := 4) rfl rfl r37 rfl box_whole rfl) ?_
              refine FlowS.callQ rfl rfl rfl rfl (Ent.fn rfl rfl ca12) (lessK_fn u v) rfl (oks_nil _) ?_
              refine FlowS.free rfl rfl rfl rfl (Rd.as (v' := .bool false) (congrArg Value.bool (by rw [beq_self_eq_true]; rfl)) (Rd.neqB rfl Try.underlying4 rfl rfl)) ?_
              refine FlowS.fin ?_
              refine To.as [row 37 4 (some ⟨b122_6, 0, none⟩) 1 1 [.int .u8 v.k, .int .i64 v.a, .int .i64 v.b, .int .i64 v.n], box b17_6 [.slice (some ⟨b122_6, 0, none⟩) 1 1, .slice none 0 0] 29, box b16_6 [.slice (some ⟨b119_6, 0, none⟩) 1 1, .slice none 0 0] 29, row 37 4 (some ⟨b119_6, 0, none⟩) 1 1 [.int .u8 u.k, .int .i64 u.a, .int .i64 u.b, .int .i64 u.n], box b15_3 [.int .u8 v.k, .int .i64 v.a, .int .i64 v.b, .int .i64 v.n] 37, box b3 [.slice AP P.length qP, .slice AX X.length qX] 25, box b4 [.slice AQ Q.length qQ, .slice AY Y.length qY] 25, box b5 [.slice AR R.length qR, .slice AZ Z.length qZ] 25, rows Ky.cells 37 4 AP qP P, rows Ms.cells 33 3 AX qX X, rows Ky.cells 37 4 AQ qQ Q, rows Ms.cells 33 3 AY qY Y, rows Ky.cells 37 4 AR qR R, rows Ms.cells 33 3 AZ qZ Z, box b13_3 [.int .u8 u.k, .int .i64 u.a, .int .i64 u.b, .int .i64 u.n] 37] rfl ?_
              refine To.sub [(3, .pointer (some ⟨b3, 0, none⟩)), (4, .pointer (some ⟨b4, 0, none⟩)), (13, .pointer (some ⟨b13_3, 0, none⟩)), (105, .slice AP P.length qP), (106, .int .i64 ((P.length : Nat) : Int)), (107, .int .i64 ((k : Nat) : Int)), (112, .slice AQ Q.length qQ), (113, .int .i64 ((Q.length : Nat) : Int)), (114, .int .i64 ((m : Nat) : Int)), (115, .bool (decide (((m : Nat) : Int) < ((Q.length : Nat) : Int)))), (15, .pointer (some ⟨b15_3, 0, none⟩)), (16, .pointer (some ⟨b16_6, 0, none⟩)), (17, .pointer (some ⟨b17_6, 0, none⟩)), (130, .bool false)] ⟨rfl, rfl, rfl, rfl, rfl, rfl, rfl, rfl, rfl, rfl, rfl, rfl, rfl, rfl, trivial⟩ ?_
              refine To.thenN ?_
              refine To.condF rfl ?_
              refine To.skip ?_
              refine To.blockN ?_
              refine To.thenN ?_
              refine To.reg ?_
              refine To.rd rfl rfl rfl (Rd.inc rfl rfl rfl (by omega)) ?_
              refine To.rd rfl rfl rfl (Rd.move rfl rfl) ?_
              refine To.nil ?_
              refine To.thenN ?_
              refine To.sub [(3, .pointer (some ⟨b3, 0, none⟩)), (4, .pointer (some ⟨b4, 0, none⟩)), (13, .pointer (some ⟨b13_3, 0, none⟩)), (105, .slice AP P.length qP), (106, .int .i64 ((P.length : Nat) : Int)), (107, .int .i64 ((k : Nat) : Int)), (112, .slice AQ Q.length qQ), (113, .int .i64 ((Q.length : Nat) : Int)), (114, .int .i64 (((m + 1) : Nat) : Int))] ⟨rfl, rfl, rfl, rfl, rfl, rfl, rfl, rfl, rfl, trivial⟩ ?_
              refine To.only [5, 5, 5, 5, 5, 5, 5, 5, 5, 5] rfl ?_
              refine To.again (Q.length - (m + 1)) (by omega) ⟨m + 1, rfl, rfl, rfl, (by omega)⟩
          ·
            refine To.exit ?_
            refine To.thenX ?_
            refine To.thenX ?_
            refine To.blockX ?_
            refine To.blockN ?_
            refine To.thenN ?_
            refine To.reg ?_
            refine To.rd rfl rfl rfl (Rd.inc rfl rfl rfl (by omega)) ?_
            refine To.rd rfl rfl rfl (Rd.move rfl rfl) ?_
            refine To.nil ?_
            refine To.thenN ?_
            refine To.sub [(3, .pointer (some ⟨b3, 0, none⟩)), (4, .pointer (some ⟨b4, 0, none⟩)), (105, .slice AP P.length qP), (106, .int .i64 ((P.length : Nat) : Int)), (107, .int .i64 (((k + 1) : Nat) : Int))] ⟨rfl, rfl, rfl, rfl, rfl, trivial⟩ ?_
            refine To.only [0, 0, 0, 0, 0, 0, 0, 0, 0] rfl ?_
            refine To.again (P.length - (k + 1)) (by omega) ⟨k + 1, rfl, rfl, rfl, (by omega)⟩
        ·
          refine To.exit ?_
          refine To.thenX ?_
          refine To.thenX ?_
          refine To.blockX ?_
          refine To.thenN ?_
          refine To.seq ?_
          refine To.reg ?_
          refine To.rd rfl rfl rfl (Rd.assign rfl rfl) ?_
          refine To.nil ?_
          refine To.thenN ?_
          refine To.ret ?_
          refine To.end1 (.inl rfl) Try.results3 rfl ?_
          rfl
end Go.Proofs.Ytnghonabedcacaa
