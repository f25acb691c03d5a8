/- Merged out of R5p, R5 by merge.py. Own text. -/
import Derived.Test.YtllalpnmagpkfaaGreatDoorRb
set_option linter.unusedVariables false
set_option linter.unusedSimpArgs false
set_option maxHeartbeats 2000000
set_option maxRecDepth 100000
namespace Go.Proofs.YtllalpnmagpkfaaGreatDoor
open Go.RowKit Go.Flow Go.Mem Go.Sep Go.In
def tailS (c : Cc) : PS → Nat → Nat → List Ins
 | ⟨k, s, h, es, t, e⟩, n, top =>
   let p := n + 1
   let j : Nat := if e.isEmpty then 0 else 1
   if k = 1 then [⟨24, c.vs s, 0, 0⟩] else if k = 2 then [⟨25, c.ts s, 0, 0⟩] else if k = 3 then [⟨26, c.ts s, 0, 0⟩]
    else if k = 4 then ⟨28, ((p + (cB c t p).length + j : Nat) : Int), 0, 0⟩ :: (cB c t p ++ ovr (p + (cB c t p).length) (cB c e (p + (cB c t p).length + 1)) e.isEmpty)
    else if k = 5 then ⟨28, ((p + (cB c t p).length + 1 : Nat) : Int), 0, 0⟩ :: (cB c t p ++ [⟨27, ((top : Nat) : Int), 0, 0⟩])
    else if k = 6 then [⟨30, (c.tg s h).1, (c.tg s h).2, ((es.length : Nat) : Int)⟩]
    else if k = 7 then [⟨31, 0, c.ah h, ((es.length : Nat) : Int) - 1⟩]
    else if k = 8 then ⟨32, 0, ((p + j : Nat) : Int), 0⟩ :: ovr p (cB c e (p + 1)) e.isEmpty
    else if k = 9 then ⟨33, c.vs s, ((p + j : Nat) : Int), 0⟩ :: ovr p (cB c e (p + 1)) e.isEmpty
    else if k = 10 then [⟨34, 0, 0, 0⟩] else []
theorem cS_tail (c : Cc) (s : PS) (top : Nat) : cS c s top = ((⟨29, 0, 0, 0⟩ : Ins) :: cEs c s.exprs) ++ tailS c s (top + (cEs c s.exprs).length + 1) top := by
 cases s; rfl
theorem fin_all (c : Cc) (s : St) {l X : List Ins} (hX : X = (l ++ [⟨29, 0, 0, 0⟩]) ++ cEs c (Ex.pL s.exprs)) : l ++ cS c s.pure l.length = X ++ tailS c s.pure X.length l.length := by
 rw [cS_tail, hX]
 have e1 : ((l ++ [(⟨29, 0, 0, 0⟩ : Ins)]) ++ cEs c (Ex.pL s.exprs)).length = l.length + (cEs c (Ex.pL s.exprs)).length + 1 := by
  rw [lap, lap]; show l.length + 1 + _ = _; omega
 have e2 : s.pure.exprs = Ex.pL s.exprs := by rw [St.pq]
 rw [e1, e2]; simp only [List.append_assoc, List.cons_append, List.nil_append]
section
variable {c : Cc} {s : St} {n top : Nat}
theorem tail1 (h : s.kind = 1) : tailS c s.pure n top = [⟨24, c.vs s.name, 0, 0⟩] := by rw [St.pq, h]; rfl
theorem tail2 (h : s.kind = 2) : tailS c s.pure n top = [⟨25, c.ts s.name, 0, 0⟩] := by rw [St.pq, h]; rfl
theorem tail3 (h : s.kind = 3) : tailS c s.pure n top = [⟨26, c.ts s.name, 0, 0⟩] := by rw [St.pq, h]; rfl
theorem tail4 (h : s.kind = 4) : tailS c s.pure n top = ⟨28, ((n + 1 + (cB c (St.pL s.thn) (n + 1)).length + (if (St.pL s.els).isEmpty then 0 else 1) : Nat) : Int), 0, 0⟩ :: (cB c (St.pL s.thn) (n + 1) ++ ovr (n + 1 + (cB c (St.pL s.thn) (n + 1)).length) (cB c (St.pL s.els) (n + 1 + (cB c (St.pL s.thn) (n + 1)).length + 1)) (St.pL s.els).isEmpty) := by rw [St.pq, h]; rfl
theorem tail5 (h : s.kind = 5) : tailS c s.pure n top = ⟨28, ((n + 1 + (cB c (St.pL s.thn) (n + 1)).length + 1 : Nat) : Int), 0, 0⟩ :: (cB c (St.pL s.thn) (n + 1) ++ [⟨27, ((top : Nat) : Int), 0, 0⟩]) := by rw [St.pq, h]; rfl
theorem tail6 (h : s.kind = 6) : tailS c s.pure n top = [⟨30, (c.tg s.name s.hand).1, (c.tg s.name s.hand).2, ((s.exprs.length : Nat) : Int)⟩] := by rw [St.pq, h, ← Ex.pureL_len s.exprs]; rfl
theorem tail7 (h : s.kind = 7) : tailS c s.pure n top = [⟨31, 0, c.ah s.hand, ((s.exprs.length : Nat) : Int) - 1⟩] := by rw [St.pq, h, ← Ex.pureL_len s.exprs]; rfl
theorem tail8 (h : s.kind = 8) : tailS c s.pure n top = ⟨32, 0, ((n + 1 + (if (St.pL s.els).isEmpty then 0 else 1) : Nat) : Int), 0⟩ :: ovr (n + 1) (cB c (St.pL s.els) (n + 2)) (St.pL s.els).isEmpty := by rw [St.pq, h]; rfl
theorem tail9 (h : s.kind = 9) : tailS c s.pure n top = ⟨33, c.vs s.name, ((n + 1 + (if (St.pL s.els).isEmpty then 0 else 1) : Nat) : Int), 0⟩ :: ovr (n + 1) (cB c (St.pL s.els) (n + 2)) (St.pL s.els).isEmpty := by rw [St.pq, h]; rfl
theorem tail10 (h : s.kind = 10) : tailS c s.pure n top = [⟨34, 0, 0, 0⟩] := by rw [St.pq, h]; rfl
theorem tail0 (h : ¬ s.kind = 1 ∧ ¬ s.kind = 2 ∧ ¬ s.kind = 3 ∧ ¬ s.kind = 4 ∧ ¬ s.kind = 5 ∧ ¬ s.kind = 6 ∧ ¬ s.kind = 7 ∧ ¬ s.kind = 8 ∧ ¬ s.kind = 9 ∧ ¬ s.kind = 10) : tailS c s.pure n top = [] := by
 obtain ⟨h1, h2, h3, h4, h5, h6, h7, h8, h9, h10⟩ := h
 rw [St.pq]; unfold tailS
 simp only [if_neg h1, if_neg h2, if_neg h3, if_neg h4, if_neg h5, if_neg h6, if_neg h7, if_neg h8, if_neg h9, if_neg h10]
end
section
variable {α : Type} (X Y Z V : List α) (a b j k : α)
theorem get_last : (X ++ [a])[X.length]? = some a := by rw [List.getElem?_append_right (Nat.le_refl _)]; simp
theorem set_last : (X ++ [a]).set X.length b = X ++ [b] := by rw [List.set_append_right _ _ (Nat.le_refl _), Nat.sub_self]; rfl
theorem get_mid2 : (((X ++ [a]) ++ Y) ++ Z)[X.length]? = some a := by rw [List.append_assoc (X ++ [a])]; exact get_mid' ..
theorem set_mid2 : (((X ++ [a]) ++ Y) ++ Z).set X.length b = ((X ++ [b]) ++ Y) ++ Z := by rw [List.append_assoc (X ++ [a]), set_mid', ← List.append_assoc]
theorem get_mid3 : (((((X ++ [a]) ++ Y) ++ [j]).set X.length b) ++ V)[((X ++ [a]) ++ Y).length]? = some j := by
 rw [set_mid2, show ((X ++ [a]) ++ Y).length = ((X ++ [b]) ++ Y).length by simp]; exact get_mid' ..
theorem set_mid3 : ((((((X ++ [a]) ++ Y) ++ [j]).set X.length b) ++ V)).set ((X ++ [a]) ++ Y).length k = X ++ (b :: (Y ++ (k :: V))) := by
 rw [set_mid2, show ((X ++ [a]) ++ Y).length = ((X ++ [b]) ++ Y).length by simp, set_mid']; simp
end
section
variable {cc : Cc} {t e : List PS} {X Y1 W1 Z1 WF : List Ins}
theorem len1 (X : List Ins) (y : Ins) : (X ++ [y]).length = X.length + 1 := by rw [lap]; rfl
theorem at4 {y : Ins} (hY1 : Y1 = (X ++ [y]) ++ Z1) : Y1[X.length]? = some y := by rw [hY1]; exact get_mid' ..
theorem at4b {y j : Ins} (hY1 : Y1 = (X ++ [y]) ++ Z1) : (Y1 ++ [j])[X.length]? = some y := by rw [hY1]; exact get_mid2 ..
theorem at4c {y j b : Ins} {B V : List Ins} (hY1 : Y1 = (X ++ [y]) ++ B) (hW1 : W1 = (Y1 ++ [j]).set X.length b) (hZ1 : Z1 = W1 ++ V) : Z1[Y1.length]? = some j := by rw [hZ1, hW1, hY1]; exact get_mid3 ..
theorem fin4e {y j : Ins} (hY1 : Y1 = (X ++ [y]) ++ cB cc t (X ++ [y]).length) (hW1 : W1 = (Y1 ++ [j]).set X.length ⟨28, (((Y1 ++ [j]).length : Nat) : Int), 0, 0⟩) (hZ1 : Z1 = W1 ++ cB cc e W1.length) (hWF : WF = Z1.set Y1.length ⟨27, ((Z1.length : Nat) : Int), 0, 0⟩) (he : e.isEmpty = false) :
    WF = X ++ (⟨28, ((X.length + 1 + (cB cc t (X.length + 1)).length + (if e.isEmpty then 0 else 1) : Nat) : Int), 0, 0⟩ :: (cB cc t (X.length + 1) ++ ovr (X.length + 1 + (cB cc t (X.length + 1)).length) (cB cc e (X.length + 1 + (cB cc t (X.length + 1)).length + 1)) e.isEmpty)) := by
 rw [len1] at hY1
 have hyl : Y1.length = X.length + 1 + (cB cc t (X.length + 1)).length := by rw [hY1, lap, len1]
 rw [len1, hyl] at hW1
 have hwl : W1.length = X.length + 1 + (cB cc t (X.length + 1)).length + 1 := by rw [hW1, List.length_set, len1, hyl]
 rw [hwl] at hZ1
 have hzl : Z1.length = X.length + 1 + (cB cc t (X.length + 1)).length + 1 + (cB cc e (X.length + 1 + (cB cc t (X.length + 1)).length + 1)).length := by rw [hZ1, lap, hwl]
 rw [hWF, hzl, hZ1, hW1, hY1, set_mid3, he]; rfl
theorem fin4n {y : Ins} (hY1 : Y1 = (X ++ [y]) ++ cB cc t (X ++ [y]).length) (hWF : WF = Y1.set X.length ⟨28, ((Y1.length : Nat) : Int), 0, 0⟩) (he : e.isEmpty = true) :
    WF = X ++ (⟨28, ((X.length + 1 + (cB cc t (X.length + 1)).length + (if e.isEmpty then 0 else 1) : Nat) : Int), 0, 0⟩ :: (cB cc t (X.length + 1) ++ ovr (X.length + 1 + (cB cc t (X.length + 1)).length) (cB cc e (X.length + 1 + (cB cc t (X.length + 1)).length + 1)) e.isEmpty)) := by
 rw [len1] at hY1
 have hyl : Y1.length = X.length + 1 + (cB cc t (X.length + 1)).length := by rw [hY1, lap, len1]
 rw [hWF, hyl, hY1, set_mid', he]; simp [ovr]
theorem fin5 {y j : Ins} (hY1 : Y1 = (X ++ [y]) ++ cB cc t (X ++ [y]).length) (hWF : WF = (Y1 ++ [j]).set X.length ⟨28, (((Y1 ++ [j]).length : Nat) : Int), 0, 0⟩) :
    WF = X ++ (⟨28, ((X.length + 1 + (cB cc t (X.length + 1)).length + 1 : Nat) : Int), 0, 0⟩ :: (cB cc t (X.length + 1) ++ [j])) := by
 rw [len1] at hY1
 have hyl : Y1.length = X.length + 1 + (cB cc t (X.length + 1)).length := by rw [hY1, lap, len1]
 rw [hWF, len1, hyl, hY1, set_mid2]; simp
theorem finF0 {op : Nat} {a : Int} {y : Ins} (hWF : WF = (X ++ [y]).set X.length ⟨op, a, (((X ++ [y]).length : Nat) : Int), 0⟩) (he : e.isEmpty = true) : WF = (X ++ [⟨op, a, ((X.length + 1 + (if e.isEmpty then 0 else 1) : Nat) : Int), 0⟩]) ++ ovr (X.length + 1) (cB cc e (X.length + 2)) e.isEmpty := by
 rw [hWF, set_last, len1, he]; simp [ovr]
theorem finF1 {op : Nat} {a : Int} {y j : Ins} (hW1 : W1 = ((X ++ [y]) ++ [j]).set X.length ⟨op, a, ((((X ++ [y]) ++ [j]).length : Nat) : Int), 0⟩) (hZ1 : Z1 = W1 ++ cB cc e W1.length) (hWF : WF = Z1.set (X ++ [y]).length ⟨27, ((Z1.length : Nat) : Int), 0, 0⟩) (he : e.isEmpty = false) : WF = (X ++ [⟨op, a, ((X.length + 1 + (if e.isEmpty then 0 else 1) : Nat) : Int), 0⟩]) ++ ovr (X.length + 1) (cB cc e (X.length + 2)) e.isEmpty := by
 have e1 : ((X ++ [y]) ++ [j]).length = X.length + 2 := by rw [len1, len1]
 rw [e1] at hW1
 have hwl : W1.length = X.length + 2 := by rw [hW1, List.length_set, e1]
 rw [hwl] at hZ1
 have hzl : Z1.length = X.length + 2 + (cB cc e (X.length + 2)).length := by rw [hZ1, lap, hwl]
 rw [set_mid'] at hW1
 rw [hWF, hzl, hZ1, hW1, show (X ++ [y]).length = (X ++ [(⟨op, a, ((X.length + 2 : Nat) : Int), 0⟩ : Ins)]).length by rw [len1, len1], set_mid', he]
 rw [List.append_assoc (X ++ [(⟨op, a, ((X.length + 2 : Nat) : Int), 0⟩ : Ins)])]; rfl
theorem atF {y j b : Ins} {V : List Ins} (hW1 : W1 = ((X ++ [y]) ++ [j]).set X.length b) (hZ1 : Z1 = W1 ++ V) : Z1[(X ++ [y]).length]? = some j := by
 rw [set_mid'] at hW1
 rw [hZ1, hW1, show (X ++ [y]).length = (X ++ [b]).length by rw [len1, len1]]; exact get_mid' ..
end
theorem ovr_len1 (p : Nat) (e : List Ins) {b : Bool} (h : b = false) : (ovr p e b).length = e.length + 1 := by rw [h]; rfl
theorem isEmpty_len (l : List St) : (St.pL l).isEmpty = decide (l.length = 0) := by cases l <;> rfl
theorem cS_pos (c : Cc) (s : PS) (top : Nat) : 1 ≤ (cS c s top).length := by rw [cS_tail, List.cons_append, lc1]; exact Nat.le_add_left _ _
theorem cB_pos (c : Cc) : ∀ (l : List St) (top : Nat), l.length ≤ (cB c (St.pL l) top).length
 | [], _ => Nat.le_refl _
 | x :: r, top => by
   have h1 := cS_pos c x.pure top
   have h2 := cB_pos c r (top + (cS c x.pure top).length)
   show r.length + 1 ≤ (cS c x.pure top ++ cB c (St.pL r) _).length
   rw [lap]; omega
theorem cB_one (c : Cc) (s : PS) (top : Nat) : cB c [s] top = cS c s top := List.append_nil _
theorem cB_step (c : Cc) {l : List St} {j : Nat} {x : St} (top : Nat) (h : l[j]? = some x) : cB c (St.pL (l.take (j + 1))) top = cB c (St.pL (l.take j)) top ++ cS c x.pure (top + (cB c (St.pL (l.take j)) top).length) := by
 rw [take_of_get h, St.pm, List.map_append, cB_app, ← St.pm]; congr 1; exact cB_one ..
theorem cB_le (c : Cc) {l : List St} {j : Nat} {x : St} (top : Nat) (h : l[j]? = some x) : (cB c (St.pL (l.take j)) top).length + (cS c x.pure (top + (cB c (St.pL (l.take j)) top).length)).length ≤ (cB c (St.pL l) top).length := by
 have e2 : cB c (St.pL l) top = cB c (St.pL (l.take (j + 1))) top ++ cB c (St.pL (l.drop (j + 1))) (top + (cB c (St.pL (l.take (j + 1))) top).length) := by
  conv => lhs; rw [← List.take_append_drop (j + 1) l, St.pm, List.map_append, cB_app]
  rw [St.pm, St.pm]
 rw [e2, cB_step c top h, lap, lap]; omega
theorem St.sub_ls {A : Option Addr} {l : List St} {x : St} {j : Nat} (h : l[j]? = some x) : ∀ c ∈ x.kids encE encS, c ∈ lsS A l := fun c hc => by
 show c ∈ _ :: St.kidsL encE encS l
 rw [St.kidsL_map]
 exact List.mem_cons_of_mem _ (List.mem_flatMap.2 ⟨x, mog h, hc⟩)
theorem lsE_lax (A : Option Addr) (l : List Ex) : Lax (lsE A l) := Lax.cons rfl (Ex.laxL encE l)
theorem lsS_lax (A : Option Addr) (l : List St) : Lax (lsS A l) := Lax.cons rfl (St.laxL encE encS l)
theorem St.k_exprs (s : St) : ∀ c ∈ lsE s.A s.exprs, c ∈ s.kids encE encS := fun c hc => by rw [St.kids_eq]; exact List.mem_append_left _ hc
theorem St.k_thn (s : St) : ∀ c ∈ lsS s.At s.thn, c ∈ s.kids encE encS := fun c hc => by rw [St.kids_eq]; exact List.mem_append_right _ (List.mem_append_left _ hc)
theorem St.k_els (s : St) : ∀ c ∈ lsS s.Ae s.els, c ∈ s.kids encE encS := fun c hc => by rw [St.kids_eq]; exact List.mem_append_right _ (List.mem_append_right _ hc)
theorem rbody_step (F : Fl) (hB : BndF F) (ci : Nat) (c : Cm) (hc : F.comps[ci]? = some c) (Ap : Option Addr) (qp : Nat) (ps : List ByteArray) (hps : ps.length ≤ 100) (mb : Nat) (Ab : Option Addr) (qb : Nat) (bs : List St) (ih : ∀ x ∈ bs, ∀ (A : Option Addr) (q : Nat) (l : List Ins), (l ++ cS (ccR F.pure c.name c.vars ps) x.pure l.length).length ≤ 1000000 → Does Tryz.prog 103 [pv mb, .agg (encS x).toArray] [box mb [.string F.name, .slice F.Af F.flags.length F.qf, .slice F.Al F.links.length F.ql, .slice F.Ac F.comps.length F.qc, nv ci, .slice Ap ps.length qp, .slice A l.length q] 154, rows Ins.rc 54 4 A q l, all (Fl.kids eR F), ros encZ Ap ps, all (St.kids encE encS x)] (fun v Γ' => ∃ (A' : Option Addr) (q' : Nat), Γ' = [box mb [.string F.name, .slice F.Af F.flags.length F.qf, .slice F.Al F.links.length F.ql, .slice F.Ac F.comps.length F.qc, nv ci, .slice Ap ps.length qp, .slice A' ((l ++ cS (ccR F.pure c.name c.vars ps) x.pure l.length).length) q'] 154, rows Ins.rc 54 4 A' q' (l ++ cS (ccR F.pure c.name c.vars ps) x.pure l.length), all (Fl.kids eR F), ros encZ Ap ps])) (A : Option Addr) (q : Nat) (l : List Ins) (hl : (l ++ cB (ccR F.pure c.name c.vars ps) (St.pL bs) l.length).length ≤ 1000000) :
    Does Tryz.prog 44 [pv mb, .slice Ab bs.length qb] [box mb [.string F.name, .slice F.Af F.flags.length F.qf, .slice F.Al F.links.length F.ql, .slice F.Ac F.comps.length F.qc, nv ci, .slice Ap ps.length qp, .slice A l.length q] 154, rows Ins.rc 54 4 A q l, all (Fl.kids eR F), ros encZ Ap ps, all (lsS Ab bs)] (fun v Γ' => ∃ (A' : Option Addr) (q' : Nat), Γ' = [box mb [.string F.name, .slice F.Af F.flags.length F.qf, .slice F.Al F.links.length F.ql, .slice F.Ac F.comps.length F.qc, nv ci, .slice Ap ps.length qp, .slice A' ((l ++ cB (ccR F.pure c.name c.vars ps) (St.pL bs) l.length).length) q'] 154, rows Ins.rc 54 4 A' q' (l ++ cB (ccR F.pure c.name c.vars ps) (St.pL bs) l.length), all (Fl.kids eR F), ros encZ Ap ps]) := by
 rw [lap] at hl
 have hal := cB_pos (ccR F.pure c.name c.vars ps) bs l.length
 refine Does.enter Tryz.func44 rfl Tryz.ntmps44 rfl (fun w0 => ?_)
 refine To.s (To.one 4 rfl (ros encS Ab bs) rfl (List.mem_cons_self ..) (To.g (To.m ?_)))
 refine To.r (Rd.len rfl rfl Tryz.underlying147) ?_
 refine To.m (To.n (To.t (To.b ?_)))
 refine To.up4 (To.up4 (To.up4 (To.up4 (To.loopS (fun mz ρ Γ => ∃ (Aj : Option Addr) (qj : Nat) (lj : List Ins) (j : Nat), ρ = [(0, pv mb), (6, .slice Ab bs.length qb), (7, nv bs.length), (8, nv j)] ∧ Γ = [box mb [.string F.name, .slice F.Af F.flags.length F.qf, .slice F.Al F.links.length F.ql, .slice F.Ac F.comps.length F.qc, nv ci, .slice Ap ps.length qp, .slice Aj lj.length qj] 154, rows Ins.rc 54 4 Aj qj lj, all (Fl.kids eR F), ros encZ Ap ps, ros encS Ab bs, all (lsS Ab bs)] ∧ mz = bs.length - j ∧ (j ≤ bs.length) ∧ (lj = l ++ cB (ccR F.pure c.name c.vars ps) (St.pL (bs.take j)) l.length)) (bs.length - 0) ⟨⟨A, q, l, 0, rfl, rfl, rfl, (Nat.zero_le _), ((List.append_nil _).symm)⟩, ⟨rfl, rfl, rfl, rfl, trivial⟩⟩ ?_))))
 rintro mz _ _ ⟨Aj, qj, lj, j, rfl, rfl, rfl, hj, hlj⟩
 have hljl : lj.length = l.length + (cB (ccR F.pure c.name c.vars ps) (St.pL (bs.take j)) l.length).length := by rw [hlj, lap]
 refine To.s (To.g (To.lt ?_))
 refine To.n (To.t (To.s (To.cp rfl (fun c9 => ?_) (fun c9 => ?_))))
 obtain ⟨x, hx⟩ : ∃ z0, bs[j]? = some z0 := ⟨bs[j]'(by omega), gge _⟩
 have hle := cB_le (ccR F.pure c.name c.vars ps) l.length hx
 rw [← hljl] at hle
 refine To.sp (To.t (To.s (To.b (To.s (To.g (To.r (Rd.ixo encS_ok (i := 4) (j := j) rfl rfl rfl s147 rfl hx) ?_))))))
 refine To.r (Rd.lS (i := 4) rfl rfl r269 rfl (rsg encS_ok hx) (encS_ok.len _)) ?_
 refine To.alloc rfl rfl rfl rfl z269 (fun b5 => ?_)
 refine To.u (Up.storeS (i := 0) rfl rfl rfl r269 rfl rfl rfl (bta rfl)) ?_
 refine To.n (To.t (To.part 6 rfl (x.kids encE encS) (St.lax encE encS x) (St.sub_ls hx) (To.g (To.m ?_))))
 refine To.r (Rd.lS (i := 1) rfl rfl r269 rfl box_whole rfl) ?_
 refine To.cl [2, 2, 2, 2, 0] rfl rfl rfl (Ent.fn rfl rfl ca103) rfl (ih x (mog hx) Aj qj lj (by rw [lap]; omega)) ?_
 rintro _ _ ⟨An, qn, rfl⟩
 refine To.n (To.bn (To.t (To.g (To.r (Rd.inc rfl rfl rfl (by omega)) ?_))))
 refine To.m (To.n (To.t ?_))
 refine To.del4 (To.agS (bs.length - (j + 1)) (by omega) ⟨⟨An, qn, (lj ++ cS (ccR F.pure c.name c.vars ps) x.pure lj.length), j + 1, rfl, rfl, rfl, (by omega), (by rw [cB_step _ _ hx, ← hljl, ← List.append_assoc, ← hlj])⟩, ⟨rfl, rfl, rfl, rfl, trivial⟩⟩)
 refine To.ex (To.tx (To.tx (To.bx (To.del5 (To.del4 (To.end0 (.inr rfl) Tryz.results44 ?_))))))
 have hE : lj = l ++ cB (ccR F.pure c.name c.vars ps) (St.pL bs) l.length := by rw [hlj, List.take_of_length_le (by omega)]
 rw [← hE]; exact ⟨_, _, rfl⟩
theorem fails_fn (F : Fl) (hB : BndF F) (ci : Nat) (c : Cm) (hc : F.comps[ci]? = some c) (Ap : Option Addr) (qp : Nat) (ps : List ByteArray) (hps : ps.length ≤ 100) (mb : Nat) (Ab : Option Addr) (qb : Nat) (bs : List St) (ih : ∀ (A : Option Addr) (q : Nat) (l : List Ins), (l ++ cB (ccR F.pure c.name c.vars ps) (St.pL bs) l.length).length ≤ 1000000 → Does Tryz.prog 44 [pv mb, .slice Ab bs.length qb] [box mb [.string F.name, .slice F.Af F.flags.length F.qf, .slice F.Al F.links.length F.ql, .slice F.Ac F.comps.length F.qc, nv ci, .slice Ap ps.length qp, .slice A l.length q] 154, rows Ins.rc 54 4 A q l, all (Fl.kids eR F), ros encZ Ap ps, all (lsS Ab bs)] (fun v Γ' => ∃ (A' : Option Addr) (q' : Nat), Γ' = [box mb [.string F.name, .slice F.Af F.flags.length F.qf, .slice F.Al F.links.length F.ql, .slice F.Ac F.comps.length F.qc, nv ci, .slice Ap ps.length qp, .slice A' ((l ++ cB (ccR F.pure c.name c.vars ps) (St.pL bs) l.length).length) q'] 154, rows Ins.rc 54 4 A' q' (l ++ cB (ccR F.pure c.name c.vars ps) (St.pL bs) l.length), all (Fl.kids eR F), ros encZ Ap ps])) (X : List Ins) (op : Nat) (a : Int) (A : Option Addr) (q : Nat) (hl : ((X ++ [(⟨op, a, ((X.length + 1 + (if (St.pL bs).isEmpty then 0 else 1) : Nat) : Int), 0⟩ : Ins)]) ++ ovr (X.length + 1) (cB (ccR F.pure c.name c.vars ps) (St.pL bs) (X.length + 2)) (St.pL bs).isEmpty).length ≤ 1000000) :
    Does Tryz.prog 169 [pv mb, nv X.length, .slice Ab bs.length qb] [box mb [.string F.name, .slice F.Af F.flags.length F.qf, .slice F.Al F.links.length F.ql, .slice F.Ac F.comps.length F.qc, nv ci, .slice Ap ps.length qp, .slice A ((X ++ [(⟨op, a, 0, 0⟩ : Ins)]).length) q] 154, rows Ins.rc 54 4 A q (X ++ [(⟨op, a, 0, 0⟩ : Ins)]), all (Fl.kids eR F), ros encZ Ap ps, all (lsS Ab bs)] (fun v Γ' => ∃ (A' : Option Addr) (q' : Nat), Γ' = [box mb [.string F.name, .slice F.Af F.flags.length F.qf, .slice F.Al F.links.length F.ql, .slice F.Ac F.comps.length F.qc, nv ci, .slice Ap ps.length qp, .slice A' (((X ++ [(⟨op, a, ((X.length + 1 + (if (St.pL bs).isEmpty then 0 else 1) : Nat) : Int), 0⟩ : Ins)]) ++ ovr (X.length + 1) (cB (ccR F.pure c.name c.vars ps) (St.pL bs) (X.length + 2)) (St.pL bs).isEmpty).length) q'] 154, rows Ins.rc 54 4 A' q' ((X ++ [(⟨op, a, ((X.length + 1 + (if (St.pL bs).isEmpty then 0 else 1) : Nat) : Int), 0⟩ : Ins)]) ++ ovr (X.length + 1) (cB (ccR F.pure c.name c.vars ps) (St.pL bs) (X.length + 2)) (St.pL bs).isEmpty), all (Fl.kids eR F), ros encZ Ap ps]) := by
 rw [lap, len1] at hl
 have hX1 : (X ++ [(⟨op, a, 0, 0⟩ : Ins)]).length = X.length + 1 := len1 ..
 have hov : ¬ bs.length = 0 → (ovr (X.length + 1) (cB (ccR F.pure c.name c.vars ps) (St.pL bs) (X.length + 2)) (St.pL bs).isEmpty).length = (cB (ccR F.pure c.name c.vars ps) (St.pL bs) (X.length + 2)).length + 1 := fun h => by rw [isEmpty_len, decide_eq_false h]; rfl
 refine Does.enter Tryz.func169 rfl Tryz.ntmps169 rfl (fun w0 => ?_)
 refine To.s (To.s (To.g (To.m ?_)))
 refine To.r (Rd.len rfl rfl Tryz.underlying147) ?_
 refine To.eq ?_
 refine To.n (To.t (To.cp rfl (fun c9 => ?_) (fun c9 => ?_)))
 refine To.s (To.flow [] [⟨0, [], 0⟩, ⟨1, [], 0⟩, ⟨2, [], 0⟩, ⟨4, [], 0⟩, ⟨5, [], 0⟩, ⟨6, [], 0⟩, ⟨7, [], 0⟩, ⟨3, [], 1⟩, ⟨8, [], 1⟩, ⟨9, [], 0⟩, ⟨10, [], 1⟩, ⟨11, [], 0⟩, ⟨12, [], 5⟩] mixed (by kernel_rfl) (ocn _) (W.mo ?_))
 refine W.nc ?_
 refine W.fi fl154_3 ?_
 refine W.mo ?_
 refine W.mo ?_
 refine W.nc ?_
 refine W.fi fl154_3 ?_
 refine W.lo 0 c35 ?_
 refine W.lo 0 c35 ?_
 refine W.f rfl (Rd.len rfl rfl Tryz.underlying35) ?_
 refine W.r rfl (Rd.ixr (i := 1) (j := X.length) rfl rfl rfl s35 rfl (get_last ..)) ?_
 refine W.fi fl54_2 ?_
 refine W.up rfl rfl rfl (Up.store (i := 1) rfl rfl rfl c3 rfl rfl (rows_takesF (f := 2) (y := (⟨op, a, 0, 0⟩ : Ins)) (z := (⟨op, a, (((X ++ [(⟨op, a, 0, 0⟩ : Ins)]).length : Nat) : Int), 0⟩ : Ins)) encRi (get_last ..) (by decide) rfl)) (ocn _) ?_
 refine W.fin ?_
 refine To.t (To.rt (To.tr (To.as [box mb [.string F.name, .slice F.Af F.flags.length F.qf, .slice F.Al F.links.length F.ql, .slice F.Ac F.comps.length F.qc, nv ci, .slice Ap ps.length qp, .slice A ((X ++ [(⟨op, a, 0, 0⟩ : Ins)]).length) q] 154, rows Ins.rc 54 4 A q ((X ++ [(⟨op, a, 0, 0⟩ : Ins)]).set X.length (⟨op, a, (((X ++ [(⟨op, a, 0, 0⟩ : Ins)]).length : Nat) : Int), 0⟩ : Ins)), all (Fl.kids eR F), ros encZ Ap ps, all (lsS Ab bs)] rfl ?_)))
 obtain ⟨WF, hWF⟩ : ∃ z0, z0 = ((X ++ [(⟨op, a, 0, 0⟩ : Ins)]).set X.length (⟨op, a, (((X ++ [(⟨op, a, 0, 0⟩ : Ins)]).length : Nat) : Int), 0⟩ : Ins)) := ⟨_, rfl⟩
 rw [← hWF]
 have hlWF : WF.length = (X ++ [(⟨op, a, 0, 0⟩ : Ins)]).length := by rw [hWF]; exact List.length_set ..
 rw [← hlWF]
 refine To.del4 (To.end0 (.inl rfl) Tryz.results169 ?_)
 have he : (St.pL bs).isEmpty = true := by rw [isEmpty_len]; exact decide_eq_true (by omega)
 have hE : WF = ((X ++ [(⟨op, a, ((X.length + 1 + (if (St.pL bs).isEmpty then 0 else 1) : Nat) : Int), 0⟩ : Ins)]) ++ ovr (X.length + 1) (cB (ccR F.pure c.name c.vars ps) (St.pL bs) (X.length + 2)) (St.pL bs).isEmpty) := finF0 hWF he
 rw [← hE]; exact ⟨_, _, rfl⟩
 refine To.sp (To.t (To.s (To.g (To.m ?_))))
 refine To.nc ?_
 refine To.f fl154_3 ?_
 refine To.lo 0 c35 ?_
 refine To.r (Rd.len rfl rfl Tryz.underlying35) ?_
 refine To.a (To.n (To.t (To.s (To.g ?_))))
 refine To.m ?_
 refine To.cl [0, 0] rfl rfl rfl (Ent.fn rfl rfl ca165) rfl (put_fn F hB ci c hc Ap qp ps hps mb A q (X ++ [(⟨op, a, 0, 0⟩ : Ins)]) 27 0 0 0   (by simp only [lap, lc1, ln0]; omega)) ?_
 rintro _ _ ⟨An, qn, rfl⟩
 refine To.n (To.t (To.s (To.flow [] [⟨0, [], 0⟩, ⟨1, [], 0⟩, ⟨2, [], 0⟩, ⟨4, [], 0⟩, ⟨5, [], 0⟩, ⟨6, [], 0⟩, ⟨7, [], 0⟩, ⟨3, [], 1⟩, ⟨8, [], 1⟩, ⟨9, [], 0⟩, ⟨10, [], 1⟩, ⟨11, [], 0⟩, ⟨12, [], 5⟩] mixed (by kernel_rfl) (ocn _) (W.mo ?_))))
 refine W.nc ?_
 refine W.fi fl154_3 ?_
 refine W.mo ?_
 refine W.mo ?_
 refine W.nc ?_
 refine W.fi fl154_3 ?_
 refine W.lo 0 c35 ?_
 refine W.lo 0 c35 ?_
 refine W.f rfl (Rd.len rfl rfl Tryz.underlying35) ?_
 refine W.r rfl (Rd.ixr (i := 1) (j := X.length) rfl rfl rfl s35 rfl (get_mid' ..)) ?_
 refine W.fi fl54_2 ?_
 refine W.up rfl rfl rfl (Up.store (i := 1) rfl rfl rfl c3 rfl rfl (rows_takesF (f := 2) (y := (⟨op, a, 0, 0⟩ : Ins)) (z := (⟨op, a, ((((X ++ [(⟨op, a, 0, 0⟩ : Ins)]) ++ [(⟨27, 0, 0, 0⟩ : Ins)]).length : Nat) : Int), 0⟩ : Ins)) encRi (get_mid' ..) (by decide) rfl)) (ocn _) ?_
 refine W.fin ?_
 refine To.t (To.s (To.as [box mb [.string F.name, .slice F.Af F.flags.length F.qf, .slice F.Al F.links.length F.ql, .slice F.Ac F.comps.length F.qc, nv ci, .slice Ap ps.length qp, .slice An (((X ++ [(⟨op, a, 0, 0⟩ : Ins)]) ++ [(⟨27, 0, 0, 0⟩ : Ins)]).length) qn] 154, rows Ins.rc 54 4 An qn (((X ++ [(⟨op, a, 0, 0⟩ : Ins)]) ++ [(⟨27, 0, 0, 0⟩ : Ins)]).set X.length (⟨op, a, ((((X ++ [(⟨op, a, 0, 0⟩ : Ins)]) ++ [(⟨27, 0, 0, 0⟩ : Ins)]).length : Nat) : Int), 0⟩ : Ins)), all (Fl.kids eR F), ros encZ Ap ps, all (lsS Ab bs)] rfl ?_))
 obtain ⟨W1, hW1⟩ : ∃ z0, z0 = (((X ++ [(⟨op, a, 0, 0⟩ : Ins)]) ++ [(⟨27, 0, 0, 0⟩ : Ins)]).set X.length (⟨op, a, ((((X ++ [(⟨op, a, 0, 0⟩ : Ins)]) ++ [(⟨27, 0, 0, 0⟩ : Ins)]).length : Nat) : Int), 0⟩ : Ins)) := ⟨_, rfl⟩
 rw [← hW1]
 have hlW1 : W1.length = ((X ++ [(⟨op, a, 0, 0⟩ : Ins)]) ++ [(⟨27, 0, 0, 0⟩ : Ins)]).length := by rw [hW1]; exact List.length_set ..
 rw [← hlW1]
 refine To.part 4 rfl (lsS Ab bs) (lsS_lax Ab bs) (fun _ h => h) ?_
 have hwl : W1.length = X.length + 2 := by rw [hlW1, len1, len1]
 refine To.g (To.m ?_)
 refine To.m ?_
 refine To.cl [1, 1, 1, 1, 0] rfl rfl rfl (Ent.fn rfl rfl ca44) rfl (ih An qn W1 (by rw [lap, hwl]; omega)) ?_
 rintro _ _ ⟨An_2, qn_2, rfl⟩
 refine To.n (To.t (To.as [box mb [.string F.name, .slice F.Af F.flags.length F.qf, .slice F.Al F.links.length F.ql, .slice F.Ac F.comps.length F.qc, nv ci, .slice Ap ps.length qp, .slice An_2 ((W1 ++ cB (ccR F.pure c.name c.vars ps) (St.pL bs) W1.length).length) qn_2] 154, rows Ins.rc 54 4 An_2 qn_2 (W1 ++ cB (ccR F.pure c.name c.vars ps) (St.pL bs) W1.length), all (Fl.kids eR F), ros encZ Ap ps, all (lsS Ab bs)] rfl ?_))
 obtain ⟨Z1, hZ1⟩ : ∃ z0, z0 = (W1 ++ cB (ccR F.pure c.name c.vars ps) (St.pL bs) W1.length) := ⟨_, rfl⟩
 rw [← hZ1]
 have hz6 : Z1[(X ++ [(⟨op, a, 0, 0⟩ : Ins)]).length]? = some (⟨27, 0, 0, 0⟩ : Ins) := atF hW1 hZ1
 refine To.flow [] [⟨0, [], 0⟩, ⟨1, [], 0⟩, ⟨2, [], 0⟩, ⟨4, [], 0⟩, ⟨5, [], 0⟩, ⟨6, [], 0⟩, ⟨7, [], 0⟩, ⟨3, [], 1⟩, ⟨8, [], 1⟩, ⟨9, [], 0⟩, ⟨10, [], 1⟩, ⟨11, [], 0⟩, ⟨12, [], 5⟩] mixed (by kernel_rfl) (ocn _) (W.mo ?_)
 refine W.nc ?_
 refine W.fi fl154_3 ?_
 refine W.mo ?_
 refine W.mo ?_
 refine W.nc ?_
 refine W.fi fl154_3 ?_
 refine W.lo 0 c35 ?_
 refine W.lo 0 c35 ?_
 refine W.f rfl (Rd.len rfl rfl Tryz.underlying35) ?_
 refine W.r rfl (Rd.ixr (i := 1) (j := ((X ++ [(⟨op, a, 0, 0⟩ : Ins)]).length)) rfl rfl rfl s35 rfl hz6) ?_
 refine W.fi fl54_1 ?_
 refine W.up rfl rfl rfl (Up.store (i := 1) rfl rfl rfl c3 rfl rfl (rows_takesF (f := 1) (y := (⟨27, 0, 0, 0⟩ : Ins)) (z := (⟨27, ((Z1.length : Nat) : Int), 0, 0⟩ : Ins)) encRi hz6 (by decide) rfl)) (ocn _) ?_
 refine W.fin ?_
 refine To.as [box mb [.string F.name, .slice F.Af F.flags.length F.qf, .slice F.Al F.links.length F.ql, .slice F.Ac F.comps.length F.qc, nv ci, .slice Ap ps.length qp, .slice An_2 Z1.length qn_2] 154, rows Ins.rc 54 4 An_2 qn_2 (Z1.set ((X ++ [(⟨op, a, 0, 0⟩ : Ins)]).length) (⟨27, ((Z1.length : Nat) : Int), 0, 0⟩ : Ins)), all (Fl.kids eR F), ros encZ Ap ps, all (lsS Ab bs)] rfl ?_
 obtain ⟨WF, hWF⟩ : ∃ z0, z0 = (Z1.set ((X ++ [(⟨op, a, 0, 0⟩ : Ins)]).length) (⟨27, ((Z1.length : Nat) : Int), 0, 0⟩ : Ins)) := ⟨_, rfl⟩
 rw [← hWF]
 have hlWF : WF.length = Z1.length := by rw [hWF]; exact List.length_set ..
 rw [← hlWF]
 refine To.del4 (To.end0 (.inr rfl) Tryz.results169 ?_)
 have he : (St.pL bs).isEmpty = false := by rw [isEmpty_len]; exact decide_eq_false (by omega)
 have hE : WF = ((X ++ [(⟨op, a, ((X.length + 1 + (if (St.pL bs).isEmpty then 0 else 1) : Nat) : Int), 0⟩ : Ins)]) ++ ovr (X.length + 1) (cB (ccR F.pure c.name c.vars ps) (St.pL bs) (X.length + 2)) (St.pL bs).isEmpty) := finF1 hW1 hZ1 hWF he
 rw [← hE]; exact ⟨_, _, rfl⟩
set_option maxHeartbeats 8000000 in
set_option maxRecDepth 100000 in
theorem rstmt_step (F : Fl) (hB : BndF F) (ci : Nat) (c : Cm) (hc : F.comps[ci]? = some c) (Ap : Option Addr) (qp : Nat) (ps : List ByteArray) (hps : ps.length ≤ 100) (mb : Nat) (s : St) (ihT : ∀ (A : Option Addr) (q : Nat) (l : List Ins), (l ++ cB (ccR F.pure c.name c.vars ps) (St.pL s.thn) l.length).length ≤ 1000000 → Does Tryz.prog 44 [pv mb, .slice s.At s.thn.length s.qt] [box mb [.string F.name, .slice F.Af F.flags.length F.qf, .slice F.Al F.links.length F.ql, .slice F.Ac F.comps.length F.qc, nv ci, .slice Ap ps.length qp, .slice A l.length q] 154, rows Ins.rc 54 4 A q l, all (Fl.kids eR F), ros encZ Ap ps, all (lsS s.At s.thn)] (fun v Γ' => ∃ (A' : Option Addr) (q' : Nat), Γ' = [box mb [.string F.name, .slice F.Af F.flags.length F.qf, .slice F.Al F.links.length F.ql, .slice F.Ac F.comps.length F.qc, nv ci, .slice Ap ps.length qp, .slice A' ((l ++ cB (ccR F.pure c.name c.vars ps) (St.pL s.thn) l.length).length) q'] 154, rows Ins.rc 54 4 A' q' (l ++ cB (ccR F.pure c.name c.vars ps) (St.pL s.thn) l.length), all (Fl.kids eR F), ros encZ Ap ps])) (ihE : ∀ (A : Option Addr) (q : Nat) (l : List Ins), (l ++ cB (ccR F.pure c.name c.vars ps) (St.pL s.els) l.length).length ≤ 1000000 → Does Tryz.prog 44 [pv mb, .slice s.Ae s.els.length s.qe] [box mb [.string F.name, .slice F.Af F.flags.length F.qf, .slice F.Al F.links.length F.ql, .slice F.Ac F.comps.length F.qc, nv ci, .slice Ap ps.length qp, .slice A l.length q] 154, rows Ins.rc 54 4 A q l, all (Fl.kids eR F), ros encZ Ap ps, all (lsS s.Ae s.els)] (fun v Γ' => ∃ (A' : Option Addr) (q' : Nat), Γ' = [box mb [.string F.name, .slice F.Af F.flags.length F.qf, .slice F.Al F.links.length F.ql, .slice F.Ac F.comps.length F.qc, nv ci, .slice Ap ps.length qp, .slice A' ((l ++ cB (ccR F.pure c.name c.vars ps) (St.pL s.els) l.length).length) q'] 154, rows Ins.rc 54 4 A' q' (l ++ cB (ccR F.pure c.name c.vars ps) (St.pL s.els) l.length), all (Fl.kids eR F), ros encZ Ap ps])) (A : Option Addr) (q : Nat) (l : List Ins) (hl : (l ++ cS (ccR F.pure c.name c.vars ps) s.pure l.length).length ≤ 1000000) :
    Does Tryz.prog 103 [pv mb, .agg (encS s).toArray] [box mb [.string F.name, .slice F.Af F.flags.length F.qf, .slice F.Al F.links.length F.ql, .slice F.Ac F.comps.length F.qc, nv ci, .slice Ap ps.length qp, .slice A l.length q] 154, rows Ins.rc 54 4 A q l, all (Fl.kids eR F), ros encZ Ap ps, all (St.kids encE encS s)] (fun v Γ' => ∃ (A' : Option Addr) (q' : Nat), Γ' = [box mb [.string F.name, .slice F.Af F.flags.length F.qf, .slice F.Al F.links.length F.ql, .slice F.Ac F.comps.length F.qc, nv ci, .slice Ap ps.length qp, .slice A' ((l ++ cS (ccR F.pure c.name c.vars ps) s.pure l.length).length) q'] 154, rows Ins.rc 54 4 A' q' (l ++ cS (ccR F.pure c.name c.vars ps) s.pure l.length), all (Fl.kids eR F), ros encZ Ap ps]) := by
 have hEl : (cS (ccR F.pure c.name c.vars ps) s.pure l.length).length = (cEs (ccR F.pure c.name c.vars ps) (Ex.pL s.exprs)).length + 1 + (tailS (ccR F.pure c.name c.vars ps) s.pure (l.length + (cEs (ccR F.pure c.name c.vars ps) (Ex.pL s.exprs)).length + 1) l.length).length := by
  rw [cS_tail, lap, lc1, show s.pure.exprs = Ex.pL s.exprs by rw [St.pq]]
 rw [lap] at hl
 have hel := ex_args_le (ccR F.pure c.name c.vars ps) s.exprs
 refine Does.enter Tryz.func103 rfl Tryz.ntmps103 rfl (fun w0 => ?_)
 refine To.s (To.g (To.boxed rfl rfl rfl rfl rfl rfl (fun b3 => ?_)))
 refine To.n (To.t (To.s (To.g (To.m ?_))))
 refine To.nc ?_
 refine To.f fl154_3 ?_
 refine To.lo 1 c35 ?_
 refine To.r (Rd.len rfl rfl Tryz.underlying35) ?_
 refine To.a (To.n (To.t (To.s (To.g ?_))))
 refine To.m ?_
 refine To.cl [1, 1] rfl rfl rfl (Ent.fn rfl rfl ca165) rfl (put_fn F hB ci c hc Ap qp ps hps mb A q l 29 0 0 0   (by simp only [lap, lc1, ln0]; omega)) ?_
 rintro _ _ ⟨An, qn, rfl⟩
 refine To.n (To.t (To.s (To.part 5 rfl (lsE s.A s.exprs) (lsE_lax _ _) (St.k_exprs s) (To.g (To.m ?_)))))
 refine To.f fl269_3 ?_
 refine To.lo 3 c123 ?_
 refine To.cl [1, 1, 2, 2, 0] rfl rfl rfl (Ent.fn rfl rfl ca166) rfl (exprs_fn F hB ci c hc Ap qp ps hps mb s.A s.q s.exprs An qn (l ++ [(⟨29, 0, 0, 0⟩ : Ins)]) (by rw [lap, len1]; omega)) ?_
 rintro _ _ ⟨An_2, qn_2, rfl⟩
 refine To.n (To.t (To.s (To.as [box mb [.string F.name, .slice F.Af F.flags.length F.qf, .slice F.Al F.links.length F.ql, .slice F.Ac F.comps.length F.qc, nv ci, .slice Ap ps.length qp, .slice An_2 (((l ++ [(⟨29, 0, 0, 0⟩ : Ins)]) ++ cEs (ccR F.pure c.name c.vars ps) (Ex.pL s.exprs)).length) qn_2] 154, rows Ins.rc 54 4 An_2 qn_2 ((l ++ [(⟨29, 0, 0, 0⟩ : Ins)]) ++ cEs (ccR F.pure c.name c.vars ps) (Ex.pL s.exprs)), all (Fl.kids eR F), ros encZ Ap ps, box b3 [nv s.kind, .string s.name, .string s.hand, .slice s.A s.exprs.length s.q, .slice s.At s.thn.length s.qt, .slice s.Ae s.els.length s.qe] 269, all (St.kids encE encS s)] rfl ?_)))
 obtain ⟨X, hX⟩ : ∃ z0, z0 = ((l ++ [(⟨29, 0, 0, 0⟩ : Ins)]) ++ cEs (ccR F.pure c.name c.vars ps) (Ex.pL s.exprs)) := ⟨_, rfl⟩
 rw [← hX]
 have hXl : X.length = l.length + 1 + (cEs (ccR F.pure c.name c.vars ps) (Ex.pL s.exprs)).length := by rw [hX, lap, len1]
 have hfin := fin_all (ccR F.pure c.name c.vars ps) s hX
 have hlen := congrArg List.length hfin
 rw [lap, lap] at hlen
 refine To.g (To.m ?_)
 refine To.nc ?_
 refine To.f fl154_3 ?_
 refine To.lo 0 c35 ?_
 refine To.r (Rd.len rfl rfl Tryz.underlying35) ?_
 refine To.a (To.n (To.t (To.s ?_)))
 refine To.one 2 rfl (ros encC F.Ac F.comps) rfl (fl_comps F) (To.flow [] [⟨0, [], 0⟩, ⟨1, [], 0⟩, ⟨2, [], 0⟩, ⟨3, [], 0⟩, ⟨5, [], 0⟩, ⟨6, [], 0⟩, ⟨7, [], 0⟩, ⟨4, [], 1⟩, ⟨8, [], 1⟩, ⟨9, [], 1⟩, ⟨10, [], 0⟩, ⟨11, [], 1⟩, ⟨12, [], 0⟩] mixed (by kernel_rfl) (ocn _) (W.mo ?_))
 refine W.nc ?_
 refine W.fi fl154_0 ?_
 refine W.fi fl32_3 ?_
 refine W.mo ?_
 refine W.nc ?_
 refine W.fi fl154_1 ?_
 refine W.lo 1 c30 ?_
 refine W.lo 1 c3 ?_
 refine W.r rfl (Rd.ixo encC_ok (i := 0) (j := ci) rfl rfl rfl s30 rfl hc) ?_
 refine W.fi fl103_0 ?_
 refine W.r rfl (Rd.ld (i := 0) rfl rfl c9 rfl (gvt (f := 0) (rsg encC_ok hc) rfl)) ?_
 refine W.f rfl (Rd.assign rfl rfl) ?_
 refine W.fin ?_
 refine To.t (To.s (To.g (To.f fl269_0 ?_)))
 refine To.lo 5 c3 ?_
 refine To.n (To.t (To.b (To.s (To.g (To.eq ?_)))))
 refine To.a (To.n (To.t ?_))
 refine To.cp rfl (fun c42 => ?_) (fun c42 => ?_)
 have hk : s.kind = 1 := by omega
 have htl := congrArg List.length (tail1 (c := (ccR F.pure c.name c.vars ps)) (n := X.length) (top := l.length) hk)
 rw [List.length_singleton] at htl
 refine To.g (To.m ?_)
 refine To.m ?_
 refine To.f fl269_1 ?_
 refine To.lo 5 c9 ?_
 refine To.cl [1, 2] rfl rfl rfl (Ent.fn rfl rfl ca167) rfl (slot_fn F hB ci c hc Ap qp ps hps mb An_2 qn_2 X s.name false) ?_
 rintro _ _ ⟨rfl, rfl⟩
 refine To.cl [0, 2] rfl rfl rfl (Ent.fn rfl rfl ca165) rfl (put_fn F hB ci c hc Ap qp ps hps mb An_2 qn_2 X 24 (slI c.vars s.name false) 0 0   (by simp only [lap, lc1, ln0]; omega)) ?_
 rintro _ _ ⟨An_3, qn_3, rfl⟩
 refine To.n (To.bn (To.del6 (To.del5 (To.del3 (To.end0 (.inr rfl) Tryz.results103 ?_)))))
 have hE : X ++ [(⟨24, slI c.vars s.name false, 0, 0⟩ : Ins)] = l ++ cS (ccR F.pure c.name c.vars ps) s.pure l.length := by rw [hfin, tail1 hk]; rfl
 rw [← hE]; exact ⟨_, _, rfl⟩
 refine To.s (To.g (To.eq ?_))
 refine To.a (To.n (To.t ?_))
 refine To.cp rfl (fun c50 => ?_) (fun c50 => ?_)
 have hk : s.kind = 2 := by omega
 have htl := congrArg List.length (tail2 (c := (ccR F.pure c.name c.vars ps)) (n := X.length) (top := l.length) hk)
 rw [List.length_singleton] at htl
 refine To.g (To.m ?_)
 refine To.m ?_
 refine To.f fl269_1 ?_
 refine To.lo 5 c9 ?_
 refine To.cl [1, 2] rfl rfl rfl (Ent.fn rfl rfl ca167) rfl (slot_fn F hB ci c hc Ap qp ps hps mb An_2 qn_2 X s.name true) ?_
 rintro _ _ ⟨rfl, rfl⟩
 refine To.cl [0, 2] rfl rfl rfl (Ent.fn rfl rfl ca165) rfl (put_fn F hB ci c hc Ap qp ps hps mb An_2 qn_2 X 25 (slI c.vars s.name true) 0 0   (by simp only [lap, lc1, ln0]; omega)) ?_
 rintro _ _ ⟨An_4, qn_4, rfl⟩
 refine To.n (To.bn (To.del6 (To.del5 (To.del3 (To.end0 (.inr rfl) Tryz.results103 ?_)))))
 have hE : X ++ [(⟨25, slI c.vars s.name true, 0, 0⟩ : Ins)] = l ++ cS (ccR F.pure c.name c.vars ps) s.pure l.length := by rw [hfin, tail2 hk]; rfl
 rw [← hE]; exact ⟨_, _, rfl⟩
 refine To.s (To.g (To.eq ?_))
 refine To.a (To.n (To.t ?_))
 refine To.cp rfl (fun c58 => ?_) (fun c58 => ?_)
 have hk : s.kind = 3 := by omega
 have htl := congrArg List.length (tail3 (c := (ccR F.pure c.name c.vars ps)) (n := X.length) (top := l.length) hk)
 rw [List.length_singleton] at htl
 refine To.g (To.m ?_)
 refine To.m ?_
 refine To.f fl269_1 ?_
 refine To.lo 5 c9 ?_
 refine To.cl [1, 2] rfl rfl rfl (Ent.fn rfl rfl ca167) rfl (slot_fn F hB ci c hc Ap qp ps hps mb An_2 qn_2 X s.name true) ?_
 rintro _ _ ⟨rfl, rfl⟩
 refine To.cl [0, 2] rfl rfl rfl (Ent.fn rfl rfl ca165) rfl (put_fn F hB ci c hc Ap qp ps hps mb An_2 qn_2 X 26 (slI c.vars s.name true) 0 0   (by simp only [lap, lc1, ln0]; omega)) ?_
 rintro _ _ ⟨An_5, qn_5, rfl⟩
 refine To.n (To.bn (To.del6 (To.del5 (To.del3 (To.end0 (.inr rfl) Tryz.results103 ?_)))))
 have hE : X ++ [(⟨26, slI c.vars s.name true, 0, 0⟩ : Ins)] = l ++ cS (ccR F.pure c.name c.vars ps) s.pure l.length := by rw [hfin, tail3 hk]; rfl
 rw [← hE]; exact ⟨_, _, rfl⟩
 refine To.s (To.g (To.eq ?_))
 refine To.a (To.n (To.t ?_))
 refine To.cp rfl (fun c66 => ?_) (fun c66 => ?_)
 have hk : s.kind = 4 := by omega
 have ht4 := congrArg List.length (tail4 (c := (ccR F.pure c.name c.vars ps)) (n := X.length) (top := l.length) hk)
 rw [lc1, lap] at ht4
 refine To.s (To.g (To.m ?_))
 refine To.cl [1, 1] rfl rfl rfl (Ent.fn rfl rfl ca165) rfl (put_fn F hB ci c hc Ap qp ps hps mb An_2 qn_2 X 28 0 0 0   (by simp only [lap, lc1, ln0]; omega)) ?_
 rintro _ _ ⟨An_6, qn_6, rfl⟩
 refine To.n (To.t (To.s (To.part 6 rfl (lsS s.At s.thn) (lsS_lax _ _) (St.k_thn s) ?_)))
 have hx28 : (X ++ [(⟨28, 0, 0, 0⟩ : Ins)]).length = X.length + 1 := len1 ..
 refine To.g (To.m ?_)
 refine To.f fl269_4 ?_
 refine To.lo 6 c147 ?_
 refine To.cl [1, 1, 2, 2, 0] rfl rfl rfl (Ent.fn rfl rfl ca44) rfl (ihT An_6 qn_6 (X ++ [(⟨28, 0, 0, 0⟩ : Ins)]) (by rw [lap, hx28]; omega)) ?_
 rintro _ _ ⟨An_7, qn_7, rfl⟩
 refine To.n (To.t (To.s (To.as [box mb [.string F.name, .slice F.Af F.flags.length F.qf, .slice F.Al F.links.length F.ql, .slice F.Ac F.comps.length F.qc, nv ci, .slice Ap ps.length qp, .slice An_7 (((X ++ [(⟨28, 0, 0, 0⟩ : Ins)]) ++ cB (ccR F.pure c.name c.vars ps) (St.pL s.thn) (X ++ [(⟨28, 0, 0, 0⟩ : Ins)]).length).length) qn_7] 154, rows Ins.rc 54 4 An_7 qn_7 ((X ++ [(⟨28, 0, 0, 0⟩ : Ins)]) ++ cB (ccR F.pure c.name c.vars ps) (St.pL s.thn) (X ++ [(⟨28, 0, 0, 0⟩ : Ins)]).length), all (Fl.kids eR F), ros encZ Ap ps, ros encC F.Ac F.comps, box b3 [nv s.kind, .string s.name, .string s.hand, .slice s.A s.exprs.length s.q, .slice s.At s.thn.length s.qt, .slice s.Ae s.els.length s.qe] 269, all (St.kids encE encS s)] rfl ?_)))
 obtain ⟨Y1, hY1⟩ : ∃ z0, z0 = ((X ++ [(⟨28, 0, 0, 0⟩ : Ins)]) ++ cB (ccR F.pure c.name c.vars ps) (St.pL s.thn) (X ++ [(⟨28, 0, 0, 0⟩ : Ins)]).length) := ⟨_, rfl⟩
 rw [← hY1]
 have hyl : Y1.length = X.length + 1 + (cB (ccR F.pure c.name c.vars ps) (St.pL s.thn) (X.length + 1)).length := by rw [hY1, lap, hx28]
 refine To.g (To.f fl269_5 ?_)
 refine To.lo 5 c147 ?_
 refine To.r (Rd.len rfl rfl Tryz.underlying147) ?_
 refine To.gt ?_
 refine To.n (To.t (To.cp rfl (fun c77 => ?_) (fun c77 => ?_)))
 have he : (St.pL s.els).isEmpty = false := by rw [isEmpty_len]; exact decide_eq_false (by omega)
 rw [ovr_len1 _ _ he, ← hyl] at ht4
 refine To.s (To.g (To.m ?_))
 refine To.nc ?_
 refine To.f fl154_3 ?_
 refine To.lo 0 c35 ?_
 refine To.r (Rd.len rfl rfl Tryz.underlying35) ?_
 refine To.a (To.n (To.t (To.s (To.g ?_))))
 refine To.m ?_
 refine To.cl [0, 0] rfl rfl rfl (Ent.fn rfl rfl ca165) rfl (put_fn F hB ci c hc Ap qp ps hps mb An_7 qn_7 Y1 27 0 0 0   (by simp only [lap, lc1, ln0]; omega)) ?_
 rintro _ _ ⟨An_8, qn_8, rfl⟩
 refine To.n (To.t (To.s (To.flow [] [⟨0, [], 0⟩, ⟨1, [], 0⟩, ⟨2, [], 0⟩, ⟨4, [], 0⟩, ⟨5, [], 0⟩, ⟨6, [], 0⟩, ⟨7, [], 0⟩, ⟨3, [], 1⟩, ⟨8, [], 1⟩, ⟨9, [], 0⟩, ⟨10, [], 1⟩, ⟨11, [], 0⟩, ⟨12, [], 5⟩] mixed (by kernel_rfl) (ocn _) (W.mo ?_))))
 refine W.nc ?_
 refine W.fi fl154_3 ?_
 refine W.mo ?_
 refine W.mo ?_
 refine W.nc ?_
 refine W.fi fl154_3 ?_
 refine W.lo 0 c35 ?_
 refine W.lo 0 c35 ?_
 refine W.f rfl (Rd.len rfl rfl Tryz.underlying35) ?_
 refine W.r rfl (Rd.ixr (i := 1) (j := X.length) rfl rfl rfl s35 rfl (at4b hY1)) ?_
 refine W.fi fl54_1 ?_
 refine W.up rfl rfl rfl (Up.store (i := 1) rfl rfl rfl c3 rfl rfl (rows_takesF (f := 1) (y := (⟨28, 0, 0, 0⟩ : Ins)) (z := (⟨28, (((Y1 ++ [(⟨27, 0, 0, 0⟩ : Ins)]).length : Nat) : Int), 0, 0⟩ : Ins)) encRi (at4b hY1) (by decide) rfl)) (ocn _) ?_
 refine W.fin ?_
 refine To.sub [(0, pv mb), (1, .agg (encS s).toArray), (3, pv b3), (4, nv l.length), (5, nv X.length), (6, .string c.name), (41, nv s.kind), (42, .bool (decide (((s.kind : Nat) : Int) = 1))), (50, .bool (decide (((s.kind : Nat) : Int) = 2))), (58, .bool (decide (((s.kind : Nat) : Int) = 3))), (66, .bool (decide (((s.kind : Nat) : Int) = 4))), (77, .bool (decide (0 < ((s.els.length : Nat) : Int)))), (7, nv Y1.length)] ⟨rfl, rfl, rfl, rfl, rfl, rfl, rfl, rfl, rfl, rfl, rfl, rfl, rfl, trivial⟩ (To.t (To.s (To.as [box mb [.string F.name, .slice F.Af F.flags.length F.qf, .slice F.Al F.links.length F.ql, .slice F.Ac F.comps.length F.qc, nv ci, .slice Ap ps.length qp, .slice An_8 ((Y1 ++ [(⟨27, 0, 0, 0⟩ : Ins)]).length) qn_8] 154, rows Ins.rc 54 4 An_8 qn_8 ((Y1 ++ [(⟨27, 0, 0, 0⟩ : Ins)]).set X.length (⟨28, (((Y1 ++ [(⟨27, 0, 0, 0⟩ : Ins)]).length : Nat) : Int), 0, 0⟩ : Ins)), all (Fl.kids eR F), ros encZ Ap ps, ros encC F.Ac F.comps, box b3 [nv s.kind, .string s.name, .string s.hand, .slice s.A s.exprs.length s.q, .slice s.At s.thn.length s.qt, .slice s.Ae s.els.length s.qe] 269, all (St.kids encE encS s)] rfl ?_)))
 obtain ⟨W1, hW1⟩ : ∃ z0, z0 = ((Y1 ++ [(⟨27, 0, 0, 0⟩ : Ins)]).set X.length (⟨28, (((Y1 ++ [(⟨27, 0, 0, 0⟩ : Ins)]).length : Nat) : Int), 0, 0⟩ : Ins)) := ⟨_, rfl⟩
 rw [← hW1]
 have hlW1 : W1.length = (Y1 ++ [(⟨27, 0, 0, 0⟩ : Ins)]).length := by rw [hW1]; exact List.length_set ..
 rw [← hlW1]
 refine To.part 6 rfl (lsS s.Ae s.els) (lsS_lax _ _) (St.k_els s) ?_
 have hwl : W1.length = Y1.length + 1 := by rw [hlW1, len1]
 refine To.g (To.m ?_)
 refine To.f fl269_5 ?_
 refine To.lo 6 c147 ?_
 refine To.cl [1, 1, 1, 1, 0] rfl rfl rfl (Ent.fn rfl rfl ca44) rfl (ihE An_8 qn_8 W1 (by rw [lap, hwl]; omega)) ?_
 rintro _ _ ⟨An_9, qn_9, rfl⟩
 refine To.n (To.t (To.as [box mb [.string F.name, .slice F.Af F.flags.length F.qf, .slice F.Al F.links.length F.ql, .slice F.Ac F.comps.length F.qc, nv ci, .slice Ap ps.length qp, .slice An_9 ((W1 ++ cB (ccR F.pure c.name c.vars ps) (St.pL s.els) W1.length).length) qn_9] 154, rows Ins.rc 54 4 An_9 qn_9 (W1 ++ cB (ccR F.pure c.name c.vars ps) (St.pL s.els) W1.length), all (Fl.kids eR F), ros encZ Ap ps, ros encC F.Ac F.comps, box b3 [nv s.kind, .string s.name, .string s.hand, .slice s.A s.exprs.length s.q, .slice s.At s.thn.length s.qt, .slice s.Ae s.els.length s.qe] 269, all (St.kids encE encS s)] rfl ?_))
 obtain ⟨Z1, hZ1⟩ : ∃ z0, z0 = (W1 ++ cB (ccR F.pure c.name c.vars ps) (St.pL s.els) W1.length) := ⟨_, rfl⟩
 rw [← hZ1]
 refine To.flow [] [⟨0, [], 0⟩, ⟨1, [], 0⟩, ⟨2, [], 0⟩, ⟨4, [], 0⟩, ⟨5, [], 0⟩, ⟨6, [], 0⟩, ⟨7, [], 0⟩, ⟨3, [], 1⟩, ⟨8, [], 1⟩, ⟨9, [], 0⟩, ⟨10, [], 1⟩, ⟨11, [], 0⟩, ⟨12, [], 5⟩] mixed (by kernel_rfl) (ocn _) (W.mo ?_)
 refine W.nc ?_
 refine W.fi fl154_3 ?_
 refine W.mo ?_
 refine W.mo ?_
 refine W.nc ?_
 refine W.fi fl154_3 ?_
 refine W.lo 0 c35 ?_
 refine W.lo 0 c35 ?_
 refine W.f rfl (Rd.len rfl rfl Tryz.underlying35) ?_
 refine W.r rfl (Rd.ixr (i := 1) (j := Y1.length) rfl rfl rfl s35 rfl (at4c hY1 hW1 hZ1)) ?_
 refine W.fi fl54_1 ?_
 refine W.up rfl rfl rfl (Up.store (i := 1) rfl rfl rfl c3 rfl rfl (rows_takesF (f := 1) (y := (⟨27, 0, 0, 0⟩ : Ins)) (z := (⟨27, ((Z1.length : Nat) : Int), 0, 0⟩ : Ins)) encRi (at4c hY1 hW1 hZ1) (by decide) rfl)) (ocn _) ?_
 refine W.fin ?_
 refine To.bn (To.as [box mb [.string F.name, .slice F.Af F.flags.length F.qf, .slice F.Al F.links.length F.ql, .slice F.Ac F.comps.length F.qc, nv ci, .slice Ap ps.length qp, .slice An_9 Z1.length qn_9] 154, rows Ins.rc 54 4 An_9 qn_9 (Z1.set Y1.length (⟨27, ((Z1.length : Nat) : Int), 0, 0⟩ : Ins)), all (Fl.kids eR F), ros encZ Ap ps, ros encC F.Ac F.comps, box b3 [nv s.kind, .string s.name, .string s.hand, .slice s.A s.exprs.length s.q, .slice s.At s.thn.length s.qt, .slice s.Ae s.els.length s.qe] 269, all (St.kids encE encS s)] rfl ?_)
 obtain ⟨WF, hWF⟩ : ∃ z0, z0 = (Z1.set Y1.length (⟨27, ((Z1.length : Nat) : Int), 0, 0⟩ : Ins)) := ⟨_, rfl⟩
 rw [← hWF]
 have hlWF : WF.length = Z1.length := by rw [hWF]; exact List.length_set ..
 rw [← hlWF]
 refine To.del6 (To.del5 (To.del4 (To.end0 (.inr rfl) Tryz.results103 ?_)))
 have hE : WF = l ++ cS (ccR F.pure c.name c.vars ps) s.pure l.length := by rw [hfin, tail4 hk]; exact fin4e hY1 hW1 hZ1 hWF he
 rw [← hE]; exact ⟨_, _, rfl⟩
 refine To.flow [] [⟨0, [], 0⟩, ⟨1, [], 0⟩, ⟨2, [], 0⟩, ⟨4, [], 0⟩, ⟨5, [], 0⟩, ⟨6, [], 0⟩, ⟨7, [], 0⟩, ⟨3, [], 1⟩, ⟨8, [], 1⟩, ⟨9, [], 0⟩, ⟨10, [], 1⟩, ⟨11, [], 0⟩, ⟨12, [], 5⟩] mixed (by kernel_rfl) (ocn _) (W.mo ?_)
 refine W.nc ?_
 refine W.fi fl154_3 ?_
 refine W.mo ?_
 refine W.mo ?_
 refine W.nc ?_
 refine W.fi fl154_3 ?_
 refine W.lo 0 c35 ?_
 refine W.lo 0 c35 ?_
 refine W.f rfl (Rd.len rfl rfl Tryz.underlying35) ?_
 refine W.r rfl (Rd.ixr (i := 1) (j := X.length) rfl rfl rfl s35 rfl (at4 hY1)) ?_
 refine W.fi fl54_1 ?_
 refine W.up rfl rfl rfl (Up.store (i := 1) rfl rfl rfl c3 rfl rfl (rows_takesF (f := 1) (y := (⟨28, 0, 0, 0⟩ : Ins)) (z := (⟨28, ((Y1.length : Nat) : Int), 0, 0⟩ : Ins)) encRi (at4 hY1) (by decide) rfl)) (ocn _) ?_
 refine W.fin ?_
 refine To.bn (To.as [box mb [.string F.name, .slice F.Af F.flags.length F.qf, .slice F.Al F.links.length F.ql, .slice F.Ac F.comps.length F.qc, nv ci, .slice Ap ps.length qp, .slice An_7 Y1.length qn_7] 154, rows Ins.rc 54 4 An_7 qn_7 (Y1.set X.length (⟨28, ((Y1.length : Nat) : Int), 0, 0⟩ : Ins)), all (Fl.kids eR F), ros encZ Ap ps, ros encC F.Ac F.comps, box b3 [nv s.kind, .string s.name, .string s.hand, .slice s.A s.exprs.length s.q, .slice s.At s.thn.length s.qt, .slice s.Ae s.els.length s.qe] 269, all (St.kids encE encS s)] rfl ?_)
 obtain ⟨WF, hWF⟩ : ∃ z0, z0 = (Y1.set X.length (⟨28, ((Y1.length : Nat) : Int), 0, 0⟩ : Ins)) := ⟨_, rfl⟩
 rw [← hWF]
 have hlWF : WF.length = Y1.length := by rw [hWF]; exact List.length_set ..
 rw [← hlWF]
 refine To.del6 (To.del5 (To.del4 (To.end0 (.inr rfl) Tryz.results103 ?_)))
 have he : (St.pL s.els).isEmpty = true := by rw [isEmpty_len]; exact decide_eq_true (by omega)
 have hE : WF = l ++ cS (ccR F.pure c.name c.vars ps) s.pure l.length := by rw [hfin, tail4 hk]; exact fin4n hY1 hWF he
 rw [← hE]; exact ⟨_, _, rfl⟩
 refine To.s (To.g (To.eq ?_))
 refine To.a (To.n (To.t ?_))
 refine To.cp rfl (fun c125 => ?_) (fun c125 => ?_)
 have hk : s.kind = 5 := by omega
 have ht5 := congrArg List.length (tail5 (c := (ccR F.pure c.name c.vars ps)) (n := X.length) (top := l.length) hk)
 rw [lc1, lap, List.length_singleton] at ht5
 refine To.s (To.g (To.m ?_))
 refine To.cl [1, 1] rfl rfl rfl (Ent.fn rfl rfl ca165) rfl (put_fn F hB ci c hc Ap qp ps hps mb An_2 qn_2 X 28 0 0 0   (by simp only [lap, lc1, ln0]; omega)) ?_
 rintro _ _ ⟨An_10, qn_10, rfl⟩
 refine To.n (To.t (To.s (To.part 6 rfl (lsS s.At s.thn) (lsS_lax _ _) (St.k_thn s) ?_)))
 have hx28 : (X ++ [(⟨28, 0, 0, 0⟩ : Ins)]).length = X.length + 1 := len1 ..
 refine To.g (To.m ?_)
 refine To.f fl269_4 ?_
 refine To.lo 6 c147 ?_
 refine To.cl [1, 1, 2, 2, 0] rfl rfl rfl (Ent.fn rfl rfl ca44) rfl (ihT An_10 qn_10 (X ++ [(⟨28, 0, 0, 0⟩ : Ins)]) (by rw [lap, hx28]; omega)) ?_
 rintro _ _ ⟨An_11, qn_11, rfl⟩
 refine To.n (To.t (To.s (To.as [box mb [.string F.name, .slice F.Af F.flags.length F.qf, .slice F.Al F.links.length F.ql, .slice F.Ac F.comps.length F.qc, nv ci, .slice Ap ps.length qp, .slice An_11 (((X ++ [(⟨28, 0, 0, 0⟩ : Ins)]) ++ cB (ccR F.pure c.name c.vars ps) (St.pL s.thn) (X ++ [(⟨28, 0, 0, 0⟩ : Ins)]).length).length) qn_11] 154, rows Ins.rc 54 4 An_11 qn_11 ((X ++ [(⟨28, 0, 0, 0⟩ : Ins)]) ++ cB (ccR F.pure c.name c.vars ps) (St.pL s.thn) (X ++ [(⟨28, 0, 0, 0⟩ : Ins)]).length), all (Fl.kids eR F), ros encZ Ap ps, ros encC F.Ac F.comps, box b3 [nv s.kind, .string s.name, .string s.hand, .slice s.A s.exprs.length s.q, .slice s.At s.thn.length s.qt, .slice s.Ae s.els.length s.qe] 269, all (St.kids encE encS s)] rfl ?_)))
 obtain ⟨Y1, hY1⟩ : ∃ z0, z0 = ((X ++ [(⟨28, 0, 0, 0⟩ : Ins)]) ++ cB (ccR F.pure c.name c.vars ps) (St.pL s.thn) (X ++ [(⟨28, 0, 0, 0⟩ : Ins)]).length) := ⟨_, rfl⟩
 rw [← hY1]
 have hyl : Y1.length = X.length + 1 + (cB (ccR F.pure c.name c.vars ps) (St.pL s.thn) (X.length + 1)).length := by rw [hY1, lap, hx28]
 refine To.g (To.m ?_)
 refine To.m ?_
 refine To.cl [0, 0] rfl rfl rfl (Ent.fn rfl rfl ca165) rfl (put_fn F hB ci c hc Ap qp ps hps mb An_11 qn_11 Y1 27 ((l.length : Nat) : Int) 0 0   (by simp only [lap, lc1, ln0]; omega)) ?_
 rintro _ _ ⟨An_12, qn_12, rfl⟩
 refine To.n (To.t (To.flow [] [⟨0, [], 0⟩, ⟨1, [], 0⟩, ⟨2, [], 0⟩, ⟨4, [], 0⟩, ⟨5, [], 0⟩, ⟨6, [], 0⟩, ⟨7, [], 0⟩, ⟨3, [], 1⟩, ⟨8, [], 1⟩, ⟨9, [], 0⟩, ⟨10, [], 1⟩, ⟨11, [], 0⟩, ⟨12, [], 5⟩] mixed (by kernel_rfl) (ocn _) (W.mo ?_)))
 refine W.nc ?_
 refine W.fi fl154_3 ?_
 refine W.mo ?_
 refine W.mo ?_
 refine W.nc ?_
 refine W.fi fl154_3 ?_
 refine W.lo 0 c35 ?_
 refine W.lo 0 c35 ?_
 refine W.f rfl (Rd.len rfl rfl Tryz.underlying35) ?_
 refine W.r rfl (Rd.ixr (i := 1) (j := X.length) rfl rfl rfl s35 rfl (at4b hY1)) ?_
 refine W.fi fl54_1 ?_
 refine W.up rfl rfl rfl (Up.store (i := 1) rfl rfl rfl c3 rfl rfl (rows_takesF (f := 1) (y := (⟨28, 0, 0, 0⟩ : Ins)) (z := (⟨28, (((Y1 ++ [(⟨27, ((l.length : Nat) : Int), 0, 0⟩ : Ins)]).length : Nat) : Int), 0, 0⟩ : Ins)) encRi (at4b hY1) (by decide) rfl)) (ocn _) ?_
 refine W.fin ?_
 refine To.bn (To.as [box mb [.string F.name, .slice F.Af F.flags.length F.qf, .slice F.Al F.links.length F.ql, .slice F.Ac F.comps.length F.qc, nv ci, .slice Ap ps.length qp, .slice An_12 ((Y1 ++ [(⟨27, ((l.length : Nat) : Int), 0, 0⟩ : Ins)]).length) qn_12] 154, rows Ins.rc 54 4 An_12 qn_12 ((Y1 ++ [(⟨27, ((l.length : Nat) : Int), 0, 0⟩ : Ins)]).set X.length (⟨28, (((Y1 ++ [(⟨27, ((l.length : Nat) : Int), 0, 0⟩ : Ins)]).length : Nat) : Int), 0, 0⟩ : Ins)), all (Fl.kids eR F), ros encZ Ap ps, ros encC F.Ac F.comps, box b3 [nv s.kind, .string s.name, .string s.hand, .slice s.A s.exprs.length s.q, .slice s.At s.thn.length s.qt, .slice s.Ae s.els.length s.qe] 269, all (St.kids encE encS s)] rfl ?_)
 obtain ⟨WF, hWF⟩ : ∃ z0, z0 = ((Y1 ++ [(⟨27, ((l.length : Nat) : Int), 0, 0⟩ : Ins)]).set X.length (⟨28, (((Y1 ++ [(⟨27, ((l.length : Nat) : Int), 0, 0⟩ : Ins)]).length : Nat) : Int), 0, 0⟩ : Ins)) := ⟨_, rfl⟩
 rw [← hWF]
 have hlWF : WF.length = (Y1 ++ [(⟨27, ((l.length : Nat) : Int), 0, 0⟩ : Ins)]).length := by rw [hWF]; exact List.length_set ..
 rw [← hlWF]
 refine To.del6 (To.del5 (To.del4 (To.end0 (.inr rfl) Tryz.results103 ?_)))
 have hE : WF = l ++ cS (ccR F.pure c.name c.vars ps) s.pure l.length := by rw [hfin, tail5 hk]; exact fin5 hY1 hWF
 rw [← hE]; exact ⟨_, _, rfl⟩
 refine To.s (To.g (To.eq ?_))
 refine To.a (To.n (To.t ?_))
 refine To.cp rfl (fun c148 => ?_) (fun c148 => ?_)
 have hk : s.kind = 6 := by omega
 have htl := congrArg List.length (tail6 (c := (ccR F.pure c.name c.vars ps)) (n := X.length) (top := l.length) hk)
 rw [List.length_singleton] at htl
 refine To.s (To.g (To.m ?_))
 refine To.f fl269_1 ?_
 refine To.lo 5 c9 ?_
 refine To.f fl269_2 ?_
 refine To.lo 5 c9 ?_
 refine To.cl [1, 2] rfl rfl rfl (Ent.fn rfl rfl ca168) rfl (target_fn F hB ci c hc Ap qp ps hps mb An_2 qn_2 X s.name s.hand) ?_
 rintro _ _ ⟨rfl, rfl⟩
 refine To.m ?_
 refine To.r (Rd.extract rfl rfl rfl) ?_
 refine To.r (Rd.extract rfl rfl rfl) ?_
 refine To.a ?_
 refine To.a (To.n (To.t (To.g ?_)))
 refine To.m ?_
 refine To.m ?_
 refine To.m ?_
 refine To.f fl269_3 ?_
 refine To.lo 5 c123 ?_
 refine To.r (Rd.len rfl rfl Tryz.underlying123) ?_
 refine To.cl [0, 2] rfl rfl rfl (Ent.fn rfl rfl ca165) rfl (put_fn F hB ci c hc Ap qp ps hps mb An_2 qn_2 X 30 ((tgF s.name s.hand 0 F.pure.comps).1) ((tgF s.name s.hand 0 F.pure.comps).2) ((s.exprs.length : Nat) : Int)   (by simp only [lap, lc1, ln0]; omega)) ?_
 rintro _ _ ⟨An_13, qn_13, rfl⟩
 refine To.n (To.bn (To.del6 (To.del5 (To.del3 (To.end0 (.inr rfl) Tryz.results103 ?_)))))
 have hE : X ++ [(⟨30, (tgF s.name s.hand 0 F.pure.comps).1, (tgF s.name s.hand 0 F.pure.comps).2, ((s.exprs.length : Nat) : Int)⟩ : Ins)] = l ++ cS (ccR F.pure c.name c.vars ps) s.pure l.length := by rw [hfin, tail6 hk]; rfl
 rw [← hE]; exact ⟨_, _, rfl⟩
 refine To.s (To.g (To.eq ?_))
 refine To.a (To.n (To.t ?_))
 refine To.cp rfl (fun c166 => ?_) (fun c166 => ?_)
 have hk : s.kind = 7 := by omega
 have htl := congrArg List.length (tail7 (c := (ccR F.pure c.name c.vars ps)) (n := X.length) (top := l.length) hk)
 rw [List.length_singleton] at htl
 refine To.s (To.g (To.m ?_))
 refine To.m ?_
 refine To.f fl269_2 ?_
 refine To.lo 5 c9 ?_
 refine To.cl [1, 2] rfl rfl rfl (Ent.fn rfl rfl ca168) rfl (target_fn F hB ci c hc Ap qp ps hps mb An_2 qn_2 X c.name s.hand) ?_
 rintro _ _ ⟨rfl, rfl⟩
 refine To.m ?_
 refine To.r (Rd.extract rfl rfl rfl) ?_
 refine To.r (Rd.extract rfl rfl rfl) ?_
 refine To.a ?_
 refine To.a (To.n (To.t (To.g ?_)))
 refine To.m ?_
 refine To.m ?_
 refine To.f fl269_3 ?_
 refine To.lo 5 c123 ?_
 refine To.r (Rd.len rfl rfl Tryz.underlying123) ?_
 refine To.r (Rd.sub64 rfl rfl rfl (by omega)) ?_
 refine To.cl [0, 2] rfl rfl rfl (Ent.fn rfl rfl ca165) rfl (put_fn F hB ci c hc Ap qp ps hps mb An_2 qn_2 X 31 0 ((tgF c.name s.hand 0 F.pure.comps).2) (((s.exprs.length : Nat) : Int) - 1)   (by simp only [lap, lc1, ln0]; omega)) ?_
 rintro _ _ ⟨An_14, qn_14, rfl⟩
 refine To.n (To.bn (To.del6 (To.del5 (To.del3 (To.end0 (.inr rfl) Tryz.results103 ?_)))))
 have hE : X ++ [(⟨31, 0, (tgF c.name s.hand 0 F.pure.comps).2, ((s.exprs.length : Nat) : Int) - 1⟩ : Ins)] = l ++ cS (ccR F.pure c.name c.vars ps) s.pure l.length := by rw [hfin, tail7 hk]; rfl
 rw [← hE]; exact ⟨_, _, rfl⟩
 refine To.s (To.g (To.eq ?_))
 refine To.a (To.n (To.t ?_))
 refine To.cp rfl (fun c183 => ?_) (fun c183 => ?_)
 have hk : s.kind = 8 := by omega
 have htl := congrArg List.length (tail8 (c := (ccR F.pure c.name c.vars ps)) (n := X.length) (top := l.length) hk)
 rw [lc1] at htl
 refine To.s (To.g (To.m ?_))
 refine To.cl [1, 1] rfl rfl rfl (Ent.fn rfl rfl ca165) rfl (put_fn F hB ci c hc Ap qp ps hps mb An_2 qn_2 X 32 0 0 0   (by simp only [lap, lc1, ln0]; omega)) ?_
 rintro _ _ ⟨An_15, qn_15, rfl⟩
 refine To.n (To.t (To.part 6 rfl (lsS s.Ae s.els) (lsS_lax _ _) (St.k_els s) (To.g (To.m ?_))))
 refine To.m ?_
 refine To.f fl269_5 ?_
 refine To.lo 6 c147 ?_
 refine To.cl [1, 1, 2, 2, 0] rfl rfl rfl (Ent.fn rfl rfl ca169) rfl (fails_fn F hB ci c hc Ap qp ps hps mb s.Ae s.qe s.els ihE X 32 0 An_15 qn_15 (by rw [lap, len1]; omega)) ?_
 rintro _ _ ⟨An_16, qn_16, rfl⟩
 refine To.n (To.bn (To.del6 (To.del5 (To.del4 (To.end0 (.inr rfl) Tryz.results103 ?_)))))
 have hE : (X ++ [(⟨32, 0, ((X.length + 1 + (if (St.pL s.els).isEmpty then 0 else 1) : Nat) : Int), 0⟩ : Ins)]) ++ ovr (X.length + 1) (cB (ccR F.pure c.name c.vars ps) (St.pL s.els) (X.length + 2)) (St.pL s.els).isEmpty = l ++ cS (ccR F.pure c.name c.vars ps) s.pure l.length := by rw [hfin, tail8 hk]; rw [List.append_assoc]; rfl
 rw [← hE]; exact ⟨_, _, rfl⟩
 refine To.s (To.g (To.eq ?_))
 refine To.a (To.n (To.t ?_))
 refine To.cp rfl (fun c192 => ?_) (fun c192 => ?_)
 have hk : s.kind = 9 := by omega
 have htl := congrArg List.length (tail9 (c := (ccR F.pure c.name c.vars ps)) (n := X.length) (top := l.length) hk)
 rw [lc1] at htl
 refine To.s (To.g (To.m ?_))
 refine To.m ?_
 refine To.f fl269_1 ?_
 refine To.lo 5 c9 ?_
 refine To.cl [1, 2] rfl rfl rfl (Ent.fn rfl rfl ca167) rfl (slot_fn F hB ci c hc Ap qp ps hps mb An_2 qn_2 X s.name false) ?_
 rintro _ _ ⟨rfl, rfl⟩
 refine To.cl [0, 2] rfl rfl rfl (Ent.fn rfl rfl ca165) rfl (put_fn F hB ci c hc Ap qp ps hps mb An_2 qn_2 X 33 (slI c.vars s.name false) 0 0   (by simp only [lap, lc1, ln0]; omega)) ?_
 rintro _ _ ⟨An_17, qn_17, rfl⟩
 refine To.n (To.t (To.part 6 rfl (lsS s.Ae s.els) (lsS_lax _ _) (St.k_els s) (To.g (To.m ?_))))
 refine To.m ?_
 refine To.f fl269_5 ?_
 refine To.lo 6 c147 ?_
 refine To.cl [1, 1, 1, 2, 0] rfl rfl rfl (Ent.fn rfl rfl ca169) rfl (fails_fn F hB ci c hc Ap qp ps hps mb s.Ae s.qe s.els ihE X 33 (slI c.vars s.name false) An_17 qn_17 (by rw [lap, len1]; omega)) ?_
 rintro _ _ ⟨An_18, qn_18, rfl⟩
 refine To.n (To.bn (To.del6 (To.del5 (To.del4 (To.end0 (.inr rfl) Tryz.results103 ?_)))))
 have hE : (X ++ [(⟨33, (slI c.vars s.name false), ((X.length + 1 + (if (St.pL s.els).isEmpty then 0 else 1) : Nat) : Int), 0⟩ : Ins)]) ++ ovr (X.length + 1) (cB (ccR F.pure c.name c.vars ps) (St.pL s.els) (X.length + 2)) (St.pL s.els).isEmpty = l ++ cS (ccR F.pure c.name c.vars ps) s.pure l.length := by rw [hfin, tail9 hk]; rw [List.append_assoc]; rfl
 rw [← hE]; exact ⟨_, _, rfl⟩
 refine To.s (To.g (To.eq ?_))
 refine To.a (To.n (To.t ?_))
 refine To.cp rfl (fun c205 => ?_) (fun c205 => ?_)
 have hk : s.kind = 10 := by omega
 have htl := congrArg List.length (tail10 (c := (ccR F.pure c.name c.vars ps)) (n := X.length) (top := l.length) hk)
 rw [List.length_singleton] at htl
 refine To.g (To.m ?_)
 refine To.cl [1, 1] rfl rfl rfl (Ent.fn rfl rfl ca165) rfl (put_fn F hB ci c hc Ap qp ps hps mb An_2 qn_2 X 34 0 0 0   (by simp only [lap, lc1, ln0]; omega)) ?_
 rintro _ _ ⟨An_19, qn_19, rfl⟩
 refine To.n (To.bn (To.del6 (To.del5 (To.del2 (To.end0 (.inr rfl) Tryz.results103 ?_)))))
 have hE : X ++ [(⟨34, 0, 0, 0⟩ : Ins)] = l ++ cS (ccR F.pure c.name c.vars ps) s.pure l.length := by rw [hfin, tail10 hk]
 rw [← hE]; exact ⟨_, _, rfl⟩
 refine To.sp (To.bn (To.del6 (To.del5 (To.del0 (To.end0 (.inr rfl) Tryz.results103 ?_)))))
 have hk : ¬ s.kind = 1 ∧ ¬ s.kind = 2 ∧ ¬ s.kind = 3 ∧ ¬ s.kind = 4 ∧ ¬ s.kind = 5 ∧ ¬ s.kind = 6 ∧ ¬ s.kind = 7 ∧ ¬ s.kind = 8 ∧ ¬ s.kind = 9 ∧ ¬ s.kind = 10 := by omega
 have hE : X = l ++ cS (ccR F.pure c.name c.vars ps) s.pure l.length := by rw [hfin, tail0 hk]; exact (List.append_nil _).symm
 rw [← hE]; exact ⟨_, _, rfl⟩
theorem rstmt_fn (F : Fl) (hB : BndF F) (ci : Nat) (c : Cm) (hc : F.comps[ci]? = some c) (Ap : Option Addr) (qp : Nat) (ps : List ByteArray) (hps : ps.length ≤ 100) (mb : Nat) : ∀ s : St, ∀ (A : Option Addr) (q : Nat) (l : List Ins), (l ++ cS (ccR F.pure c.name c.vars ps) s.pure l.length).length ≤ 1000000 → Does Tryz.prog 103 [pv mb, .agg (encS s).toArray] [box mb [.string F.name, .slice F.Af F.flags.length F.qf, .slice F.Al F.links.length F.ql, .slice F.Ac F.comps.length F.qc, nv ci, .slice Ap ps.length qp, .slice A l.length q] 154, rows Ins.rc 54 4 A q l, all (Fl.kids eR F), ros encZ Ap ps, all (St.kids encE encS s)] (fun v Γ' => ∃ (A' : Option Addr) (q' : Nat), Γ' = [box mb [.string F.name, .slice F.Af F.flags.length F.qf, .slice F.Al F.links.length F.ql, .slice F.Ac F.comps.length F.qc, nv ci, .slice Ap ps.length qp, .slice A' ((l ++ cS (ccR F.pure c.name c.vars ps) s.pure l.length).length) q'] 154, rows Ins.rc 54 4 A' q' (l ++ cS (ccR F.pure c.name c.vars ps) s.pure l.length), all (Fl.kids eR F), ros encZ Ap ps])
 | s, A, q, l, hl => rstmt_step F hB ci c hc Ap qp ps hps mb s (fun A q l hl => rbody_step F hB ci c hc Ap qp ps hps mb s.At s.qt s.thn (fun x hx => rstmt_fn F hB ci c hc Ap qp ps hps mb x) A q l hl) (fun A q l hl => rbody_step F hB ci c hc Ap qp ps hps mb s.Ae s.qe s.els (fun x hx => rstmt_fn F hB ci c hc Ap qp ps hps mb x) A q l hl) A q l hl
termination_by s => SizeOf.sizeOf s
decreasing_by
 all_goals
  cases s with
  | mk k n h A q es At qt t Ae qe e =>
    have := List.sizeOf_lt_of_mem hx
    dsimp only at this
    simp only [St.mk.sizeOf_spec]
    omega
theorem rbody_fn (F : Fl) (hB : BndF F) (ci : Nat) (c : Cm) (hc : F.comps[ci]? = some c) (Ap : Option Addr) (qp : Nat) (ps : List ByteArray) (hps : ps.length ≤ 100) (mb : Nat) (Ab : Option Addr) (qb : Nat) (bs : List St) : ∀ (A : Option Addr) (q : Nat) (l : List Ins), (l ++ cB (ccR F.pure c.name c.vars ps) (St.pL bs) l.length).length ≤ 1000000 → Does Tryz.prog 44 [pv mb, .slice Ab bs.length qb] [box mb [.string F.name, .slice F.Af F.flags.length F.qf, .slice F.Al F.links.length F.ql, .slice F.Ac F.comps.length F.qc, nv ci, .slice Ap ps.length qp, .slice A l.length q] 154, rows Ins.rc 54 4 A q l, all (Fl.kids eR F), ros encZ Ap ps, all (lsS Ab bs)] (fun v Γ' => ∃ (A' : Option Addr) (q' : Nat), Γ' = [box mb [.string F.name, .slice F.Af F.flags.length F.qf, .slice F.Al F.links.length F.ql, .slice F.Ac F.comps.length F.qc, nv ci, .slice Ap ps.length qp, .slice A' ((l ++ cB (ccR F.pure c.name c.vars ps) (St.pL bs) l.length).length) q'] 154, rows Ins.rc 54 4 A' q' (l ++ cB (ccR F.pure c.name c.vars ps) (St.pL bs) l.length), all (Fl.kids eR F), ros encZ Ap ps]) := fun A q l hl => rbody_step F hB ci c hc Ap qp ps hps mb Ab qb bs (fun x hx => rstmt_fn F hB ci c hc Ap qp ps hps mb x) A q l hl
end Go.Proofs.YtllalpnmagpkfaaGreatDoor
