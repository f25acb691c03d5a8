/- Merged out of R0, R1, R2a, R2 by merge.py. Own text. -/
import Derived.Laws.Strings
import Derived.Test.YtllalpnmagpkfaaGreatDoorBd
set_option linter.unusedVariables false
set_option linter.unusedSimpArgs false
set_option maxHeartbeats 2000000
set_option maxRecDepth 100000
namespace Go.Sep
open Go.RowKit Go.Flow Go.Mem
theorem list_eq_iff (s u : ByteArray) : (s.toList == u.toList) = decide (s = u) := by
 rw [ByteArray.toList_eq, ByteArray.toList_eq, Bool.eq_iff_iff, decide_eq_true_eq, beq_iff_eq]
 refine ⟨fun h => ?_, fun h => by rw [h]⟩
 cases s; cases u
 simp only at h
 rw [Array.toList_inj.1 h]
theorem Rd.eqlZ {P : Program} {o : Oper} {ρ : Slots} {Γ : List Chunk} {x y : Operand} {t t' : TypeId} {s u : ByteArray} (ho : o.op = .binOp .eql t x y t') (hx : ev ρ x = some (.string s)) (hy : ev ρ y = some (.string u)) : Rd P o ρ Γ (.bool (decide (s = u))) := Rd.bin ho hx hy fun w => by
 simp [eqGuard, binOp, Op.equal, Op.stringOp, list_eq_iff]
theorem Rd.neqZ {P : Program} {o : Oper} {ρ : Slots} {Γ : List Chunk} {x y : Operand} {t t' : TypeId} {s u : ByteArray} (ho : o.op = .binOp .neq t x y t') (hx : ev ρ x = some (.string s)) (hy : ev ρ y = some (.string u)) : Rd P o ρ Γ (.bool (decide (s ≠ u))) := Rd.bin ho hx hy fun w => by
 simp [eqGuard, binOp, Op.equal, Op.stringOp, list_eq_iff]
end Go.Sep
namespace Go.Proofs.YtllalpnmagpkfaaGreatDoor
open Go.RowKit Go.Flow Go.Mem Go.Sep Go.In
theorem hnAdd_cons (o : List ByteArray) (h : PH) (l : List PH) : hnAdd o (h :: l) = hnAdd (if h.name ∈ o then o else o ++ [h.name]) l := rfl
theorem mem_take_succ {l : List ByteArray} {i : Nat} {x s : ByteArray} (hx : l[i]? = some x) : (decide (s ∈ l.take i) || decide (x = s)) = decide (s ∈ l.take (i + 1)) := by
 rw [take_of_get hx, Bool.eq_iff_iff]
 simp only [Bool.or_eq_true, decide_eq_true_eq, List.mem_append, List.mem_singleton]
 exact ⟨fun h => h.imp id Eq.symm, fun h => h.imp id Eq.symm⟩
def fndH (s : ByteArray) (o : Option Hd) (l : List Hd) : Option Hd := l.foldl (fun (o : Option Hd) (h : Hd) => if h.name = s then some h else o) o
def fndV (s : ByteArray) (o : Option Hd) (l : List Vs) : Option Hd := l.foldl (fun (o : Option Hd) (v : Vs) => fndH s o v.l) o
abbrev Hd0 : Hd := ⟨bE, none, 0, [], none, 0, []⟩
def hdOr (o : Option Hd) : Hd := o.getD Hd0
theorem fndH_cons (s : ByteArray) (o : Option Hd) (h : Hd) (l : List Hd) : fndH s o (h :: l) = fndH s (if h.name = s then some h else o) l := rfl
theorem fndV_cons (s : ByteArray) (o : Option Hd) (h : Vs) (l : List Vs) : fndV s o (h :: l) = fndV s (fndH s o h.l) l := rfl
theorem mdg {α β : Type} (f : α → β) {l : List α} {k : Nat} {x : α} (hx : l[k]? = some x) : (l.drop k).map f = f x :: (l.drop (k + 1)).map f := by rw [dog hx]; rfl
theorem vs_mem {c : Cm} {v : Vs} {j : Nat} (hv : c.vers[j]? = some v) : ros encH v.A v.l ∈ c.kids eR := List.mem_cons_of_mem _ (List.mem_cons_of_mem _ (List.mem_flatMap.2 ⟨v, mog hv, List.mem_cons_self ..⟩))
theorem vers_mem (c : Cm) : ros encVs c.An c.vers ∈ c.kids eR := List.mem_cons_of_mem _ (List.mem_cons_self ..)
theorem handlersN_fn (c : Cm) (hcv : c.vers.length ≤ 1000) (hvs : ∀ v ∈ c.vers, v.l.length ≤ 100) :
    Does Tryz.prog 28 [.agg #[.string c.name, .slice c.Av c.vars.length c.qv, .slice c.An c.vers.length c.qn]] [all (Cm.kids eR c)] (fun v Γ' => ∃ (A : Option Addr) (q : Nat), v = .slice A (hnames (c.vers.map Vs.pure)).length q ∧ Γ' = [rows encZ 9 1 A q (hnames (c.vers.map Vs.pure))]) := by
 refine Does.enter Tryz.func28 rfl Tryz.ntmps28 rfl (fun w0 => ?_)
 refine To.s (To.g (To.boxed rfl rfl rfl rfl rfl rfl (fun b1 => ?_)))
 refine To.a (To.n (To.t (To.s (To.g ?_))))
 refine To.a (To.n (To.t (To.s (To.s ?_))))
 refine To.one 1 rfl (ros encVs c.An c.vers) rfl (vers_mem c) (To.g (To.f fl103_2 ?_))
 refine To.lo 1 c101 ?_
 refine To.r (Rd.len rfl rfl Tryz.underlying101) ?_
 refine To.m (To.n (To.t (To.b ?_)))
 refine To.nilRow (encZ) 9 1 (To.up1 (To.up3 (To.up3 (To.loopS (fun mz ρ Γ => ∃ (Ao : Option Addr) (qo : Nat) (O : List ByteArray) (j : Nat), ρ = [(1, pv b1), (3, .slice Ao O.length qo), (12, .slice c.An c.vers.length c.qn), (13, nv c.vers.length), (14, nv j)] ∧ Γ = [box b1 [.string c.name, .slice c.Av c.vars.length c.qv, .slice c.An c.vers.length c.qn] 103, all (Cm.kids eR c), ros encVs c.An c.vers, rows encZ 9 1 Ao qo O] ∧ mz = c.vers.length - j ∧ (j ≤ c.vers.length) ∧ (hnames (c.vers.map Vs.pure) = ((c.vers.drop j).map Vs.pure).foldl hnAdd O) ∧ (O.length ≤ 100 * j)) (c.vers.length - 0) ⟨⟨none, 0, ([] : List ByteArray), 0, rfl, rfl, rfl, (Nat.zero_le _), rfl, (Nat.zero_le _)⟩, ⟨rfl, rfl, rfl, rfl, rfl, trivial⟩⟩ ?_))))
 rintro mz _ _ ⟨Ao, qo, O, j, rfl, rfl, rfl, hj, hO, hOl⟩
 refine To.s (To.g (To.lt ?_))
 refine To.n (To.t (To.s (To.cp rfl (fun c15 => ?_) (fun c15 => ?_))))
 obtain ⟨v, hv⟩ : ∃ z0, c.vers[j]? = some z0 := ⟨c.vers[j]'(by omega), gge _⟩
 refine To.sp (To.t (To.s (To.b (To.s (To.g (To.r (Rd.ixo encVs_ok (i := 2) (j := j) rfl rfl rfl s101 rfl hv) ?_))))))
 refine To.r (Rd.ld (i := 2) rfl rfl c195 rfl (gives_1 (rsg encVs_ok hv) rfl)) ?_
 refine To.a (To.n (To.t (To.s (To.g ?_))))
 refine To.m ?_
 refine To.r (Rd.len rfl rfl Tryz.underlying195) ?_
 refine To.m (To.n (To.t (To.b ?_)))
 refine To.one 1 rfl (ros encH v.A v.l) rfl (vs_mem hv) (To.up3 (To.up3 (To.up3 (To.loopS (fun mz ρ Γ => ∃ (Ao : Option Addr) (qo : Nat) (O : List ByteArray) (k : Nat), ρ = [(1, pv b1), (3, .slice Ao O.length qo), (12, .slice c.An c.vers.length c.qn), (13, nv c.vers.length), (14, nv j), (18, .slice v.A v.l.length v.q), (19, nv v.l.length), (20, nv k)] ∧ Γ = [box b1 [.string c.name, .slice c.Av c.vars.length c.qv, .slice c.An c.vers.length c.qn] 103, all (Cm.kids eR c), ros encVs c.An c.vers, ros encH v.A v.l, rows encZ 9 1 Ao qo O] ∧ mz = v.l.length - k ∧ (k ≤ v.l.length) ∧ (hnames (c.vers.map Vs.pure) = ((c.vers.drop (j + 1)).map Vs.pure).foldl hnAdd (hnAdd O ((v.l.drop k).map Hd.pure))) ∧ (O.length ≤ 100 * j + k)) (v.l.length - 0) ⟨⟨Ao, qo, O, 0, rfl, rfl, rfl, (Nat.zero_le _), (by rw [hO, mdg _ hv]; rfl), (by omega)⟩, ⟨rfl, rfl, rfl, rfl, rfl, rfl, rfl, rfl, trivial⟩⟩ ?_))))
 rintro mz _ _ ⟨Ao, qo, O, k, rfl, rfl, rfl, hk, hO1, hOl1⟩
 have hvl := hvs v (mog hv)
 refine To.s (To.g (To.lt ?_))
 refine To.n (To.t (To.s (To.cp rfl (fun c21 => ?_) (fun c21 => ?_))))
 obtain ⟨h, hh⟩ : ∃ z0, v.l[k]? = some z0 := ⟨v.l[k]'(by omega), gge _⟩
 refine To.sp (To.t (To.s (To.b (To.s (To.g (To.r (Rd.ixo encH_ok (i := 3) (j := k) rfl rfl rfl s195 rfl hh) ?_))))))
 refine To.r (Rd.lS (i := 3) rfl rfl r149 rfl (rsg encH_ok hh) (encH_ok.len _)) ?_
 refine To.alloc rfl rfl rfl rfl z149 (fun b7 => ?_)
 refine To.u (Up.storeS (i := 0) rfl rfl rfl r149 rfl rfl rfl (bta rfl)) ?_
 refine To.n (To.t (To.s (To.g (To.a (To.n (To.t (To.s (To.s (To.g ?_)))))))))
 refine To.m ?_
 refine To.r (Rd.len rfl rfl Tryz.underlying74) ?_
 refine To.m (To.n (To.t (To.b ?_)))
 refine To.up5 (To.up5 (To.up5 (To.up5 (To.up5 (To.loopS (fun mz ρ Γ => ∃ (i : Nat), ρ = [(1, pv b1), (3, .slice Ao O.length qo), (7, pv b7), (8, .bool (decide (h.name ∈ O.take i))), (12, .slice c.An c.vers.length c.qn), (13, nv c.vers.length), (14, nv j), (18, .slice v.A v.l.length v.q), (19, nv v.l.length), (20, nv k), (24, .slice Ao O.length qo), (25, nv O.length), (26, nv i)] ∧ Γ = [box b1 [.string c.name, .slice c.Av c.vars.length c.qv, .slice c.An c.vers.length c.qn] 103, all (Cm.kids eR c), ros encVs c.An c.vers, ros encH v.A v.l, rows encZ 9 1 Ao qo O, box b7 [.string h.name, .slice h.Ap h.ps.length h.qp, .slice h.Ab h.body.length h.qb] 149] ∧ mz = O.length - i ∧ (i ≤ O.length)) (O.length - 0) ⟨⟨0, rfl, rfl, rfl, (Nat.zero_le _)⟩, ⟨rfl, rfl, rfl, (congrArg (fun b => some (Value.bool b)) (decide_eq_false (fun h => by cases h)).symm), rfl, rfl, rfl, rfl, rfl, rfl, rfl, rfl, rfl, trivial⟩⟩ ?_)))))
 rintro mz _ _ ⟨i, rfl, rfl, rfl, hi⟩
 refine To.s (To.g (To.lt ?_))
 refine To.n (To.t (To.s (To.cp rfl (fun c27 => ?_) (fun c27 => ?_))))
 obtain ⟨x, hx⟩ : ∃ z0, O[i]? = some z0 := ⟨O[i]'(by omega), gge _⟩
 refine To.sp (To.t (To.s (To.b (To.s (To.g (To.r (Rd.ixr (i := 4) (j := i) rfl rfl rfl s74 rfl hx) ?_))))))
 refine To.r (Rd.ld (i := 4) rfl rfl c9 rfl (gives_1 (rwg encZ_ok hx) rfl)) ?_
 refine To.a (To.n (To.t (To.g ?_)))
 refine To.m ?_
 refine To.rdP rfl rfl rfl (Rd.move rfl rfl) (fun g31 => ?_) (fun g31 => ?_)
 refine To.k ?_
 refine To.k ?_
 refine To.k ?_
 refine To.k ?_
 refine To.pT ?_
 refine To.a (To.n (To.bn (To.t (To.g ?_))))
 refine To.r (Rd.inc rfl rfl rfl (by omega)) ?_
 refine To.m (To.n (To.t ?_))
 refine To.agS (O.length - (i + 1)) (by omega) ⟨⟨i + 1, rfl, rfl, rfl, (by omega)⟩, ⟨rfl, rfl, rfl, (congrArg (fun b => some (Value.bool b)) (by rw [← mem_take_succ hx, decide_eq_true g31]; rfl)), rfl, rfl, rfl, rfl, rfl, rfl, rfl, rfl, rfl, trivial⟩⟩
 refine To.m ?_
 refine To.f fl149_0 ?_
 refine To.lo 5 c9 ?_
 refine To.r (Rd.eqlZ rfl rfl rfl) ?_
 refine To.pF ?_
 refine To.a (To.n (To.bn (To.t (To.g ?_))))
 refine To.r (Rd.inc rfl rfl rfl (by omega)) ?_
 refine To.m (To.n (To.t ?_))
 refine To.agS (O.length - (i + 1)) (by omega) ⟨⟨i + 1, rfl, rfl, rfl, (by omega)⟩, ⟨rfl, rfl, rfl, (congrArg (fun b => some (Value.bool b)) (by rw [← mem_take_succ hx, decide_eq_false g31]; rfl)), rfl, rfl, rfl, rfl, rfl, rfl, rfl, rfl, rfl, trivial⟩⟩
 refine To.ex (To.tx (To.tx (To.bx (To.t (To.s (To.g (To.m ?_)))))))
 refine To.nt ?_
 refine To.n (To.t (To.cond rfl (fun c39 => ?_) (fun c39 => ?_)))
 have hm : ¬ (h.pure).name ∈ O := by show ¬ h.name ∈ O; have := c39; rw [List.take_of_length_le (by omega)] at this; simpa using this
 refine To.g (To.m ?_)
 refine To.f fl149_0 ?_
 refine To.lo 5 c9 ?_
 refine To.mk rfl rfl rfl (Mk.sN (us := [.string h.name]) rfl s74 rfl rfl rfl rfl rfl rfl) ?_
 rintro _ _ ⟨b43, rfl, rfl⟩
 refine To.ge rfl rfl rfl (Ge.append1 encZ_ok (i := 5) (j := 0) (el := h.name) rfl s74 rfl rfl rfl rfl rfl (by first | omega | (simp; done) | (simp; omega)) (by first | omega | (simp; done) | (simp; omega))) ?_
 rintro _ _ ⟨A44, q44, rfl, rfl⟩
 refine To.a (To.n (To.bn (To.t (To.g ?_))))
 refine To.r (Rd.inc rfl rfl rfl (by omega)) ?_
 refine To.m (To.n (To.t ?_))
 refine To.del6 (To.del0 (To.agS (v.l.length - (k + 1)) (by omega) ⟨⟨A44, q44, (O ++ [h.name]), k + 1, rfl, rfl, rfl, (by omega), (by rw [hO1, mdg _ hh, hnAdd_cons, if_neg hm]; rfl), (by rw [lap]; show O.length + 1 ≤ _; omega)⟩, ⟨rfl, rfl, rfl, rfl, rfl, rfl, rfl, rfl, trivial⟩⟩))
 have hm : (h.pure).name ∈ O := by show h.name ∈ O; have := c39; rw [List.take_of_length_le (by omega)] at this; simpa using this
 refine To.sp (To.bn (To.t (To.g (To.r (Rd.inc rfl rfl rfl (by omega)) ?_))))
 refine To.m (To.n (To.t ?_))
 refine To.del5 (To.agS (v.l.length - (k + 1)) (by omega) ⟨⟨Ao, qo, O, k + 1, rfl, rfl, rfl, (by omega), (by rw [hO1, mdg _ hh, hnAdd_cons, if_pos hm]), (by omega)⟩, ⟨rfl, rfl, rfl, rfl, rfl, rfl, rfl, rfl, trivial⟩⟩)
 refine To.ex (To.tx (To.tx (To.bx (To.bn (To.t (To.g (To.r (Rd.inc rfl rfl rfl (by omega)) ?_)))))))
 refine To.m (To.n (To.t ?_))
 refine To.del3 (To.agS (c.vers.length - (j + 1)) (by omega) ⟨⟨Ao, qo, O, j + 1, rfl, rfl, rfl, (by omega), (by rw [hO1, List.drop_eq_nil_of_le (by omega)]; rfl), (by omega)⟩, ⟨rfl, rfl, rfl, rfl, rfl, trivial⟩⟩)
 refine To.ex (To.tx (To.tx (To.bx (To.t (To.s (To.g (To.m ?_)))))))
 refine To.a (To.n (To.t (To.rt (To.del2 (To.del1 (To.del0 ?_))))))
 refine To.end1 (.inl rfl) Tryz.results28 rfl ?_
 exact ⟨Ao, qo, by rw [hO, List.drop_eq_nil_of_le (by omega)]; rfl, by rw [hO, List.drop_eq_nil_of_le (by omega)]; rfl⟩
theorem find_fn (c : Cm) (hcv : c.vers.length ≤ 1000) (hvs : ∀ v ∈ c.vers, v.l.length ≤ 100) (vn : Nat) (s : ByteArray) :
    Does Tryz.prog 43 [.agg #[.string c.name, .slice c.Av c.vars.length c.qv, .slice c.An c.vers.length c.qn], nv vn, .string s] [all (Cm.kids eR c)] (fun v Γ' => v = .tuple #[.agg (encH (hdOr (fndV s none (c.vers.take vn)))).toArray, .bool (fndV s none (c.vers.take vn)).isSome] ∧ Γ' = []) := by
 refine Does.enter Tryz.func43 rfl Tryz.ntmps43 rfl (fun w0 => ?_)
 refine To.s (To.g (To.boxed rfl rfl rfl rfl rfl rfl (fun b3 => ?_)))
 refine To.alloc rfl rfl rfl rfl z149 (fun b6 => ?_)
 refine To.a (To.n (To.t (To.s (To.g ?_))))
 refine To.alloc rfl rfl rfl rfl z149 (fun b8 => ?_)
 refine To.n (To.t (To.s (To.g (To.a (To.n (To.t (To.s (To.s (To.g ?_)))))))))
 refine To.a (To.n (To.t (To.b ?_)))
 refine To.one 3 rfl (ros encVs c.An c.vers) rfl (vers_mem c) (To.up4 (To.up3 (To.up4 (To.loopS (fun mz ρ Γ => ∃ (o : Option Hd) (j : Nat), ρ = [(1, nv vn), (2, .string s), (3, pv b3), (6, pv b6), (8, pv b8), (9, .bool o.isSome), (10, nv j)] ∧ Γ = [box b3 [.string c.name, .slice c.Av c.vars.length c.qv, .slice c.An c.vers.length c.qn] 103, box b6 [.string bE, .slice none 0 0, .slice none 0 0] 149, all (Cm.kids eR c), ros encVs c.An c.vers, box b8 [.string ((hdOr o).name), .slice ((hdOr o).Ap) ((hdOr o).ps.length) ((hdOr o).qp), .slice ((hdOr o).Ab) ((hdOr o).body.length) ((hdOr o).qb)] 149] ∧ mz = c.vers.length - j ∧ (j ≤ c.vers.length) ∧ (fndV s none (c.vers.take vn) = fndV s o ((c.vers.take vn).drop j))) (c.vers.length - 0) ⟨⟨(none : Option Hd), 0, rfl, rfl, rfl, (Nat.zero_le _), rfl⟩, ⟨rfl, rfl, rfl, rfl, rfl, rfl, rfl, trivial⟩⟩ ?_))))
 rintro mz _ _ ⟨o, j, rfl, rfl, rfl, hj, ho⟩
 refine To.s (To.s (To.g (To.meet (T := Bool) (fun t => ([(1, nv vn), (2, .string s), (3, pv b3), (6, pv b6), (8, pv b8), (9, .bool o.isSome), (10, nv j), (22, .bool t)], [box b3 [.string c.name, .slice c.Av c.vars.length c.qv, .slice c.An c.vers.length c.qn] 103, box b6 [.string bE, .slice none 0 0, .slice none 0 0] 149, all (Cm.kids eR c), ros encVs c.An c.vers, box b8 [.string ((hdOr o).name), .slice ((hdOr o).Ap) ((hdOr o).ps.length) ((hdOr o).qp), .slice ((hdOr o).Ab) ((hdOr o).body.length) ((hdOr o).qb)] 149])) (fun t => t = ((decide (((j : Nat) : Int) < ((vn : Nat) : Int))) && decide (((j : Nat) : Int) < ((c.vers.length : Nat) : Int)))) ?_ (fun t ht => ?_))))
 refine To.m ?_
 refine To.m ?_
 refine To.lt ?_
 refine To.rdP rfl rfl rfl (Rd.move rfl rfl) (fun g16 => ?_) (fun g16 => ?_)
 refine To.m ?_
 refine To.f fl103_2 ?_
 refine To.lo 0 c101 ?_
 refine To.r (Rd.len rfl rfl Tryz.underlying101) ?_
 refine To.lt ?_
 refine To.pT ?_
 refine To.n (To.t (To.he (decide (((j : Nat) : Int) < ((c.vers.length : Nat) : Int))) (by first | (simp [g16]; done) | (simp [g16]; omega)) ⟨rfl, rfl, rfl, rfl, rfl, rfl, rfl, rfl, trivial⟩ rfl))
 refine To.k ?_
 refine To.k ?_
 refine To.k ?_
 refine To.k ?_
 refine To.k ?_
 refine To.pF ?_
 refine To.n (To.t (To.he false (by first | (simp [g16]; done) | (simp [g16]; omega)) ⟨rfl, rfl, rfl, rfl, rfl, rfl, rfl, rfl, trivial⟩ rfl))
 subst ht
 dsimp only
 refine To.cond rfl (fun c22 => ?_) (fun c22 => ?_)
 simp only [Bool.and_eq_true, decide_eq_true_eq] at c22
 obtain ⟨c22, c22b⟩ := c22
 obtain ⟨v, hv⟩ : ∃ z0, c.vers[j]? = some z0 := ⟨c.vers[j]'(by omega), gge _⟩
 have hvt : (c.vers.take vn)[j]? = some v := by rw [List.getElem?_take, if_pos (by omega)]; exact hv
 refine To.sp (To.t (To.s (To.b (To.s (To.g (To.f fl103_2 ?_))))))
 refine To.lo 0 c101 ?_
 refine To.m ?_
 refine To.r (Rd.ixo encVs_ok (i := 3) (j := j) rfl rfl rfl s101 rfl hv) ?_
 refine To.r (Rd.ld (i := 3) rfl rfl c195 rfl (gives_1 (rsg encVs_ok hv) rfl)) ?_
 refine To.r (Rd.len rfl rfl Tryz.underlying195) ?_
 refine To.m (To.n (To.t (To.b ?_)))
 refine To.one 2 rfl (ros encH v.A v.l) rfl (vs_mem hv) (To.up4 (To.up4 (To.up4 (To.up4 (To.loopS (fun mz ρ Γ => ∃ (o : Option Hd) (k : Nat), ρ = [(1, nv vn), (2, .string s), (3, pv b3), (6, pv b6), (8, pv b8), (9, .bool o.isSome), (10, nv j), (29, .slice v.A v.l.length v.q), (30, nv v.l.length), (31, nv k)] ∧ Γ = [box b3 [.string c.name, .slice c.Av c.vars.length c.qv, .slice c.An c.vers.length c.qn] 103, box b6 [.string bE, .slice none 0 0, .slice none 0 0] 149, all (Cm.kids eR c), ros encVs c.An c.vers, ros encH v.A v.l, box b8 [.string ((hdOr o).name), .slice ((hdOr o).Ap) ((hdOr o).ps.length) ((hdOr o).qp), .slice ((hdOr o).Ab) ((hdOr o).body.length) ((hdOr o).qb)] 149] ∧ mz = v.l.length - k ∧ (k ≤ v.l.length) ∧ (fndV s none (c.vers.take vn) = fndV s (fndH s o (v.l.drop k)) ((c.vers.take vn).drop (j + 1)))) (v.l.length - 0) ⟨⟨o, 0, rfl, rfl, rfl, (Nat.zero_le _), (by rw [ho, dog hvt]; rfl)⟩, ⟨rfl, rfl, rfl, rfl, rfl, rfl, rfl, rfl, rfl, rfl, trivial⟩⟩ ?_)))))
 rintro mz _ _ ⟨o, k, rfl, rfl, rfl, hk, ho1⟩
 have hvl := hvs v (mog hv)
 refine To.s (To.g (To.lt ?_))
 refine To.n (To.t (To.s (To.cp rfl (fun c32 => ?_) (fun c32 => ?_))))
 obtain ⟨h, hh⟩ : ∃ z0, v.l[k]? = some z0 := ⟨v.l[k]'(by omega), gge _⟩
 refine To.sp (To.t (To.s (To.b (To.s (To.g (To.r (Rd.ixo encH_ok (i := 4) (j := k) rfl rfl rfl s195 rfl hh) ?_))))))
 refine To.r (Rd.lS (i := 4) rfl rfl r149 rfl (rsg encH_ok hh) (encH_ok.len _)) ?_
 refine To.alloc rfl rfl rfl rfl z149 (fun b12 => ?_)
 refine To.u (Up.storeS (i := 0) rfl rfl rfl r149 rfl rfl rfl (bta rfl)) ?_
 refine To.n (To.t (To.s (To.g (To.f fl149_0 ?_))))
 refine To.lo 0 c9 ?_
 refine To.m ?_
 refine To.r (Rd.eqlZ rfl rfl rfl) ?_
 refine To.n (To.t (To.cp rfl (fun c38 => ?_) (fun c38 => ?_)))
 refine To.g (To.r (Rd.lS (i := 0) rfl rfl r149 rfl box_whole rfl) ?_)
 refine To.u (Up.storeS (i := 6) rfl rfl rfl r149 rfl rfl rfl (bta rfl)) ?_
 refine To.a (To.n (To.bn (To.t (To.g ?_))))
 refine To.r (Rd.inc rfl rfl rfl (by omega)) ?_
 refine To.m (To.n (To.t ?_))
 refine To.del0 (To.agS (v.l.length - (k + 1)) (by omega) ⟨⟨(some h), k + 1, rfl, rfl, rfl, (by omega), (by rw [ho1, dog hh, fndH_cons, if_pos c38])⟩, ⟨rfl, rfl, rfl, rfl, rfl, rfl, rfl, rfl, rfl, rfl, trivial⟩⟩)
 refine To.sp (To.bn (To.t (To.g (To.r (Rd.inc rfl rfl rfl (by omega)) ?_))))
 refine To.m (To.n (To.t ?_))
 refine To.del0 (To.agS (v.l.length - (k + 1)) (by omega) ⟨⟨o, k + 1, rfl, rfl, rfl, (by omega), (by rw [ho1, dog hh, fndH_cons, if_neg c38])⟩, ⟨rfl, rfl, rfl, rfl, rfl, rfl, rfl, rfl, rfl, rfl, trivial⟩⟩)
 refine To.ex (To.tx (To.tx (To.bx (To.bn (To.t (To.g (To.m ?_)))))))
 refine To.r (Rd.inc rfl rfl rfl (by omega)) ?_
 refine To.a (To.n (To.t ?_))
 refine To.del4 (To.agS (c.vers.length - (j + 1)) (by omega) ⟨⟨o, j + 1, rfl, rfl, rfl, (by omega), (by rw [ho1, List.drop_eq_nil_of_le (by omega)]; rfl)⟩, ⟨rfl, rfl, rfl, rfl, rfl, rfl, rfl, trivial⟩⟩)
 have hdr : (c.vers.take vn).drop j = [] := by
  refine List.drop_eq_nil_of_le ?_
  rw [List.length_take]
  simp only [Bool.and_eq_false_iff, decide_eq_false_iff_not] at c22; omega
 refine To.ex (To.tx (To.tx (To.bx (To.t (To.s (To.g (To.r (Rd.lS (i := 4) rfl rfl r149 rfl box_whole rfl) ?_)))))))
 refine To.m ?_
 refine To.u (Up.storeS (i := 1) rfl rfl rfl r149 rfl rfl rfl (bta rfl)) ?_
 refine To.a (To.n (To.t (To.rt ?_)))
 refine To.endCT [] rfl (.inl rfl) Tryz.results43 rfl (i := 1) rfl r149 rfl rfl ?_
 have he : fndV s none (c.vers.take vn) = o := by rw [ho, hdr]; rfl
 rw [he]
 exact ⟨rfl, rfl⟩
end Go.Proofs.YtllalpnmagpkfaaGreatDoor
namespace Go.Sep
open Go.RowKit Go.Flow Go.Mem
section
variable {α : Type} {enc : α → List Value} {size : Nat}
theorem over_fld (E : Enc enc size) {f : Nat} {u : Value} (hf : f < size) {z : α} : ∀ (X : List α) (i : Nat) (y : α), X[i]? = some y → over (enc y) f [u] = enc z → over (X.flatMap enc) (i * size + f) [u] = (X.set i z).flatMap enc
 | [], i, y, h, _ => by simp at h
 | x :: X, 0, y, h, hz => by
   obtain rfl : x = y := by simpa using h
   unfold over at hz ⊢
   rw [Nat.zero_mul, Nat.zero_add, List.flatMap_cons, List.set_cons_zero, List.flatMap_cons, ← hz, List.take_append_of_le_length (by rw [E.len]; omega), List.drop_append_of_le_length (by rw [E.len]; show f + 1 ≤ size; omega)]
   simp
 | x :: X, i + 1, y, h, hz => by
   have ih := over_fld E hf X i y (by simpa using h) hz
   unfold over at ih ⊢
   have e1 : (i + 1) * size + f = size + (i * size + f) := by rw [Nat.add_mul]; omega
   rw [List.set_cons_succ, List.flatMap_cons, List.flatMap_cons, e1, ← ih]
   rw [List.take_append, List.drop_append, List.take_of_length_le (by rw [E.len]; omega), List.drop_of_length_le (by rw [E.len]; omega), E.len, show size + (i * size + f) - size = i * size + f by omega, show size + (i * size + f) + [u].length - size = i * size + f + [u].length by omega]
   simp
theorem rows_takesF (E : Enc enc size) {e : TypeId} {A : Option Addr} {cap i f : Nat} {X : List α} {y z : α} {u : Value} (hi : X[i]? = some y) (hf : f < size) (hz : over (enc y) f [u] = enc z) : (rows enc e size A cap X).takes (blk A) (ofs A + i * size + f) [u] (rows enc e size A cap (X.set i z)) := by
 have hl : i < X.length := (List.getElem?_eq_some_iff.1 hi).1
 have h := row_takes (e := e) (size := size) (A := A) (n := X.length) (cap := cap) (off := i * size + f) (xs := X.flatMap enc) (us := [u]) (by
  have : (i + 1) * size ≤ X.length * size := Nat.mul_le_mul_right _ hl
  rw [Nat.add_mul] at this; show i * size + f + 1 ≤ _; omega) (by simp) (over_fld E hf X i y hi hz)
 have e1 : rows enc e size A cap (X.set i z) = row e size A X.length cap ((X.set i z).flatMap enc) := by simp [rows]
 rw [e1, Nat.add_assoc]; exact h
theorem get_mid' {α : Type} (X Y : List α) (a : α) : ((X ++ [a]) ++ Y)[X.length]? = some a := by
 rw [List.append_assoc, List.getElem?_append_right (Nat.le_refl _)]; simp
theorem set_mid' {α : Type} (X Y : List α) (a b : α) : ((X ++ [a]) ++ Y).set X.length b = (X ++ [b]) ++ Y := by
 rw [List.append_assoc, List.append_assoc, List.set_append_right _ _ (Nat.le_refl _), Nat.sub_self]; rfl
end
end Go.Sep
namespace Go.Proofs.YtllalpnmagpkfaaGreatDoor
open Go.RowKit Go.Flow Go.Mem Go.Sep Go.In
structure BndF (F : Fl) : Prop where
 flags : F.flags.length ≤ 100
 comps : F.comps.length ≤ 100
 each : ∀ c ∈ F.comps, c.vars.length ≤ 1000 ∧ c.vers.length ≤ 1000 ∧ ∀ v ∈ c.vers, v.l.length ≤ 100
theorem fl_comps (F : Fl) : ros encC F.Ac F.comps ∈ F.kids eR := List.mem_cons_of_mem _ (List.mem_cons_of_mem _ (List.mem_cons_self ..))
theorem fl_flags (F : Fl) : ros encFg F.Af F.flags ∈ F.kids eR := List.mem_cons_self ..
theorem fl_cm {F : Fl} {i : Nat} {c : Cm} (hc : F.comps[i]? = some c) {x : Chunk} (h : x ∈ c.kids eR) : x ∈ F.kids eR := List.mem_cons_of_mem _ (List.mem_cons_of_mem _ (List.mem_cons_of_mem _ (List.mem_flatMap.2 ⟨c, mog hc, h⟩)))
theorem cm_vars (c : Cm) : ros encVr c.Av c.vars ∈ c.kids eR := List.mem_cons_self ..
theorem slF_cons (s : ByteArray) (tab : Bool) (k : Nat) (v : Vr) (r : List Vr) : slF s tab k (v :: r) = if decide (v.ty = 3) ≠ tab then slF s tab k r else if v.name = s then some k else slF s tab (k + 1) r := rfl
theorem ixF_cons (s : ByteArray) (k : Nat) (x : ByteArray) (r : List ByteArray) : ixF s k (x :: r) = if x = s then some k else ixF s (k + 1) r := rfl
theorem eqI3 (n : Nat) : decide (((n : Nat) : Int) = 3) = decide (n = 3) := by rw [Bool.eq_iff_iff, decide_eq_true_eq, decide_eq_true_eq]; omega
theorem put_fn (F : Fl) (hB : BndF F) (ci : Nat) (c : Cm) (hc : F.comps[ci]? = some c) (Ap : Option Addr) (qp : Nat) (ps : List ByteArray) (hps : ps.length ≤ 100) (mb : Nat) (A : Option Addr) (q : Nat) (l : List Ins) (op : Nat) (x y n : Int) (hl : (l ++ [(⟨op, x, y, n⟩ : Ins)]).length ≤ 1000000) :
    Does Tryz.prog 165 [pv mb, nv op, .int .i64 x, .int .i64 y, .int .i64 n] [box mb [.string F.name, .slice F.Af F.flags.length F.qf, .slice F.Al F.links.length F.ql, .slice F.Ac F.comps.length F.qc, nv ci, .slice Ap ps.length qp, .slice A l.length q] 154, rows Ins.rc 54 4 A q l] (fun v Γ' => ∃ (A' : Option Addr) (q' : Nat), Γ' = [box mb [.string F.name, .slice F.Af F.flags.length F.qf, .slice F.Al F.links.length F.ql, .slice F.Ac F.comps.length F.qc, nv ci, .slice Ap ps.length qp, .slice A' ((l ++ [(⟨op, x, y, n⟩ : Ins)]).length) q'] 154, rows Ins.rc 54 4 A' q' (l ++ [(⟨op, x, y, n⟩ : Ins)])]) := by
 rw [lap] at hl
 have hl2 : l.length + 1 ≤ 1000000 := hl
 refine Does.enter Tryz.func165 rfl Tryz.ntmps165 rfl (fun w0 => ?_)
 refine To.g (To.m ?_)
 refine To.m ?_
 refine To.nc ?_
 refine To.f fl154_3 ?_
 refine To.lo 0 c35 ?_
 refine To.m ?_
 refine To.m ?_
 refine To.m ?_
 refine To.m ?_
 refine To.r (Rd.build (vs := [(0, nv op), (1, .int .i64 x), (2, .int .i64 y), (3, .int .i64 n)]) (cells := [nv op, .int .i64 x, .int .i64 y, .int .i64 n]) rfl rfl rfl (by kernel_rfl)) ?_
 refine To.mk rfl rfl rfl (Mk.sN (us := [nv op, .int .i64 x, .int .i64 y, .int .i64 n]) rfl s35 rfl rfl rfl rfl rfl rfl) ?_
 rintro _ _ ⟨b20, rfl, rfl⟩
 refine To.ge rfl rfl rfl (Ge.append1 encRi (i := 2) (j := 0) (el := (⟨op, x, y, n⟩ : Ins)) rfl s35 rfl rfl rfl rfl rfl (by first | omega | (simp; done) | (simp; omega)) (by first | omega | (simp; done) | (simp; omega))) ?_
 rintro _ _ ⟨A21, q21, rfl, rfl⟩
 refine To.nc ?_
 refine To.f fl154_3 ?_
 refine To.u (Up.store (i := 1) rfl rfl rfl c35 rfl rfl (bt1 rfl)) ?_
 refine To.n (To.only [1, 1] rfl (To.end0 (.inr rfl) Tryz.results165 ?_))
 exact ⟨_, _, rfl⟩
theorem slot_fn (F : Fl) (hB : BndF F) (ci : Nat) (c : Cm) (hc : F.comps[ci]? = some c) (Ap : Option Addr) (qp : Nat) (ps : List ByteArray) (hps : ps.length ≤ 100) (mb : Nat) (A : Option Addr) (q : Nat) (l : List Ins) (s : ByteArray) (tab : Bool) :
    Does Tryz.prog 167 [pv mb, .string s, .bool tab] [box mb [.string F.name, .slice F.Af F.flags.length F.qf, .slice F.Al F.links.length F.ql, .slice F.Ac F.comps.length F.qc, nv ci, .slice Ap ps.length qp, .slice A l.length q] 154, all (Fl.kids eR F)] (fun v Γ' => v = .int .i64 (slI c.vars s tab) ∧ Γ' = [box mb [.string F.name, .slice F.Af F.flags.length F.qf, .slice F.Al F.links.length F.ql, .slice F.Ac F.comps.length F.qc, nv ci, .slice Ap ps.length qp, .slice A l.length q] 154, all (Fl.kids eR F)]) := by
 have hci : ci < F.comps.length := (List.getElem?_eq_some_iff.1 hc).1
 have hcm := hB.comps
 have hbig := (hB.each c (mog hc)).1
 refine Does.enter Tryz.func167 rfl Tryz.ntmps167 rfl (fun w0 => ?_)
 refine To.s (To.g (To.a (To.n (To.t (To.s (To.g ?_))))))
 refine To.a (To.n (To.t (To.s (To.s ?_))))
 refine To.one 1 rfl (ros encVr c.Av c.vars) rfl (fl_cm hc (cm_vars c)) (To.one 2 rfl (ros encC F.Ac F.comps) rfl (fl_comps F) (To.flow [] [⟨0, [], 0⟩, ⟨1, [], 0⟩, ⟨2, [], 0⟩, ⟨3, [], 0⟩, ⟨5, [], 0⟩, ⟨6, [], 0⟩, ⟨7, [], 0⟩, ⟨13, [], 0⟩, ⟨4, [], 1⟩, ⟨8, [], 1⟩, ⟨9, [], 1⟩, ⟨10, [], 0⟩, ⟨11, [], 1⟩, ⟨12, [], 0⟩] mixed (by kernel_rfl) (ocn _) (W.mo ?_)))
 refine W.nc ?_
 refine W.fi fl154_0 ?_
 refine W.fi fl32_3 ?_
 refine W.mo ?_
 refine W.nc ?_
 refine W.fi fl154_1 ?_
 refine W.mo ?_
 refine W.lo 2 c30 ?_
 refine W.lo 2 c3 ?_
 refine W.r rfl (Rd.ixo encC_ok (i := 0) (j := ci) rfl rfl rfl s30 rfl hc) ?_
 refine W.fi fl103_1 ?_
 refine W.r rfl (Rd.ld (i := 0) rfl rfl c100 rfl (gvt (rsg encC_ok hc) rfl)) ?_
 refine W.f rfl (Rd.len rfl rfl Tryz.underlying100) ?_
 refine W.fin ?_
 refine To.t (To.b (To.del0 (To.up2 (To.up2 (To.loopS (fun mz ρ Γ => ∃ (j : Nat) (k : Nat), ρ = [(0, pv mb), (1, .string s), (2, .bool tab), (7, nv k), (21, .slice c.Av c.vars.length c.qv), (22, nv c.vars.length), (23, nv j)] ∧ Γ = [box mb [.string F.name, .slice F.Af F.flags.length F.qf, .slice F.Al F.links.length F.ql, .slice F.Ac F.comps.length F.qc, nv ci, .slice Ap ps.length qp, .slice A l.length q] 154, all (Fl.kids eR F), ros encVr c.Av c.vars] ∧ mz = c.vars.length - j ∧ (j ≤ c.vars.length) ∧ (k ≤ j) ∧ (slF s tab 0 c.vars = slF s tab k (c.vars.drop j))) (c.vars.length - 0) ⟨⟨0, 0, rfl, rfl, rfl, (Nat.zero_le _), (Nat.le_refl _), rfl⟩, ⟨rfl, rfl, rfl, rfl, rfl, rfl, rfl, trivial⟩⟩ ?_)))))
 rintro mz _ _ ⟨j, k, rfl, rfl, rfl, hj, hkj, hS⟩
 refine To.s (To.g (To.lt ?_))
 refine To.n (To.t (To.s (To.cp rfl (fun c24 => ?_) (fun c24 => ?_))))
 obtain ⟨v, hv⟩ : ∃ z0, c.vars[j]? = some z0 := ⟨c.vars[j]'(by omega), gge _⟩
 refine To.sp (To.t (To.s (To.b (To.s (To.g (To.r (Rd.ixo encVr_ok (i := 2) (j := j) rfl rfl rfl s100 rfl hv) ?_))))))
 refine To.r (Rd.lS (i := 2) rfl rfl r194 rfl (rsg encVr_ok hv) (encVr_ok.len _)) ?_
 refine To.alloc rfl rfl rfl rfl z194 (fun b9 => ?_)
 refine To.u (Up.storeS (i := 0) rfl rfl rfl r194 rfl rfl rfl (bta rfl)) ?_
 refine To.n (To.t (To.s (To.s (To.g (To.f fl194_1 ?_)))))
 refine To.lo 0 c3 ?_
 refine To.eq ?_
 refine To.m ?_
 refine To.r (Rd.neqB rfl Tryz.underlying4 rfl rfl) ?_
 refine To.n (To.t (To.cond rfl (fun c31 => ?_) (fun c31 => ?_)))
 rw [eqI3] at c31
 have h31 : decide (v.ty = 3) ≠ tab := by simpa using c31
 refine To.ex (To.tx (To.bx (To.t (To.g (To.r (Rd.inc rfl rfl rfl (by omega)) ?_)))))
 refine To.m (To.n (To.t ?_))
 refine To.del0 (To.agS (c.vars.length - (j + 1)) (by omega) ⟨⟨j + 1, k, rfl, rfl, rfl, (by omega), (by omega), (by rw [hS, dog hv, slF_cons, if_pos h31])⟩, ⟨rfl, rfl, rfl, rfl, rfl, rfl, rfl, trivial⟩⟩)
 rw [eqI3] at c31
 have h31 : ¬ decide (v.ty = 3) ≠ tab := by simpa using c31
 refine To.sp (To.t (To.s (To.s (To.g (To.f fl194_0 ?_)))))
 refine To.lo 0 c9 ?_
 refine To.m ?_
 refine To.r (Rd.eqlZ rfl rfl rfl) ?_
 refine To.n (To.t (To.cp rfl (fun c35 => ?_) (fun c35 => ?_)))
 refine To.s (To.g (To.m ?_))
 refine To.a (To.n (To.t (To.rt (To.tr (To.br (To.tr (To.tr (To.br (To.tr (To.del3 (To.del0 ?_)))))))))))
 refine To.end1 (.inl rfl) Tryz.results167 rfl ?_
 have hr : slI c.vars s tab = ((k : Nat) : Int) := by unfold slI; rw [hS, dog hv, slF_cons, if_neg h31, if_pos c35]; rfl
 rw [hr]; exact ⟨rfl, rfl⟩
 refine To.sp (To.t (To.g (To.m ?_)))
 refine To.r (Rd.inc rfl rfl rfl (by omega)) ?_
 refine To.a (To.n (To.bn (To.t (To.g ?_))))
 refine To.r (Rd.inc rfl rfl rfl (by omega)) ?_
 refine To.m (To.n (To.t ?_))
 refine To.del0 (To.agS (c.vars.length - (j + 1)) (by omega) ⟨⟨j + 1, k + 1, rfl, rfl, rfl, (by omega), (by omega), (by rw [hS, dog hv, slF_cons, if_neg h31, if_neg c35])⟩, ⟨rfl, rfl, rfl, rfl, rfl, rfl, rfl, trivial⟩⟩)
 refine To.ex (To.tx (To.tx (To.bx (To.t (To.s (To.g (To.a (To.n (To.t (To.rt (To.del2 ?_)))))))))))
 refine To.end1 (.inl rfl) Tryz.results167 rfl ?_
 have hr : slI c.vars s tab = -1 := by unfold slI; rw [hS, List.drop_eq_nil_of_le (by omega)]; rfl
 rw [hr]; exact ⟨rfl, rfl⟩
theorem name_fn (F : Fl) (hB : BndF F) (ci : Nat) (c : Cm) (hc : F.comps[ci]? = some c) (Ap : Option Addr) (qp : Nat) (ps : List ByteArray) (hps : ps.length ≤ 100) (mb : Nat) (A : Option Addr) (q : Nat) (l : List Ins) (s : ByteArray) (hl : (l ++ [(ccR F.pure c.name c.vars ps).pn s]).length ≤ 1000000) :
    Does Tryz.prog 230 [pv mb, .string s] [box mb [.string F.name, .slice F.Af F.flags.length F.qf, .slice F.Al F.links.length F.ql, .slice F.Ac F.comps.length F.qc, nv ci, .slice Ap ps.length qp, .slice A l.length q] 154, rows Ins.rc 54 4 A q l, all (Fl.kids eR F), ros encZ Ap ps] (fun v Γ' => ∃ (A' : Option Addr) (q' : Nat), Γ' = [box mb [.string F.name, .slice F.Af F.flags.length F.qf, .slice F.Al F.links.length F.ql, .slice F.Ac F.comps.length F.qc, nv ci, .slice Ap ps.length qp, .slice A' ((l ++ [(ccR F.pure c.name c.vars ps).pn s]).length) q'] 154, rows Ins.rc 54 4 A' q' (l ++ [(ccR F.pure c.name c.vars ps).pn s]), all (Fl.kids eR F), ros encZ Ap ps]) := by
 rw [lap] at hl
 have hl2 : l.length + 1 ≤ 1000000 := hl
 have hfl := hB.flags
 refine Does.enter Tryz.func230 rfl Tryz.ntmps230 rfl (fun w0 => ?_)
 refine To.s (To.s (To.g (To.m ?_)))
 refine To.nc ?_
 refine To.f fl154_2 ?_
 refine To.lo 0 c74 ?_
 refine To.r (Rd.len rfl rfl Tryz.underlying74) ?_
 refine To.m (To.n (To.t (To.b ?_)))
 refine To.loopS (fun mz ρ Γ => ∃ (j : Nat), ρ = [(0, pv mb), (1, .string s), (11, .slice Ap ps.length qp), (12, nv ps.length), (13, nv j)] ∧ Γ = [box mb [.string F.name, .slice F.Af F.flags.length F.qf, .slice F.Al F.links.length F.ql, .slice F.Ac F.comps.length F.qc, nv ci, .slice Ap ps.length qp, .slice A l.length q] 154, rows Ins.rc 54 4 A q l, all (Fl.kids eR F), ros encZ Ap ps] ∧ mz = ps.length - j ∧ (j ≤ ps.length) ∧ (ixF s 0 ps = ixF s j (ps.drop j))) (ps.length - 0) ⟨⟨0, rfl, rfl, rfl, (Nat.zero_le _), rfl⟩, ⟨rfl, rfl, rfl, rfl, rfl, trivial⟩⟩ ?_
 rintro mz _ _ ⟨j, rfl, rfl, rfl, hj, hS⟩
 refine To.s (To.g (To.lt ?_))
 refine To.n (To.t (To.s (To.cp rfl (fun c14 => ?_) (fun c14 => ?_))))
 obtain ⟨x, hx⟩ : ∃ z0, ps[j]? = some z0 := ⟨ps[j]'(by omega), gge _⟩
 refine To.sp (To.t (To.s (To.b (To.s (To.g (To.m ?_))))))
 refine To.r (Rd.ixo encZ_ok (i := 3) (j := j) rfl rfl rfl s74 rfl hx) ?_
 refine To.r (Rd.ld (i := 3) rfl rfl c9 rfl (gives_1 (rsg encZ_ok hx) rfl)) ?_
 refine To.a ?_
 refine To.a (To.n (To.t (To.s (To.g ?_))))
 refine To.m ?_
 refine To.m ?_
 refine To.r (Rd.eqlZ rfl rfl rfl) ?_
 refine To.n (To.t (To.cp rfl (fun c20 => ?_) (fun c20 => ?_)))
 refine To.s (To.g (To.m ?_))
 refine To.m ?_
 refine To.cl [0, 0] rfl rfl rfl (Ent.fn rfl rfl ca165) rfl (put_fn F hB ci c hc Ap qp ps hps mb A q l 3 ((j : Nat) : Int) 0 0   (by simp only [lap, lc1, ln0]; omega)) ?_
 rintro _ _ ⟨An, qn, rfl⟩
 refine To.n (To.t (To.rt (To.br (To.tr (To.tr (To.br (To.tr (To.end0 (.inl rfl) Tryz.results230 ?_))))))))
 have hp : (ccR F.pure c.name c.vars ps).pn s = ⟨3, ((j : Nat) : Int), 0, 0⟩ := by
  have h0 : ixF s 0 ps = some j := by rw [hS, dog hx, ixF_cons, if_pos c20]
  show (match ixF s 0 ps with | some k => _ | none => _) = _
  rw [h0]
 rw [hp]; exact ⟨_, _, rfl⟩
 refine To.sp (To.bn (To.t (To.g (To.r (Rd.inc rfl rfl rfl (by omega)) ?_))))
 refine To.m (To.n (To.t ?_))
 refine To.agS (ps.length - (j + 1)) (by omega) ⟨⟨j + 1, rfl, rfl, rfl, (by omega), (by rw [hS, dog hx, ixF_cons, if_neg c20])⟩, ⟨rfl, rfl, rfl, rfl, rfl, trivial⟩⟩
 refine To.ex (To.tx (To.tx (To.bx (To.t (To.s (To.s (To.one 2 rfl (ros encFg F.Af F.flags) rfl (fl_flags F) (To.g (To.m ?_)))))))))
 refine To.nc ?_
 refine To.f fl154_0 ?_
 refine To.f fl32_1 ?_
 refine To.lo 1 c28 ?_
 refine To.r (Rd.len rfl rfl Tryz.underlying28) ?_
 refine To.m (To.n (To.t (To.b ?_)))
 have hn0 : ixF s 0 ps = none := by rw [hS, List.drop_eq_nil_of_le (by omega)]; rfl
 refine To.up4 (To.up4 (To.up4 (To.up4 (To.loopS (fun mz ρ Γ => ∃ (j : Nat), ρ = [(0, pv mb), (1, .string s), (29, .slice F.Af F.flags.length F.qf), (30, nv F.flags.length), (31, nv j)] ∧ Γ = [box mb [.string F.name, .slice F.Af F.flags.length F.qf, .slice F.Al F.links.length F.ql, .slice F.Ac F.comps.length F.qc, nv ci, .slice Ap ps.length qp, .slice A l.length q] 154, rows Ins.rc 54 4 A q l, all (Fl.kids eR F), ros encZ Ap ps, ros encFg F.Af F.flags] ∧ mz = F.flags.length - j ∧ (j ≤ F.flags.length) ∧ (ixF s 0 (F.flags.map Fg.name) = ixF s j ((F.flags.drop j).map Fg.name))) (F.flags.length - 0) ⟨⟨0, rfl, rfl, rfl, (Nat.zero_le _), rfl⟩, ⟨rfl, rfl, rfl, rfl, rfl, trivial⟩⟩ ?_))))
 rintro mz _ _ ⟨j, rfl, rfl, rfl, hj, hT⟩
 refine To.s (To.g (To.lt ?_))
 refine To.n (To.t (To.s (To.cp rfl (fun c32 => ?_) (fun c32 => ?_))))
 obtain ⟨x, hx⟩ : ∃ z0, F.flags[j]? = some z0 := ⟨F.flags[j]'(by omega), gge _⟩
 refine To.sp (To.t (To.s (To.b (To.s (To.g (To.m ?_))))))
 refine To.r (Rd.ixo encFg_ok (i := 4) (j := j) rfl rfl rfl s28 rfl hx) ?_
 refine To.r (Rd.lS (i := 4) rfl rfl r190 rfl (rsg encFg_ok hx) (encFg_ok.len _)) ?_
 refine To.alloc rfl rfl rfl rfl z190 (fun b7 => ?_)
 refine To.a ?_
 refine To.u (Up.storeS (i := 0) rfl rfl rfl r190 rfl rfl rfl (bta rfl)) ?_
 refine To.n (To.t (To.s (To.g (To.f fl190_0 ?_))))
 refine To.lo 0 c9 ?_
 refine To.m ?_
 refine To.r (Rd.eqlZ rfl rfl rfl) ?_
 refine To.n (To.t (To.cp rfl (fun c39 => ?_) (fun c39 => ?_)))
 refine To.s (To.g (To.m ?_))
 refine To.m ?_
 refine To.cl [1, 1] rfl rfl rfl (Ent.fn rfl rfl ca165) rfl (put_fn F hB ci c hc Ap qp ps hps mb A q l 4 ((j : Nat) : Int) 0 0   (by simp only [lap, lc1, ln0]; omega)) ?_
 rintro _ _ ⟨An_2, qn_2, rfl⟩
 refine To.n (To.t (To.rt (To.br (To.tr (To.tr (To.br (To.tr (To.del5 (To.del2 (To.end0 (.inl rfl) Tryz.results230 ?_))))))))))
 have hp : (ccR F.pure c.name c.vars ps).pn s = ⟨4, ((j : Nat) : Int), 0, 0⟩ := by
  have h1 : ixF s 0 (F.pure.flags.map Fg.name) = some j := by show ixF s 0 (F.flags.map Fg.name) = _; rw [hT, mdg Fg.name hx, ixF_cons, if_pos c39]
  show (match ixF s 0 ps with | some k => _ | none => match ixF s 0 (F.pure.flags.map Fg.name) with | some k => _ | none => _) = _
  rw [hn0, h1]
 rw [hp]; exact ⟨_, _, rfl⟩
 refine To.sp (To.bn (To.t (To.g (To.r (Rd.inc rfl rfl rfl (by omega)) ?_))))
 refine To.m (To.n (To.t ?_))
 refine To.del0 (To.agS (F.flags.length - (j + 1)) (by omega) ⟨⟨j + 1, rfl, rfl, rfl, (by omega), (by rw [hT, mdg Fg.name hx, ixF_cons, if_neg c39])⟩, ⟨rfl, rfl, rfl, rfl, rfl, trivial⟩⟩)
 refine To.ex (To.tx (To.tx (To.bx (To.t (To.g (To.m ?_))))))
 refine To.m ?_
 refine To.m ?_
 refine To.cl [0, 1] rfl rfl rfl (Ent.fn rfl rfl ca167) rfl (slot_fn F hB ci c hc Ap qp ps hps mb A q l s false) ?_
 rintro _ _ ⟨rfl, rfl⟩
 refine To.cl [0, 1] rfl rfl rfl (Ent.fn rfl rfl ca165) rfl (put_fn F hB ci c hc Ap qp ps hps mb A q l 2 (slI c.vars s false) 0 0   (by simp only [lap, lc1, ln0]; omega)) ?_
 rintro _ _ ⟨An_3, qn_3, rfl⟩
 refine To.n (To.del4 (To.end0 (.inr rfl) Tryz.results230 ?_))
 have hp : (ccR F.pure c.name c.vars ps).pn s = ⟨2, slI c.vars s false, 0, 0⟩ := by
  have h1 : ixF s 0 (F.pure.flags.map Fg.name) = none := by show ixF s 0 (F.flags.map Fg.name) = _; rw [hT, List.drop_eq_nil_of_le (by omega)]; rfl
  show (match ixF s 0 ps with | some k => _ | none => match ixF s 0 (F.pure.flags.map Fg.name) with | some k => _ | none => _) = _
  rw [hn0, h1]
 rw [hp]; exact ⟨_, _, rfl⟩
end Go.Proofs.YtllalpnmagpkfaaGreatDoor
