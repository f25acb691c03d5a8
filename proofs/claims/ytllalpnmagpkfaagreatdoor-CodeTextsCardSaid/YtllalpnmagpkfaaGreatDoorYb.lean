/- Merged out of Y3, Y4, Y5, Y6, Y7, Y8, Y9 by merge.py. Own text. -/
import Derived.Test.YtllalpnmagpkfaaGreatDoorYa
import Derived.Test.YtllalpnmagpkfaaGreatDoorGb
set_option linter.unusedVariables false
set_option linter.unusedSimpArgs false
set_option maxHeartbeats 2000000
set_option maxRecDepth 100000
namespace Go.Proofs.YtllalpnmagpkfaaGreatDoor
open Go.RowKit Go.Flow Go.Mem Go.Sep Go.In
theorem bs22 : In.ByteSl Tryz.prog 22 5 := In.byteSl_ok (by kernel_rfl)
theorem inf173 : ∃ j, Tryz.prog.info? 173 = some j ∧ j.size ≠ 0 := by
 have h : (Tryz.prog.info? 173).map (fun j => Nat.blt 0 j.size) = some true := by kernel_rfl
 obtain ⟨j, h1, h2⟩ := Option.map_eq_some_iff.1 h
 exact ⟨j, h1, fun e => by rw [e] at h2; cases h2⟩
theorem cc0_fn (b : Nat) (A : Option Addr) (n q : Nat) :
    Does Tryz.prog 106 [pv b] [box b [.pointer none, .slice A n q] 173] (fun v Γ' => v = .tuple #[] ∧ Γ' = [box b [pv b, .slice A n q] 173]) := by
 obtain ⟨j0, hj0, hz0⟩ := inf173
 refine Does.enter Tryz.func106 rfl Tryz.ntmps106 rfl (fun w0 => ?_)
 refine To.s (To.g (To.m ?_))
 refine To.nc ?_
 refine To.f fl173_0 ?_
 refine To.lo 0 c171 ?_
 refine To.r (Rd.eqlNil rfl Tryz.underlying171 rfl rfl) ?_
 refine To.n (To.t ?_)
 refine To.condT rfl ?_
 refine To.g (To.m ?_)
 refine To.m ?_
 refine To.r (Rd.toU (i := 0) rfl Tryz.underlying171 Tryz.underlying340 hj0 hz0 rfl rfl (by simp)) ?_
 refine To.r (Rd.same rfl (same_ok 170 rfl) rfl) ?_
 refine To.r (Rd.fromU (i := 0) rfl Tryz.underlying340 Tryz.underlying171 hj0 rfl rfl (by kernel_rfl)) ?_
 refine To.nc ?_
 refine To.f fl173_0 ?_
 refine To.u (Up.store (i := 0) rfl rfl rfl c171 rfl rfl (bt1 rfl)) ?_
 refine To.n ?_
 refine To.end0 (.inr rfl) Tryz.results106 ?_
 exact ⟨rfl, rfl⟩
theorem cc1_fn (b : Nat) (A : Option Addr) (n q : Nat) :
    Does Tryz.prog 106 [pv b] [box b [pv b, .slice A n q] 173] (fun v Γ' => v = .tuple #[] ∧ Γ' = [box b [pv b, .slice A n q] 173]) := by
 obtain ⟨j0, hj0, hz0⟩ := inf173
 refine Does.enter Tryz.func106 rfl Tryz.ntmps106 rfl (fun w0 => ?_)
 refine To.s (To.g (To.m ?_))
 refine To.nc ?_
 refine To.f fl173_0 ?_
 refine To.lo 0 c171 ?_
 refine To.r (Rd.eqlNil rfl Tryz.underlying171 rfl rfl) ?_
 refine To.n (To.t ?_)
 refine To.condF rfl ?_
 refine To.s (To.g (To.m ?_))
 refine To.nc ?_
 refine To.f fl173_0 ?_
 refine To.lo 0 c171 ?_
 refine To.m ?_
 refine To.r (Rd.eqlSelf rfl Tryz.underlying171 hj0 rfl rfl) ?_
 refine To.n (To.t ?_)
 refine To.condF rfl ?_
 refine To.sp ?_
 refine To.end0 (.inr rfl) Tryz.results106 ?_
 exact ⟨rfl, rfl⟩
theorem cc_fn (b : Nat) (ad : Value) (had : ad = .pointer none ∨ ad = pv b) (A : Option Addr) (n q : Nat) : Does Tryz.prog 106 [pv b] [box b [ad, .slice A n q] 173] (fun v Γ' => v = .tuple #[] ∧ Γ' = [box b [pv b, .slice A n q] 173]) := by
 rcases had with rfl | rfl
 · exact cc0_fn b A n q
 · exact cc1_fn b A n q
theorem ws_fn (b : Nat) (ad : Value) (had : ad = .pointer none ∨ ad = pv b) (A : Option Addr) (q : Nat) (l : List UInt8) (u : List UInt8) (hl : l.length + u.length ≤ 140737488355328) :
    Does Tryz.prog 47 [pv b, .string (BA u)] [box b [ad, .slice A l.length q] 173, rows encBy 5 1 A q l] (fun v Γ' => ∃ (A' : Option Addr) (q' : Nat), v = .tuple #[nv u.length, .nilIface] ∧ Γ' = [box b [pv b, .slice A' ((l ++ u).length) q'] 173, rows encBy 5 1 A' q' (l ++ u)]) := by
 refine Does.enter Tryz.func47 rfl Tryz.ntmps47 rfl (fun w0 => ?_)
 refine To.s (To.g (To.a ?_))
 refine To.a (To.n (To.t (To.s (To.g ?_))))
 refine To.m ?_
 refine To.cl [0] rfl rfl rfl (Ent.fn rfl rfl ca106) rfl (cc_fn b ad had A l.length q) ?_
 rintro _ _ ⟨rfl, rfl⟩
 refine To.n (To.t (To.s (To.g (To.m ?_))))
 refine To.m ?_
 refine To.nc ?_
 refine To.f fl173_1 ?_
 refine To.lo 0 c22 ?_
 refine To.m ?_
 refine To.ge rfl rfl rfl (Ge.appendB (i := 1) rfl bs22 Tryz.underlying9 rfl rfl rfl hl) ?_
 rintro _ _ ⟨A2, q2, rfl, rfl⟩
 refine To.nc ?_
 refine To.f fl173_1 ?_
 refine To.u (Up.store (i := 0) rfl rfl rfl c22 rfl rfl (bt1 rfl)) ?_
 refine To.n (To.t (To.s (To.g (To.m ?_))))
 refine To.r (Rd.lenT (a := u) rfl Tryz.underlying9 rfl) ?_
 refine To.a ?_
 refine To.a (To.n (To.t (To.rt ?_)))
 refine To.end2 (.inl rfl) Tryz.results47 rfl rfl ?_
 exact ⟨A2, q2, rfl, rfl⟩
theorem wb_fn (b : Nat) (ad : Value) (had : ad = .pointer none ∨ ad = pv b) (A : Option Addr) (q : Nat) (l : List UInt8) (c : UInt8) (hl : l.length + 1 ≤ 140737488355328) :
    Does Tryz.prog 52 [pv b, .int .u8 ((c.toNat : Nat) : Int)] [box b [ad, .slice A l.length q] 173, rows encBy 5 1 A q l] (fun v Γ' => ∃ (A' : Option Addr) (q' : Nat), v = .nilIface ∧ Γ' = [box b [pv b, .slice A' ((l ++ [c]).length) q'] 173, rows encBy 5 1 A' q' (l ++ [c])]) := by
 refine Does.enter Tryz.func52 rfl Tryz.ntmps52 rfl (fun w0 => ?_)
 refine To.s (To.g (To.a (To.n (To.t (To.s (To.g ?_))))))
 refine To.m ?_
 refine To.cl [0] rfl rfl rfl (Ent.fn rfl rfl ca106) rfl (cc_fn b ad had A l.length q) ?_
 rintro _ _ ⟨rfl, rfl⟩
 refine To.n (To.t (To.s (To.g (To.m ?_))))
 refine To.m ?_
 refine To.nc ?_
 refine To.f fl173_1 ?_
 refine To.lo 0 c22 ?_
 refine To.m ?_
 refine To.mk rfl rfl rfl (Mk.sN (us := [.int .u8 ((c.toNat : Nat) : Int)]) rfl s22 rfl rfl rfl rfl rfl rfl) ?_
 rintro _ _ ⟨b13, rfl, rfl⟩
 refine To.ge rfl rfl rfl (Ge.append1 encBy_ok (i := 2) (j := 0) (el := c) rfl s22 rfl rfl rfl rfl rfl (by first | omega | (simp; done) | (simp; omega)) (by first | omega | (simp; done) | (simp; omega))) ?_
 rintro _ _ ⟨A14, q14, rfl, rfl⟩
 refine To.nc ?_
 refine To.f fl173_1 ?_
 refine To.u (Up.store (i := 1) rfl rfl rfl c22 rfl rfl (bt1 rfl)) ?_
 refine To.n (To.t (To.s (To.g (To.a (To.n (To.t (To.rt (To.del0 ?_))))))))
 refine To.end1 (.inl rfl) Tryz.results52 rfl ?_
 exact ⟨_, _, rfl, rfl⟩
theorem st1_fn (b : Nat) (ad : Value) (a : Nat) (q : Nat) (l : List UInt8) (hp : 0 < l.length) (hl : l.length ≤ 140737488355328) (hq : q ≠ 0) :
    Does Tryz.prog 53 [pv b] [box b [ad, .slice (some ⟨a, 0, none⟩) l.length q] 173, rows encBy 5 1 (some ⟨a, 0, none⟩) q l] (fun v _ => v = .string (BA l)) := by
 refine Does.enter Tryz.func53 rfl Tryz.ntmps53 rfl (fun w0 => ?_)
 refine To.s (To.g (To.a (To.n (To.t (To.s ?_)))))
 refine To.flow [] [⟨0, [], 0⟩, ⟨1, [], 0⟩, ⟨2, [], 0⟩, ⟨5, [], 0⟩, ⟨6, [], 0⟩, ⟨7, [], 0⟩, ⟨3, [], 1⟩, ⟨4, [], 0⟩, ⟨8, [], 1⟩, ⟨9, [], 0⟩, ⟨10, [], 5⟩, ⟨11, [], 0⟩] mixed (by kernel_rfl) (ocn _) ?_
 refine W.mo ?_
 refine W.nc ?_
 refine W.fi fl173_1 ?_
 refine W.mo ?_
 refine W.nc ?_
 refine W.fi fl173_1 ?_
 refine W.lo 0 c22 ?_
 refine W.f rfl (Rd.slData rfl rfl hq) ?_
 refine W.lo 0 c22 ?_
 refine W.f rfl (Rd.len rfl rfl Tryz.underlying22) ?_
 refine W.ge rfl rfl rfl rfl (Ge.unsafeB (i := 1) (l := l) rfl (e := 5) Tryz.underlying276 (by kernel_rfl) rfl rfl rfl hp hl) ?_
 rintro _ _ ⟨rfl, rfl⟩
 refine ⟨ocn _, ?_⟩
 refine W.f rfl (Rd.assign rfl rfl) ?_
 refine W.fin ?_
 refine To.t (To.rt (To.del0 ?_))
 refine To.end1 (.inl rfl) Tryz.results53 rfl ?_
 rfl
theorem st0_fn (b : Nat) (ad : Value) (q : Nat) :
    Does Tryz.prog 53 [pv b] [box b [ad, .slice none (([] : List UInt8).length) q] 173] (fun v _ => v = .string (BA [])) := by
 refine Does.enter Tryz.func53 rfl Tryz.ntmps53 rfl (fun w0 => ?_)
 refine To.s (To.g (To.a (To.n (To.t (To.s ?_)))))
 refine To.flow [] [⟨0, [], 0⟩, ⟨1, [], 0⟩, ⟨2, [], 0⟩, ⟨5, [], 0⟩, ⟨6, [], 0⟩, ⟨7, [], 0⟩, ⟨3, [], 1⟩, ⟨4, [], 0⟩, ⟨8, [], 1⟩, ⟨9, [], 0⟩, ⟨10, [], 0⟩, ⟨11, [], 0⟩] mixed (by kernel_rfl) (ocn _) ?_
 refine W.mo ?_
 refine W.nc ?_
 refine W.fi fl173_1 ?_
 refine W.mo ?_
 refine W.nc ?_
 refine W.fi fl173_1 ?_
 refine W.lo 0 c22 ?_
 refine W.f rfl (Rd.slDataN rfl rfl) ?_
 refine W.lo 0 c22 ?_
 refine W.f rfl (Rd.len rfl rfl Tryz.underlying22) ?_
 refine W.f rfl (Rd.unsafe0 rfl rfl rfl) ?_
 refine W.f rfl (Rd.assign rfl rfl) ?_
 refine W.fin ?_
 refine To.t (To.rt (To.del0 ?_))
 refine To.end1 (.inl rfl) Tryz.results53 rfl ?_
 rfl
theorem st_fn (b : Nat) (ad : Value) (A : Option Addr) (q : Nat) (l : List UInt8) (hl : l.length ≤ 140737488355328) (hA : l = [] → A = none) : Does Tryz.prog 53 [pv b] [box b [ad, .slice A l.length q] 173, rows encBy 5 1 A q l] (fun v _ => v = .string (BA l)) := fun w hs => by
 cases l with
 | nil =>
   obtain rfl := hA rfl
   refine (st0_fn b ad q w (Sep.sat.left (Δ := [_]) hs)).mono fun _ _ ⟨v, Γ', h1, h2, h3⟩ => ⟨v, Γ' ++ _, h1, h2, Post.frame hs h3⟩
 | cons x r =>
   have hr : w.ownsRow 0 5 1 (.slice A (x :: r).length q) (x :: r).length ((x :: r).flatMap encBy) := hs.each (rows encBy 5 1 A q (x :: r)) (by simp)
   have h1 := own_some hr (by simp)
   obtain ⟨_, _, hv, _, hc, _⟩ := own_form hr
   simp only [Value.slice.injEq] at hv
   have hq : q ≠ 0 := by rw [← hv.2.2] at hc; simp only [lc1] at hc; omega
   rw [h1] at hs ⊢
   exact st1_fn b ad _ q (x :: r) (by simp) hl hq w hs
set_option maxHeartbeats 8000000 in
set_option maxRecDepth 100000 in
theorem text_fn (pr st : Int) (A : Option Addr) (q : Nat) (l : List Ins) (hl : l.length ≤ 4000) (hr : ∀ x ∈ l, InR x) :
    Does Tryz.prog 20 [.agg #[.int .i64 pr, .int .i64 st, .slice A l.length q]] [ros Ins.cells A l, tabC, p10c] (fun v _ => v = .string (BA (txtU 0 l))) := by
 refine Does.enter Tryz.func20 rfl Tryz.ntmps20 rfl (fun w0 => ?_)
 refine To.s (To.g ?_)
 refine To.boxed rfl rfl rfl rfl rfl rfl (fun b1 => ?_)
 refine To.a (To.n (To.t (To.s (To.g ?_))))
 refine To.alloc rfl rfl rfl rfl z173 (fun b3 => ?_)
 refine To.n (To.t (To.s (To.s (To.g ?_))))
 refine To.f fl42_2 ?_
 refine To.lo 1 c40 ?_
 refine To.r (Rd.len rfl rfl Tryz.underlying40) ?_
 refine To.m (To.n (To.t (To.b ?_)))
 refine To.nilRow (encBy) 5 1 ?_
 refine To.sub [(3, pv b3), (7, .slice A l.length q), (8, nv l.length), (9, nv 0)] ⟨rfl, rfl, rfl, rfl, trivial⟩ ?_
 refine To.del2 (To.up1 ?_)
 refine To.loop (fun mz ρ Γ => ∃ (Ab : Option Addr) (qb : Nat) (T : List UInt8) (ad : Value) (k : Nat), ρ = [(3, pv b3), (7, .slice A l.length q), (8, nv l.length), (9, nv k)] ∧ Γ = [box b3 [ad, .slice Ab T.length qb] 173, rows encBy 5 1 Ab qb T, ros Ins.cells A l, tabC, p10c] ∧ mz = l.length - k ∧ (k ≤ l.length) ∧ (T = txtU 0 (l.take k)) ∧ (ad = .pointer none ∨ ad = pv b3) ∧ (T = [] → Ab = none)) (l.length - 0) ⟨none, 0, ([] : List UInt8), (.pointer none), 0, rfl, rfl, rfl, (Nat.zero_le _), rfl, (.inl rfl), (fun _ => rfl)⟩ ?_
 rintro mz _ _ ⟨Ab, qb, T, ad, k, rfl, rfl, rfl, hk, hT, had, hTA⟩
 have hTl : T.length ≤ 400000 := by have := txt_len hr hl k hk; rw [← hT] at this; omega
 refine To.s (To.g ?_)
 refine To.lt ?_
 refine To.n (To.t (To.s ?_))
 refine To.cp rfl (fun c10 => ?_) (fun c10 => ?_)
 obtain ⟨x, hx⟩ : ∃ z0, l[k]? = some z0 := ⟨l[k]'(by omega), gge _⟩
 have hx1 := hr x (mog hx)
 have ho1 := hx1.o1
 have ho2 := hx1.o2
 have ha1 := hx1.a1
 have ha2 := hx1.a2
 have hb1 := hx1.b1
 have hb2 := hx1.b2
 have hn1 := hx1.n1
 have hn2 := hx1.n2
 have l1 := itoa_len (n := ((k : Nat) : Int)) (by omega) (by omega)
 have l2 := wd_len x.op
 have l3 := itoa_len ha1 ha2
 have l4 := itoa_len hb1 hb2
 have l5 := itoa_len hn1 hn2
 refine To.sp (To.t (To.s (To.b (To.s (To.g (To.m ?_))))))
 refine To.r (Rd.ixo encIn (i := 2) (j := k) rfl rfl rfl s40 rfl hx) ?_
 refine To.r (Rd.lS (i := 2) rfl rfl r109 rfl (rsg encIn hx) (encIn.len _)) ?_
 refine To.alloc rfl rfl rfl rfl z109 (fun b5 => ?_)
 refine To.a ?_
 refine To.u (Up.storeS (i := 0) rfl rfl rfl r109 rfl rfl rfl (bta rfl)) ?_
 refine To.n (To.t (To.s ?_))
 refine To.flow [] [⟨0, [], 0⟩, ⟨3, [], 0⟩, ⟨1, [], 3⟩, ⟨2, [], 0⟩, ⟨4, [], 1⟩, ⟨5, [], 3⟩, ⟨6, [], 0⟩, ⟨7, [], 0⟩, ⟨8, [], 5⟩] mixed (by kernel_rfl) (ocn _) ?_
 refine W.mo ?_
 refine W.fi fl109_0 ?_
 refine W.callQ rfl rfl rfl rfl (Ent.fn rfl rfl ca48) (itoa_fn ((k : Nat) : Int) (by omega) (by omega)) rfl (ocs (oca 5 rfl) (ocn _)) ?_
 refine W.f rfl (Rd.addB (a := Lib.itoa ((k : Nat) : Int)) (b := [32]) rfl rfl rfl (by simp only [lap, lc1, ln0]; omega)) ?_
 refine W.lo 0 c107 ?_
 refine W.callQ rfl rfl rfl rfl (Ent.fn rfl rfl ca49) ((row_fn x.op).mono (R' := fun v _ => v = .agg (Rw.cells (rowOf x.op)).toArray) (fun _ _ h => h.1)) rfl (ocs (oca 4 rfl) (ocn _)) ?_
 refine W.f rfl (Rd.as (v' := .string (BA (wdL x.op))) rfl (Rd.fieldV (vs := Rw.cells (rowOf x.op)) rfl Tryz.underlying180 rfl Tryz.underlying9 rfl rfl rfl)) ?_
 refine W.f rfl (Rd.addB (a := (Lib.itoa ((k : Nat) : Int)) ++ [32]) (b := wdL x.op) rfl rfl rfl (by simp only [lap, lc1, ln0]; omega)) ?_
 refine W.call [1, 1] rfl rfl rfl rfl (Ent.fn rfl rfl ca47) rfl (ws_fn b3 ad had Ab qb T (((Lib.itoa ((k : Nat) : Int)) ++ [32]) ++ (wdL x.op)) (by simp only [lap, lc1, ln0]; omega)) ?_
 rintro _ _ ⟨Aw, qw, rfl, rfl⟩
 refine ⟨ocn _, ?_⟩
 refine W.fin ?_
 refine To.t (To.s (To.s (To.g ?_)))
 refine To.f fl109_0 ?_
 refine To.lo 2 c107 ?_
 refine To.cV rfl rfl rfl (Ent.fn rfl rfl ca50) ((uses_fn x.op 65).mono (R' := fun v _ => v = .bool (uA ((x.op : Nat) : Int))) (fun _ _ h => h.trans (congrArg Value.bool (uses_same hx1.o1 hx1.o2).1))) rfl (ocs (oca 4 rfl) (ocn _)) ?_
 refine To.n (To.t ?_)
 refine To.meetC (T := (Option Addr) × (Nat) × (List UInt8)) (fun t => ([(3, pv b3), (5, pv b5), (7, .slice A l.length q), (8, nv l.length), (9, nv k)], [box b3 [pv b3, .slice (t.1) (t.2.2).length (t.2.1)] 173, rows encBy 5 1 (t.1) (t.2.1) (t.2.2), box b5 [.int .u8 ((x.op : Nat) : Int), .int .i64 x.a, .int .i64 x.b, .int .i64 x.n] 109, ros Ins.cells A l, tabC, p10c])) (fun t => ((t.2.2) = (T ++ (Lib.itoa ((k : Nat) : Int) ++ [32] ++ wdL x.op)) ++ (if uA ((x.op : Nat) : Int) then [32] ++ Lib.itoa x.a else [])) ∧ ((t.2.2).length ≤ 400060)) ?_ ?_
 refine To.cond rfl (fun c25 => ?_) (fun c25 => ?_)
 refine To.g ?_
 refine To.f fl109_1 ?_
 refine To.lo 2 c3 ?_
 refine To.cV rfl rfl rfl (Ent.fn rfl rfl ca48) (itoa_fn x.a (by omega) (by omega)) rfl (ocs (oca 5 rfl) (ocn _)) ?_
 refine To.r (Rd.addB (a := [32]) (b := Lib.itoa x.a) rfl rfl rfl (by simp only [lap, lc1, ln0]; omega)) ?_
 refine To.cl [0, 0] rfl rfl rfl (Ent.fn rfl rfl ca47) rfl (ws_fn b3 (pv b3) (.inr rfl) Aw qw (T ++ (((Lib.itoa ((k : Nat) : Int)) ++ [32]) ++ (wdL x.op))) ([32] ++ (Lib.itoa x.a)) (by simp only [lap, lc1, ln0]; omega)) ?_
 rintro _ _ ⟨Aw_2, qw_2, rfl, rfl⟩
 refine To.n (To.t ?_)
 refine To.he (Aw_2, qw_2, ((T ++ (((Lib.itoa ((k : Nat) : Int)) ++ [32]) ++ (wdL x.op))) ++ ([32] ++ (Lib.itoa x.a)))) ⟨(by rw [if_pos c25]), (by simp only [lap, lc1, ln0]; omega)⟩ ⟨rfl, rfl, rfl, rfl, rfl, trivial⟩ rfl
 refine To.sp (To.t ?_)
 refine To.he (Aw, qw, (T ++ (((Lib.itoa ((k : Nat) : Int)) ++ [32]) ++ (wdL x.op)))) ⟨(by rw [if_neg (by simp [c25]), List.append_nil]), (by simp only [lap, lc1, ln0]; omega)⟩ ⟨rfl, rfl, rfl, rfl, rfl, trivial⟩ rfl
 rintro ⟨A1m, q1m, T1⟩ ⟨hT1, hL1⟩
 replace hT1 : T1 = (T ++ (Lib.itoa ((k : Nat) : Int) ++ [32] ++ wdL x.op)) ++ (if uA ((x.op : Nat) : Int) then [32] ++ Lib.itoa x.a else []) := hT1
 replace hL1 : T1.length ≤ 400060 := hL1
 show To _ [(3, pv b3), (5, pv b5), (7, .slice A l.length q), (8, nv l.length), (9, nv k)] [box b3 [pv b3, .slice A1m T1.length q1m] 173, rows encBy 5 1 A1m q1m T1, box b5 [.int .u8 ((x.op : Nat) : Int), .int .i64 x.a, .int .i64 x.b, .int .i64 x.n] 109, ros Ins.cells A l, tabC, p10c] _
 refine To.s (To.s (To.g ?_))
 refine To.f fl109_0 ?_
 refine To.lo 2 c107 ?_
 refine To.cV rfl rfl rfl (Ent.fn rfl rfl ca50) ((uses_fn x.op 66).mono (R' := fun v _ => v = .bool (uB ((x.op : Nat) : Int))) (fun _ _ h => h.trans (congrArg Value.bool (uses_same hx1.o1 hx1.o2).2.1))) rfl (ocs (oca 4 rfl) (ocn _)) ?_
 refine To.n (To.t ?_)
 refine To.meetC (T := (Option Addr) × (Nat) × (List UInt8)) (fun t => ([(3, pv b3), (5, pv b5), (7, .slice A l.length q), (8, nv l.length), (9, nv k)], [box b3 [pv b3, .slice (t.1) (t.2.2).length (t.2.1)] 173, rows encBy 5 1 (t.1) (t.2.1) (t.2.2), box b5 [.int .u8 ((x.op : Nat) : Int), .int .i64 x.a, .int .i64 x.b, .int .i64 x.n] 109, ros Ins.cells A l, tabC, p10c])) (fun t => ((t.2.2) = T1 ++ (if uB ((x.op : Nat) : Int) then [32] ++ Lib.itoa x.b else [])) ∧ ((t.2.2).length ≤ 400090)) ?_ ?_
 refine To.cond rfl (fun c33 => ?_) (fun c33 => ?_)
 refine To.g ?_
 refine To.f fl109_2 ?_
 refine To.lo 2 c3 ?_
 refine To.cV rfl rfl rfl (Ent.fn rfl rfl ca48) (itoa_fn x.b (by omega) (by omega)) rfl (ocs (oca 5 rfl) (ocn _)) ?_
 refine To.r (Rd.addB (a := [32]) (b := Lib.itoa x.b) rfl rfl rfl (by simp only [lap, lc1, ln0]; omega)) ?_
 refine To.cl [0, 0] rfl rfl rfl (Ent.fn rfl rfl ca47) rfl (ws_fn b3 (pv b3) (.inr rfl) A1m q1m T1 ([32] ++ (Lib.itoa x.b)) (by simp only [lap, lc1, ln0]; omega)) ?_
 rintro _ _ ⟨Aw_3, qw_3, rfl, rfl⟩
 refine To.n (To.t ?_)
 refine To.he (Aw_3, qw_3, (T1 ++ ([32] ++ (Lib.itoa x.b)))) ⟨(by rw [if_pos c33]), (by simp only [lap, lc1, ln0]; omega)⟩ ⟨rfl, rfl, rfl, rfl, rfl, trivial⟩ rfl
 refine To.sp (To.t ?_)
 refine To.he (A1m, q1m, T1) ⟨(by rw [if_neg (by simp [c33]), List.append_nil]), (Nat.le_trans hL1 (by decide))⟩ ⟨rfl, rfl, rfl, rfl, rfl, trivial⟩ rfl
 rintro ⟨A2m, q2m, T2⟩ ⟨hT2, hL2⟩
 replace hT2 : T2 = T1 ++ (if uB ((x.op : Nat) : Int) then [32] ++ Lib.itoa x.b else []) := hT2
 replace hL2 : T2.length ≤ 400090 := hL2
 show To _ [(3, pv b3), (5, pv b5), (7, .slice A l.length q), (8, nv l.length), (9, nv k)] [box b3 [pv b3, .slice A2m T2.length q2m] 173, rows encBy 5 1 A2m q2m T2, box b5 [.int .u8 ((x.op : Nat) : Int), .int .i64 x.a, .int .i64 x.b, .int .i64 x.n] 109, ros Ins.cells A l, tabC, p10c] _
 refine To.s (To.s (To.g ?_))
 refine To.f fl109_0 ?_
 refine To.lo 2 c107 ?_
 refine To.cV rfl rfl rfl (Ent.fn rfl rfl ca50) ((uses_fn x.op 78).mono (R' := fun v _ => v = .bool (uN ((x.op : Nat) : Int))) (fun _ _ h => h.trans (congrArg Value.bool (uses_same hx1.o1 hx1.o2).2.2))) rfl (ocs (oca 4 rfl) (ocn _)) ?_
 refine To.n (To.t ?_)
 refine To.meetC (T := (Option Addr) × (Nat) × (List UInt8)) (fun t => ([(3, pv b3), (5, pv b5), (7, .slice A l.length q), (8, nv l.length), (9, nv k)], [box b3 [pv b3, .slice (t.1) (t.2.2).length (t.2.1)] 173, rows encBy 5 1 (t.1) (t.2.1) (t.2.2), box b5 [.int .u8 ((x.op : Nat) : Int), .int .i64 x.a, .int .i64 x.b, .int .i64 x.n] 109, ros Ins.cells A l, tabC, p10c])) (fun t => ((t.2.2) = T2 ++ (if uN ((x.op : Nat) : Int) then [32] ++ Lib.itoa x.n else [])) ∧ ((t.2.2).length ≤ 400120)) ?_ ?_
 refine To.cond rfl (fun c41 => ?_) (fun c41 => ?_)
 refine To.g ?_
 refine To.f fl109_3 ?_
 refine To.lo 2 c2 ?_
 refine To.cV rfl rfl rfl (Ent.fn rfl rfl ca51) (fint_fn x.n (by omega) (by omega)) rfl (ocs (oca 5 rfl) (ocn _)) ?_
 refine To.r (Rd.addB (a := [32]) (b := Lib.itoa x.n) rfl rfl rfl (by simp only [lap, lc1, ln0]; omega)) ?_
 refine To.cl [0, 0] rfl rfl rfl (Ent.fn rfl rfl ca47) rfl (ws_fn b3 (pv b3) (.inr rfl) A2m q2m T2 ([32] ++ (Lib.itoa x.n)) (by simp only [lap, lc1, ln0]; omega)) ?_
 rintro _ _ ⟨Aw_4, qw_4, rfl, rfl⟩
 refine To.n (To.t ?_)
 refine To.he (Aw_4, qw_4, (T2 ++ ([32] ++ (Lib.itoa x.n)))) ⟨(by rw [if_pos c41]), (by simp only [lap, lc1, ln0]; omega)⟩ ⟨rfl, rfl, rfl, rfl, rfl, trivial⟩ rfl
 refine To.sp (To.t ?_)
 refine To.he (A2m, q2m, T2) ⟨(by rw [if_neg (by simp [c41]), List.append_nil]), (Nat.le_trans hL2 (by decide))⟩ ⟨rfl, rfl, rfl, rfl, rfl, trivial⟩ rfl
 rintro ⟨A3m, q3m, T3⟩ ⟨hT3, hL3⟩
 replace hT3 : T3 = T2 ++ (if uN ((x.op : Nat) : Int) then [32] ++ Lib.itoa x.n else []) := hT3
 replace hL3 : T3.length ≤ 400120 := hL3
 show To _ [(3, pv b3), (5, pv b5), (7, .slice A l.length q), (8, nv l.length), (9, nv k)] [box b3 [pv b3, .slice A3m T3.length q3m] 173, rows encBy 5 1 A3m q3m T3, box b5 [.int .u8 ((x.op : Nat) : Int), .int .i64 x.a, .int .i64 x.b, .int .i64 x.n] 109, ros Ins.cells A l, tabC, p10c] _
 refine To.g ?_
 refine To.cl [0, 0] rfl rfl rfl (Ent.fn rfl rfl ca52) rfl (wb_fn b3 (pv b3) (.inr rfl) A3m q3m T3 10 (by omega)) ?_
 rintro _ _ ⟨Aw_5, qw_5, rfl, rfl⟩
 refine To.n (To.bn (To.t (To.g ?_)))
 refine To.r (Rd.inc rfl rfl rfl (by omega)) ?_
 refine To.m (To.n (To.t ?_))
 refine To.sub [(3, pv b3), (7, .slice A l.length q), (8, nv l.length), (9, nv ((k + 1)))] ⟨rfl, rfl, rfl, rfl, trivial⟩ ?_
 refine To.del2 ?_
 refine To.ag (l.length - (k + 1)) (by omega) ⟨Aw_5, qw_5, (T3 ++ [10]), (pv b3), k + 1, rfl, rfl, rfl, (by omega), (by rw [txt_next hx, ← hT, hT3, hT2, hT1, li]; simp only [List.append_assoc]), (.inr rfl), (fun h => by simp at h)⟩
 refine To.ex (To.tx (To.tx (To.bx (To.t (To.s (To.g ?_))))))
 refine To.cl [0, 0] rfl rfl rfl (Ent.fn rfl rfl ca53) rfl ((st_fn b3 ad Ab qb T (by omega) hTA).bare) ?_
 rintro _ _ ⟨rfl, rfl⟩
 refine To.a (To.n (To.t (To.rt (To.del2 (To.del1 (To.del0 ?_))))))
 refine To.end1 (.inl rfl) Tryz.results20 rfl ?_
 show Value.string (BA T) = _
 rw [hT, List.take_of_length_le (by omega)]
theorem Rd.conW {P : Program} {o : Oper} {ρ : Slots} {Γ : List Chunk} {x : Operand} {s d : TypeId} {k k' : IntKind} {m : Int} {ds : TypeDesc} (ho : o.op = .convert s d x) (hx : ev ρ x = some (.int k m)) (hs : P.underlying s = some ds) (hd : P.underlying d = some (.int k')) : Rd P o ρ Γ (.int k' (k'.wrap m)) := fun a w ha _ => by
 unfold execOp
 simp [ho, ha.eval hx, convert, run_underlying hs, run_underlying hd, Conv.intToInt]
theorem W64_of {n : Int} (h0 : -9223372036854775808 ≤ n) (h1 : n ≤ 9223372036854775807) : W64 n = n := IntWalk.i64_in n ⟨h0, h1⟩
theorem dec_fn (n : Int) (h0 : -9223372036854775808 ≤ n) (h1 : n ≤ 9223372036854775807) :
    Does Tryz.prog 54 [.int .i64 n] [] (fun v _ => v = .string (BA (Lib.itoa n))) := by
 refine Does.enter Tryz.func54 rfl Tryz.ntmps54 rfl (fun w0 => ?_)
 refine To.s (To.g (To.a (To.n (To.t (To.s (To.s (To.g ?_)))))))
 refine To.m ?_
 refine To.eq ?_
 refine To.n (To.t ?_)
 refine To.cp rfl (fun c6 => ?_) (fun c6 => ?_)
 refine To.s (To.g (To.a (To.n (To.t (To.rt (To.tr ?_))))))
 refine To.end1 (.inl rfl) Tryz.results54 rfl ?_
 show Value.string (BA [48]) = _
 rw [c6, show Lib.itoa 0 = [48] from by rw [Lib.itoa, if_neg (by decide), dec_last (by decide)]; rfl]
 refine To.sp (To.t (To.s (To.g (To.a (To.n (To.t (To.s (To.g ?_))))))))
 refine To.m ?_
 refine To.r (Rd.conW rfl rfl Tryz.underlying2 Tryz.underlying227) ?_
 refine To.a (To.n (To.t (To.s (To.s (To.g ?_)))))
 refine To.m ?_
 refine To.lt ?_
 refine To.n (To.t ?_)
 refine To.meetC (T := (Nat)) (fun t => ([(0, .int .i64 n), (3, .string (BA [])), (4, .int .u64 (((t) : Nat) : Int))], [])) (fun t => ((t) = n.natAbs)) ?_ ?_
 refine To.cp rfl (fun c10 => ?_) (fun c10 => ?_)
 refine To.g (To.m ?_)
 refine To.r (Rd.add64 rfl rfl rfl (by omega)) ?_
 refine To.r (Rd.as (v' := .int .i64 ((((-(n + 1)).toNat : Nat)) : Int)) (congrArg (Value.int .i64) (by rw [W64_of (by omega) (by omega)]; omega)) (Rd.negW rfl rfl)) ?_
 refine To.r (Rd.conv rfl rfl Tryz.underlying2 Tryz.underlying227 (wrapU (by omega))) ?_
 refine To.r (Rd.as (v' := .int .u64 ((n.natAbs : Nat) : Int)) (congrArg (Value.int .u64) (by omega)) (Rd.addU (a := (-(n + 1)).toNat) (b := 1) rfl rfl rfl)) ?_
 refine To.a (To.n (To.t ?_))
 refine To.he (n.natAbs) rfl ⟨rfl, rfl, rfl, trivial⟩ rfl
 refine To.sp (To.t ?_)
 refine To.he (n.natAbs) rfl ⟨rfl, rfl, (congrArg (fun z : Int => some (Value.int .u64 z)) (by rw [IntWalk.u64_in _ (by omega)]; omega)), trivial⟩ rfl
 rintro x hxn
 replace hxn : x = n.natAbs := hxn
 show To _ [(0, .int .i64 n), (3, .string (BA [])), (4, .int .u64 ((x : Nat) : Int))] [] _
 refine To.s (To.b ?_)
 refine To.sub [(0, .int .i64 n), (3, .string (BA [])), (4, .int .u64 ((x : Nat) : Int))] ⟨rfl, rfl, rfl, trivial⟩ ?_
 refine To.loop (fun mz ρ Γ => ∃ (y : Nat) (T : List UInt8), ρ = [(0, .int .i64 n), (3, .string (BA T)), (4, .int .u64 ((y : Nat) : Int))] ∧ Γ = [] ∧ mz = y + 1 ∧ (y ≤ 9223372036854775808) ∧ (dg y ++ T = Lib.decDigits n.natAbs)) (x + 1) ⟨x, [], rfl, rfl, rfl, (by omega), (by rw [dg, if_neg (by omega), List.append_nil, hxn])⟩ ?_
 rintro mz _ _ ⟨y, T, rfl, rfl, rfl, hy, hT⟩
 have hTl : T.length ≤ 20 := by have h1 := congrArg List.length hT; have h2 := decD_len 19 n.natAbs (by omega); rw [lap] at h1; omega
 refine To.s (To.s (To.g (To.m ?_)))
 refine To.gt ?_
 refine To.n (To.t ?_)
 refine To.cp rfl (fun c17 => ?_) (fun c17 => ?_)
 refine To.sp (To.t (To.b (To.s (To.g (To.m ?_)))))
 refine To.r (Rd.remN (a := y) (b := 10) rfl rfl rfl (by omega)) ?_
 refine To.r (Rd.as (v' := .int .u64 ((48 + y % 10 : Nat) : Int)) (congrArg (Value.int .u64) (by omega)) (Rd.addU (a := 48) (b := y % 10) rfl rfl rfl)) ?_
 refine To.r (Rd.conv rfl rfl Tryz.underlying227 Tryz.underlying5 (wrapU8 (by omega))) ?_
 refine To.mk rfl rfl rfl (Mk.sN (us := [.int .u8 ((48 + y % 10 : Nat) : Int)]) rfl s22 rfl rfl rfl rfl rfl rfl) ?_
 rintro _ _ ⟨b22, rfl, rfl⟩
 refine To.r (Rd.as (v' := .string (BA [UInt8.ofNat (48 + y % 10)])) rfl (Rd.bytesStr (l := [48 + y % 10]) rfl Tryz.underlying22 Tryz.underlying5 Tryz.underlying9 rfl (oks_row 0 rfl))) ?_
 refine To.m ?_
 refine To.r (Rd.addB (a := [UInt8.ofNat (48 + y % 10)]) (b := T) rfl rfl rfl (by simp only [lap, lc1, ln0]; omega)) ?_
 refine To.a (To.n (To.t (To.g ?_)))
 refine To.m ?_
 refine To.r (Rd.quoU (a := y) (b := 10) rfl rfl rfl (by omega) (by omega)) ?_
 refine To.a (To.n (To.bn (To.t ?_)))
 refine To.sub [(0, .int .i64 n), (3, .string (BA ([UInt8.ofNat (48 + y % 10)] ++ T))), (4, .int .u64 (((y / 10) : Nat) : Int))] ⟨rfl, rfl, rfl, trivial⟩ ?_
 refine To.del0 ?_
 refine To.ag ((y / 10) + 1) (by omega) ⟨y / 10, ([UInt8.ofNat (48 + y % 10)] ++ T), rfl, rfl, rfl, (by omega), (by rw [← hT, dg_step (x := y) (by omega), List.append_assoc])⟩
 refine To.ex (To.tx (To.tx (To.bx (To.t (To.s (To.s (To.g (To.m ?_))))))))
 refine To.lt ?_
 refine To.n (To.t ?_)
 refine To.cp rfl (fun c29 => ?_) (fun c29 => ?_)
 refine To.g (To.m ?_)
 refine To.r (Rd.addB (a := [45]) (b := T) rfl rfl rfl (by simp only [lap, lc1, ln0]; omega)) ?_
 refine To.a (To.n (To.t (To.s (To.g ?_))))
 refine To.m ?_
 refine To.a (To.n (To.t (To.rt ?_)))
 refine To.end1 (.inl rfl) Tryz.results54 rfl ?_
 have hy0 : y = 0 := by omega
 rw [hy0] at hT
 have hT2 : T = Lib.decDigits n.natAbs := hT
 show Value.string (BA ([45] ++ T)) = _
 rw [hT2, Lib.itoa, if_pos c29]; rfl
 refine To.sp (To.t (To.s (To.g (To.m ?_))))
 refine To.a (To.n (To.t (To.rt ?_)))
 refine To.end1 (.inl rfl) Tryz.results54 rfl ?_
 have hy0 : y = 0 := by omega
 rw [hy0] at hT
 have hT2 : T = Lib.decDigits n.natAbs := hT
 show Value.string (BA T) = _
 rw [hT2, Lib.itoa, if_neg c29, show n.toNat = n.natAbs by omega]
def encW (y : List UInt8) : List Value := [.string (BA y)]
theorem encW_ok : Enc encW 1 := ⟨fun _ => rfl, fun x u hu => by rw [encW, List.mem_singleton] at hu; subst hu; rfl⟩
def wl : List (List UInt8) := (List.range 34).map fun k => wdL (k + 1)
theorem wl_at {o : Nat} (h1 : 1 ≤ o) (h : o ≤ 34) : wl[o - 1]? = some (wdL o) := by
 unfold wl
 rw [List.getElem?_map, List.getElem?_range (by omega)]
 show some (wdL (o - 1 + 1)) = _
 rw [Nat.sub_add_cancel h1]
theorem word_fn (o : Nat) (h1 : 1 ≤ o) (h2 : o ≤ 34) :
    Does Tryz.prog 55 [nv o] [] (fun v _ => v = .string (BA (wdL o))) := by
 refine Does.enter Tryz.func55 rfl Tryz.ntmps55 rfl (fun w0 => ?_)
 refine To.s (To.g (To.a (To.n (To.t (To.s (To.g ?_))))))
 refine To.mk rfl rfl rfl (Mk.sN (us := [.string (BA [99, 111, 110, 115, 116]), .string (BA [118, 97, 114]), .string (BA [112, 97, 114, 97, 109]), .string (BA [102, 108, 97, 103]), .string (BA [110, 111, 119]), .string (BA [103, 101, 116]), .string (BA [104, 97, 115]), .string (BA [115, 105, 122, 101]), .string (BA [110, 101, 103]), .string (BA [110, 111, 116]), .string (BA [109, 117, 108]), .string (BA [100, 105, 118]), .string (BA [109, 111, 100]), .string (BA [97, 100, 100]), .string (BA [115, 117, 98]), .string (BA [101, 113]), .string (BA [110, 101]), .string (BA [108, 116]), .string (BA [108, 101]), .string (BA [103, 116]), .string (BA [103, 101]), .string (BA [97, 110, 100]), .string (BA [111, 114]), .string (BA [115, 101, 116, 118, 97, 114]), .string (BA [112, 117, 116]), .string (BA [100, 101, 108, 101, 116, 101]), .string (BA [106, 117, 109, 112]), .string (BA [98, 114, 97, 110, 99, 104]), .string (BA [99, 111, 115, 116]), .string (BA [115, 101, 110, 100]), .string (BA [97, 102, 116, 101, 114]), .string (BA [115, 116, 111, 114, 101]), .string (BA [102, 101, 116, 99, 104]), .string (BA [115, 116, 111, 112])]) rfl s74 rfl rfl rfl rfl rfl rfl) ?_
 rintro _ _ ⟨b4, rfl, rfl⟩
 refine To.a (To.n (To.t (To.s (To.s ?_))))
 refine To.as [rows encW 9 1 (some ⟨b4, 0, none⟩) 34 wl] (by rfl) ?_
 have hwl : wl.length = 34 := rfl
 refine To.g (To.m ?_)
 refine To.lt ?_
 refine To.rdP rfl rfl rfl (Rd.move rfl rfl) (fun g7 => ?_) (fun g7 => ?_)
 omega
 refine To.m ?_
 refine To.m ?_
 refine To.r (Rd.len rfl rfl Tryz.underlying74) ?_
 refine To.gt ?_
 refine To.pF ?_
 refine To.n (To.t ?_)
 refine To.cp rfl (fun c12 => ?_) (fun c12 => ?_)
 omega
 refine To.sp (To.t (To.s ?_))
 have hgw := wl_at h1 h2
 refine To.g (To.m ?_)
 refine To.m ?_
 refine To.r (Rd.as (v' := nv (o - 1)) (congrArg (Value.int .i64) (by omega)) (Rd.sub64 rfl rfl rfl (by omega))) ?_
 refine To.r (Rd.ixr (i := 0) (j := (o - 1)) rfl rfl rfl s74 rfl hgw) ?_
 refine To.r (Rd.ld (i := 0) rfl rfl c9 rfl (gives_1 (rwg encW_ok hgw) rfl)) ?_
 refine To.a (To.n (To.t (To.rt (To.del0 ?_))))
 refine To.end1 (.inl rfl) Tryz.results55 rfl ?_
 rfl
set_option maxHeartbeats 8000000 in
set_option maxRecDepth 100000 in
theorem rtext_fn (pr st : Int) (A : Option Addr) (q : Nat) (l : List Ins) (hl : l.length ≤ 4000) (hr : ∀ x ∈ l, InR x) :
    Does Tryz.prog 21 [.agg #[.int .i64 pr, .int .i64 st, .slice A l.length q]] [ros Ins.rc A l] (fun v _ => v = .string (BA (txtU 0 l))) := by
 refine Does.enter Tryz.func21 rfl Tryz.ntmps21 rfl (fun w0 => ?_)
 refine To.s (To.g ?_)
 refine To.boxed rfl rfl rfl rfl rfl rfl (fun b1 => ?_)
 refine To.a (To.n (To.t (To.s (To.g ?_))))
 refine To.a (To.n (To.t (To.s (To.s (To.g ?_)))))
 refine To.f fl37_2 ?_
 refine To.lo 0 c35 ?_
 refine To.r (Rd.len rfl rfl Tryz.underlying35) ?_
 refine To.m (To.n (To.t (To.b ?_)))
 refine To.sub [(3, .string (BA [])), (10, .slice A l.length q), (11, nv l.length), (12, nv 0)] ⟨rfl, rfl, rfl, rfl, trivial⟩ ?_
 refine To.del0 ?_
 refine To.loop (fun mz ρ Γ => ∃ (T : List UInt8) (k : Nat), ρ = [(3, .string (BA T)), (10, .slice A l.length q), (11, nv l.length), (12, nv k)] ∧ Γ = [ros Ins.rc A l] ∧ mz = l.length - k ∧ (k ≤ l.length) ∧ (T = txtU 0 (l.take k))) (l.length - 0) ⟨[], 0, rfl, rfl, rfl, (Nat.zero_le _), rfl⟩ ?_
 rintro mz _ _ ⟨T, k, rfl, rfl, rfl, hk, hT⟩
 have hTl : T.length ≤ 400000 := by have := txt_len hr hl k hk; rw [← hT] at this; omega
 refine To.s (To.g ?_)
 refine To.lt ?_
 refine To.n (To.t (To.s ?_))
 refine To.cp rfl (fun c13 => ?_) (fun c13 => ?_)
 obtain ⟨x, hx⟩ : ∃ z0, l[k]? = some z0 := ⟨l[k]'(by omega), gge _⟩
 have hx1 := hr x (mog hx)
 have ho1 := hx1.o1
 have ho2 := hx1.o2
 have ha1 := hx1.a1
 have ha2 := hx1.a2
 have hb1 := hx1.b1
 have hb2 := hx1.b2
 have hn1 := hx1.n1
 have hn2 := hx1.n2
 have l1 := itoa_len (n := ((k : Nat) : Int)) (by omega) (by omega)
 have l2 := wd_len x.op
 have l3 := itoa_len ha1 ha2
 have l4 := itoa_len hb1 hb2
 have l5 := itoa_len hn1 hn2
 refine To.sp (To.t (To.s (To.b (To.s (To.g (To.m ?_))))))
 refine To.r (Rd.ixo encRi (i := 0) (j := k) rfl rfl rfl s35 rfl hx) ?_
 refine To.r (Rd.lS (i := 0) rfl rfl r54 rfl (rsg encRi hx) (encRi.len _)) ?_
 refine To.alloc rfl rfl rfl rfl z54 (fun b5 => ?_)
 refine To.a ?_
 refine To.u (Up.storeS (i := 0) rfl rfl rfl r54 rfl rfl rfl (bta rfl)) ?_
 refine To.n (To.t (To.s ?_))
 refine To.flow [] [⟨0, [], 0⟩, ⟨1, [], 0⟩, ⟨4, [], 0⟩, ⟨2, [], 3⟩, ⟨3, [], 0⟩, ⟨5, [], 1⟩, ⟨6, [], 3⟩, ⟨7, [], 0⟩, ⟨8, [], 0⟩, ⟨9, [], 0⟩] mixed (by kernel_rfl) (ocn _) ?_
 refine W.mo ?_
 refine W.mo ?_
 refine W.fi fl54_0 ?_
 refine W.callQ rfl rfl rfl rfl (Ent.fn rfl rfl ca54) (dec_fn ((k : Nat) : Int) (by omega) (by omega)) rfl (ocn _) ?_
 refine W.f rfl (Rd.addB (a := Lib.itoa ((k : Nat) : Int)) (b := [32]) rfl rfl rfl (by simp only [lap, lc1, ln0]; omega)) ?_
 refine W.lo 0 c3 ?_
 refine W.callQ rfl rfl rfl rfl (Ent.fn rfl rfl ca55) (word_fn x.op hx1.o1 hx1.o2) rfl (ocn _) ?_
 refine W.f rfl (Rd.addB (a := (Lib.itoa ((k : Nat) : Int)) ++ [32]) (b := wdL x.op) rfl rfl rfl (by simp only [lap, lc1, ln0]; omega)) ?_
 refine W.f rfl (Rd.addB (a := T) (b := ((Lib.itoa ((k : Nat) : Int)) ++ [32]) ++ (wdL x.op)) rfl rfl rfl (by simp only [lap, lc1, ln0]; omega)) ?_
 refine W.f rfl (Rd.assign rfl rfl) ?_
 refine W.fin ?_
 refine To.t (To.s (To.g ?_))
 refine To.f fl54_0 ?_
 refine To.lo 0 c3 ?_
 refine To.cV rfl rfl rfl (Ent.fn rfl rfl ca56) (ruses_fn ((x.op : Nat) : Int)) rfl (ocn _) ?_
 refine To.m ?_
 refine To.r (Rd.extract rfl rfl rfl) ?_
 refine To.r (Rd.extract rfl rfl rfl) ?_
 refine To.r (Rd.extract rfl rfl rfl) ?_
 refine To.a ?_
 refine To.a ?_
 refine To.a (To.n (To.t (To.s (To.s (To.g ?_)))))
 refine To.m (To.n (To.t ?_))
 refine To.meetC (T := (List UInt8)) (fun t => ([(3, .string (BA (t))), (5, pv b5), (7, .bool (uB ((x.op : Nat) : Int))), (8, .bool (uN ((x.op : Nat) : Int))), (10, .slice A l.length q), (11, nv l.length), (12, nv k)], [box b5 [nv x.op, .int .i64 x.a, .int .i64 x.b, .int .i64 x.n] 54, ros Ins.rc A l])) (fun t => ((t) = (T ++ (Lib.itoa ((k : Nat) : Int) ++ [32] ++ wdL x.op)) ++ (if uA ((x.op : Nat) : Int) then [32] ++ Lib.itoa x.a else [])) ∧ ((t).length ≤ 400060)) ?_ ?_
 refine To.cond rfl (fun c33 => ?_) (fun c33 => ?_)
 refine To.g (To.m ?_)
 refine To.f fl54_1 ?_
 refine To.lo 0 c3 ?_
 refine To.cV rfl rfl rfl (Ent.fn rfl rfl ca54) (dec_fn x.a (by omega) (by omega)) rfl (ocn _) ?_
 refine To.r (Rd.addB (a := [32]) (b := Lib.itoa x.a) rfl rfl rfl (by simp only [lap, lc1, ln0]; omega)) ?_
 refine To.r (Rd.addB (a := T ++ (((Lib.itoa ((k : Nat) : Int)) ++ [32]) ++ (wdL x.op))) (b := [32] ++ (Lib.itoa x.a)) rfl rfl rfl (by simp only [lap, lc1, ln0]; omega)) ?_
 refine To.a (To.n (To.t ?_))
 refine To.he (((T ++ (((Lib.itoa ((k : Nat) : Int)) ++ [32]) ++ (wdL x.op))) ++ ([32] ++ (Lib.itoa x.a)))) ⟨(by rw [if_pos c33]), (by simp only [lap, lc1, ln0]; omega)⟩ ⟨rfl, rfl, rfl, rfl, rfl, rfl, rfl, trivial⟩ rfl
 refine To.sp (To.t ?_)
 refine To.he ((T ++ (((Lib.itoa ((k : Nat) : Int)) ++ [32]) ++ (wdL x.op)))) ⟨(by rw [if_neg (by simp [c33]), List.append_nil]), (by simp only [lap, lc1, ln0]; omega)⟩ ⟨rfl, rfl, rfl, rfl, rfl, rfl, rfl, trivial⟩ rfl
 rintro T1 ⟨hT1, hL1⟩
 replace hT1 : T1 = (T ++ (Lib.itoa ((k : Nat) : Int) ++ [32] ++ wdL x.op)) ++ (if uA ((x.op : Nat) : Int) then [32] ++ Lib.itoa x.a else []) := hT1
 replace hL1 : T1.length ≤ 400060 := hL1
 show To _ [(3, .string (BA T1)), (5, pv b5), (7, .bool (uB ((x.op : Nat) : Int))), (8, .bool (uN ((x.op : Nat) : Int))), (10, .slice A l.length q), (11, nv l.length), (12, nv k)] [box b5 [nv x.op, .int .i64 x.a, .int .i64 x.b, .int .i64 x.n] 54, ros Ins.rc A l] _
 refine To.s (To.s (To.g (To.m (To.n (To.t ?_)))))
 refine To.meetC (T := (List UInt8)) (fun t => ([(3, .string (BA (t))), (5, pv b5), (8, .bool (uN ((x.op : Nat) : Int))), (10, .slice A l.length q), (11, nv l.length), (12, nv k)], [box b5 [nv x.op, .int .i64 x.a, .int .i64 x.b, .int .i64 x.n] 54, ros Ins.rc A l])) (fun t => ((t) = T1 ++ (if uB ((x.op : Nat) : Int) then [32] ++ Lib.itoa x.b else [])) ∧ ((t).length ≤ 400090)) ?_ ?_
 refine To.cond rfl (fun c40 => ?_) (fun c40 => ?_)
 refine To.g (To.m ?_)
 refine To.f fl54_2 ?_
 refine To.lo 0 c3 ?_
 refine To.cV rfl rfl rfl (Ent.fn rfl rfl ca54) (dec_fn x.b (by omega) (by omega)) rfl (ocn _) ?_
 refine To.r (Rd.addB (a := [32]) (b := Lib.itoa x.b) rfl rfl rfl (by simp only [lap, lc1, ln0]; omega)) ?_
 refine To.r (Rd.addB (a := T1) (b := [32] ++ (Lib.itoa x.b)) rfl rfl rfl (by simp only [lap, lc1, ln0]; omega)) ?_
 refine To.a (To.n (To.t ?_))
 refine To.he ((T1 ++ ([32] ++ (Lib.itoa x.b)))) ⟨(by rw [if_pos c40]), (by simp only [lap, lc1, ln0]; omega)⟩ ⟨rfl, rfl, rfl, rfl, rfl, rfl, trivial⟩ rfl
 refine To.sp (To.t ?_)
 refine To.he (T1) ⟨(by rw [if_neg (by simp [c40]), List.append_nil]), (Nat.le_trans hL1 (by decide))⟩ ⟨rfl, rfl, rfl, rfl, rfl, rfl, trivial⟩ rfl
 rintro T2 ⟨hT2, hL2⟩
 replace hT2 : T2 = T1 ++ (if uB ((x.op : Nat) : Int) then [32] ++ Lib.itoa x.b else []) := hT2
 replace hL2 : T2.length ≤ 400090 := hL2
 show To _ [(3, .string (BA T2)), (5, pv b5), (8, .bool (uN ((x.op : Nat) : Int))), (10, .slice A l.length q), (11, nv l.length), (12, nv k)] [box b5 [nv x.op, .int .i64 x.a, .int .i64 x.b, .int .i64 x.n] 54, ros Ins.rc A l] _
 refine To.s (To.s (To.g (To.m (To.n (To.t ?_)))))
 refine To.meetC (T := (List UInt8)) (fun t => ([(3, .string (BA (t))), (5, pv b5), (10, .slice A l.length q), (11, nv l.length), (12, nv k)], [box b5 [nv x.op, .int .i64 x.a, .int .i64 x.b, .int .i64 x.n] 54, ros Ins.rc A l])) (fun t => ((t) = T2 ++ (if uN ((x.op : Nat) : Int) then [32] ++ Lib.itoa x.n else [])) ∧ ((t).length ≤ 400120)) ?_ ?_
 refine To.cond rfl (fun c47 => ?_) (fun c47 => ?_)
 refine To.g (To.m ?_)
 refine To.f fl54_3 ?_
 refine To.lo 0 c2 ?_
 refine To.cV rfl rfl rfl (Ent.fn rfl rfl ca54) (dec_fn x.n (by omega) (by omega)) rfl (ocn _) ?_
 refine To.r (Rd.addB (a := [32]) (b := Lib.itoa x.n) rfl rfl rfl (by simp only [lap, lc1, ln0]; omega)) ?_
 refine To.r (Rd.addB (a := T2) (b := [32] ++ (Lib.itoa x.n)) rfl rfl rfl (by simp only [lap, lc1, ln0]; omega)) ?_
 refine To.a (To.n (To.t ?_))
 refine To.he ((T2 ++ ([32] ++ (Lib.itoa x.n)))) ⟨(by rw [if_pos c47]), (by simp only [lap, lc1, ln0]; omega)⟩ ⟨rfl, rfl, rfl, rfl, rfl, trivial⟩ rfl
 refine To.sp (To.t ?_)
 refine To.he (T2) ⟨(by rw [if_neg (by simp [c47]), List.append_nil]), (Nat.le_trans hL2 (by decide))⟩ ⟨rfl, rfl, rfl, rfl, rfl, trivial⟩ rfl
 rintro T3 ⟨hT3, hL3⟩
 replace hT3 : T3 = T2 ++ (if uN ((x.op : Nat) : Int) then [32] ++ Lib.itoa x.n else []) := hT3
 replace hL3 : T3.length ≤ 400120 := hL3
 show To _ [(3, .string (BA T3)), (5, pv b5), (10, .slice A l.length q), (11, nv l.length), (12, nv k)] [box b5 [nv x.op, .int .i64 x.a, .int .i64 x.b, .int .i64 x.n] 54, ros Ins.rc A l] _
 refine To.g (To.m ?_)
 refine To.r (Rd.addB (a := T3) (b := [10]) rfl rfl rfl (by simp only [lap, lc1, ln0]; omega)) ?_
 refine To.a (To.n (To.bn (To.t (To.g ?_))))
 refine To.r (Rd.inc rfl rfl rfl (by omega)) ?_
 refine To.m (To.n (To.t ?_))
 refine To.sub [(3, .string (BA (T3 ++ [10]))), (10, .slice A l.length q), (11, nv l.length), (12, nv ((k + 1)))] ⟨rfl, rfl, rfl, rfl, trivial⟩ ?_
 refine To.del0 ?_
 refine To.ag (l.length - (k + 1)) (by omega) ⟨(T3 ++ [10]), k + 1, rfl, rfl, rfl, (by omega), (by rw [txt_next hx, ← hT, hT3, hT2, hT1, li]; simp only [List.append_assoc])⟩
 refine To.ex (To.tx (To.tx (To.bx (To.t (To.s (To.g (To.m ?_)))))))
 refine To.a (To.n (To.t (To.rt (To.del0 ?_))))
 refine To.end1 (.inl rfl) Tryz.results21 rfl ?_
 show Value.string (BA T) = _
 rw [hT, List.take_of_length_le (by omega)]
end Go.Proofs.YtllalpnmagpkfaaGreatDoor
