/- Run, in general. Own text (walks printed by sx.py). -/
import Derived.Test.YtoehnbacbobhiaaGreatDoorL1
import Derived.Test.YtoehnbacbobhiaaGreatDoorX33
import Derived.Test.YtoehnbacbobhiaaGreatDoorX26
set_option linter.unusedVariables false
set_option linter.unusedSimpArgs false
namespace Go.Proofs.YtoehnbacbobhiaaGreatDoor
open Go.RowKit Go.Flow Go.Mem Go.Sep
set_option maxHeartbeats 2000000 in
set_option maxRecDepth 100000 in
theorem cloneI_fn (A : Option Addr) (q : Nat) (l : List Int) (hl : l.length ≤ 1000000) :
    Does Tryz.prog 16 [.slice A l.length q] [ros encI A l] (fun v Γ' => ∃ B p, v = .slice B l.length p ∧ Γ' = [rows encI 3 1 B p l]) := by
  refine Does.enter Tryz.func16 rfl Tryz.ntmps16 rfl (fun w0 => ?_)
  refine To.seq (To.reg (To.a (To.nil (To.thenN (To.seq (To.seq (To.reg ?_)))))))
  refine To.m ?_
  refine To.r (Rd.as (v' := .bool A.isNone) rfl (Rd.eqlSl (A := A) rfl Tryz.underlying48 rfl rfl)) ?_
  refine To.nil (To.thenN ?_)
  refine To.cond rfl (fun c4 => ?_) (fun c4 => ?_)
  ·
   refine To.seq ?_
   refine To.know (p := l = []) (fun w hw => ros_none encI_ok (by decide) c4 0 rfl hw) (fun hl0 => ?_)
   subst hl0
   refine To.nilRow (encI) 3 1 ?_
   refine To.reg (To.a (To.nil (To.thenN (To.ret (To.thenR ?_)))))
   refine To.only [0] rfl ?_
   refine To.end1 (.inl rfl) Tryz.results16 rfl ?_
   exact ⟨_, _, rfl, rfl⟩
  refine To.skip (To.thenN (To.seq (To.reg ?_)))
  refine To.mk rfl rfl rfl (Mk.slice0R (enc := encI) rfl s48) ?_
  rintro _ _ ⟨A5, rfl, rfl⟩
  refine To.m ?_
  refine To.ge rfl rfl rfl (Ge.appendL encI_ok (i := 0) (m := l) rfl s48 rfl rfl rfl (src_ro (i := 1) rfl) (by first | omega | (simp only [List.length_append, List.length_cons, List.length_nil]; omega)) (by first | omega | (simp only [List.length_append, List.length_cons, List.length_nil]; omega))) ?_
  rintro _ _ ⟨A7, q7, rfl, rfl⟩
  refine To.a (To.nil (To.thenN (To.ret ?_)))
  refine To.only [0] rfl ?_
  refine To.end1 (.inl rfl) Tryz.results16 rfl ?_
  exact ⟨_, _, rfl, rfl⟩
set_option maxHeartbeats 2000000 in
set_option maxRecDepth 100000 in
theorem cloneTb_fn (A : Option Addr) (q : Nat) (l : List Tb) (hl : l.length ≤ 1000000) :
    Does Tryz.prog 19 [.slice A l.length q] [ros Tb.cells A l] (fun v Γ' => ∃ B p, v = .slice B l.length p ∧ Γ' = [rows Tb.cells 40 1 B p l]) := by
  refine Does.enter Tryz.func19 rfl Tryz.ntmps19 rfl (fun w0 => ?_)
  refine To.seq (To.reg (To.a (To.nil (To.thenN (To.seq (To.seq (To.reg ?_)))))))
  refine To.m ?_
  refine To.r (Rd.as (v' := .bool A.isNone) rfl (Rd.eqlSl (A := A) rfl Tryz.underlying37 rfl rfl)) ?_
  refine To.nil (To.thenN ?_)
  refine To.cond rfl (fun c4 => ?_) (fun c4 => ?_)
  ·
   refine To.seq ?_
   refine To.know (p := l = []) (fun w hw => ros_none encTb (by decide) c4 0 rfl hw) (fun hl0 => ?_)
   subst hl0
   refine To.nilRow (Tb.cells) 40 1 ?_
   refine To.reg (To.a (To.nil (To.thenN (To.ret (To.thenR ?_)))))
   refine To.only [0] rfl ?_
   refine To.end1 (.inl rfl) Tryz.results19 rfl ?_
   exact ⟨_, _, rfl, rfl⟩
  refine To.skip (To.thenN (To.seq (To.reg ?_)))
  refine To.mk rfl rfl rfl (Mk.slice0R (enc := Tb.cells) rfl s37) ?_
  rintro _ _ ⟨A5, rfl, rfl⟩
  refine To.m ?_
  refine To.ge rfl rfl rfl (Ge.appendL encTb (i := 0) (m := l) rfl s37 rfl rfl rfl (src_ro (i := 1) rfl) (by first | omega | (simp only [List.length_append, List.length_cons, List.length_nil]; omega)) (by first | omega | (simp only [List.length_append, List.length_cons, List.length_nil]; omega))) ?_
  rintro _ _ ⟨A7, q7, rfl, rfl⟩
  refine To.a (To.nil (To.thenN (To.ret ?_)))
  refine To.only [0] rfl ?_
  refine To.end1 (.inl rfl) Tryz.results19 rfl ?_
  exact ⟨_, _, rfl, rfl⟩
structure Cl where
  Aa : Option Addr
  qa : Nat
  args : List Int
  now : Int
  Ag : Option Addr
  qg : Nat
  flags : List Bool
  dsk : Int
  Af : Option Addr
  qf : Nat
  fail : List Int
def Cl.cells (c : Cl) : List Value := [.slice c.Aa c.args.length c.qa, .int .i64 c.now, .slice c.Ag c.flags.length c.qg, .int .i64 c.dsk, .slice c.Af c.fail.length c.qf]
def Cl.sm (c : Cl) (l : List Ins) : Sm := ⟨none, 0, l, none, 0, c.args, c.now, none, 0, c.flags, c.dsk, none, 0, isort cmpI c.fail⟩
def sameS (s t : Sm) : Prop := s.code = t.code ∧ s.args = t.args ∧ s.now = t.now ∧ s.flags = t.flags ∧ s.dsk = t.dsk ∧ s.fail = t.fail
theorem stepV_same {s t : Sm} (h : sameS s t) (x : Ins) (d : Dv) : stepV s x d = stepV t x d := by
  obtain ⟨h1, h2, h3, h4, h5, h6⟩ := h
  unfold stepV diskV
  rw [h1, h2, h3, h4, h5, h6]
theorem runV_same {s t : Sm} (h : sameS s t) : ∀ (f : Nat) (d : Dv), runV s f d = runV t f d
  | 0, d => by rw [runV, runV, h.1]
  | f + 1, d => by
    rw [runV, runV, h.1]
    simp only [stepV_same h, runV_same h f]
set_option maxHeartbeats 2000000 in
set_option maxRecDepth 100000 in
theorem runBad_fn (pr st : Int) (A : Option Addr) (q : Nat) (l : List Ins) (a : Sx) (c : Cl) (hbad : verifyV pr st l ≠ 0) :
    Does Tryz.prog 5 [.agg #[.int .i64 pr, .int .i64 st, .slice A l.length q], .agg #[.slice a.Av a.vars.length a.qv, .slice a.At a.tabs.length a.qt, .slice a.dk.A a.dk.l.length a.dk.q], .agg #[.slice c.Aa c.args.length c.qa, .int .i64 c.now, .slice c.Ag c.flags.length c.qg, .int .i64 c.dsk, .slice c.Af c.fail.length c.qf]] [ros Ins.cells A l, ros encI a.Av a.vars, ros Tb.cells a.At a.tabs, rosS encEn (a.tabs.map Tb.ar), ros encEn a.dk.A a.dk.l, ros encI c.Aa c.args, ros encB c.Ag c.flags, ros encI c.Af c.fail, tabC] (fun v Γ' => v = .tuple #[.agg #[.slice none 0 0, .slice none 0 0, .slice none 0 0, .slice none 0 0, .int .i64 0], .int .i64 (verifyV pr st l)] ∧ Γ' = []) := by
  refine Does.enter Tryz.func5 rfl Tryz.ntmps5 rfl (fun w0 => ?_)
  refine To.seq (To.reg ?_)
  refine To.boxed rfl rfl rfl rfl rfl rfl (fun b3 => ?_)
  refine To.boxed rfl rfl rfl rfl rfl rfl (fun b4 => ?_)
  refine To.boxed rfl rfl rfl rfl rfl rfl (fun b5 => ?_)
  refine To.alloc rfl rfl rfl rfl z56 (fun b6 => ?_)
  refine To.a (To.nil (To.thenN (To.seq (To.seq (To.reg ?_)))))
  refine To.r (Rd.loadS (i := 3) rfl rfl r31 rfl box_whole rfl) ?_
  refine To.callV rfl rfl rfl (Ent.fn rfl rfl ca7) (verify_fn pr st A q l) rfl (oks_cons (oks_at 4 rfl) (oks_cons (oks_at 12 rfl) (oks_nil _))) ?_
  refine To.a (To.nil (To.thenN (To.seq (To.reg ?_))))
  refine To.m ?_
  refine To.r (Rd.neq rfl rfl rfl) ?_
  refine To.nil (To.thenN ?_)
  refine To.condP rfl (fun k15 => ?_) (fun k15 => ?_)
  ·
   refine To.seq (To.reg ?_)
   refine To.r (Rd.build (vs := []) (cells := [.slice none 0 0, .slice none 0 0, .slice none 0 0, .slice none 0 0, .int .i64 0]) rfl rfl rfl (by kernel_rfl)) ?_
   refine To.m ?_
   refine To.u (Up.storeS (i := 0) rfl rfl rfl r56 rfl rfl rfl (box_takesAll rfl)) ?_
   refine To.a (To.nil (To.thenN (To.ret (To.thenR ?_))))
   refine To.endCT [] rfl (.inl rfl) Tryz.results5 rfl (i := 0) rfl r56 rfl rfl ?_
   exact ⟨rfl, rfl⟩
  exact absurd hbad k15
set_option maxHeartbeats 2000000 in
set_option maxRecDepth 100000 in
theorem runUnfit_fn (pr st : Int) (A : Option Addr) (q : Nat) (l : List Ins) (a : Sx) (c : Cl) (hv0 : verifyV pr st l = 0) (hc : l.length ≤ 4000) (hun : ¬ ((c.args.length : Int) = pr ∧ ∀ x ∈ l, referB x a.vars.length a.tabs.length c.flags.length = true)) :
    Does Tryz.prog 5 [.agg #[.int .i64 pr, .int .i64 st, .slice A l.length q], .agg #[.slice a.Av a.vars.length a.qv, .slice a.At a.tabs.length a.qt, .slice a.dk.A a.dk.l.length a.dk.q], .agg #[.slice c.Aa c.args.length c.qa, .int .i64 c.now, .slice c.Ag c.flags.length c.qg, .int .i64 c.dsk, .slice c.Af c.fail.length c.qf]] [ros Ins.cells A l, ros encI a.Av a.vars, ros Tb.cells a.At a.tabs, rosS encEn (a.tabs.map Tb.ar), ros encEn a.dk.A a.dk.l, ros encI c.Aa c.args, ros encB c.Ag c.flags, ros encI c.Af c.fail, tabC] (fun v Γ' => v = .tuple #[.agg #[.slice none 0 0, .slice none 0 0, .slice none 0 0, .slice none 0 0, .int .i64 0], .int .i64 1] ∧ Γ' = []) := by
  refine Does.enter Tryz.func5 rfl Tryz.ntmps5 rfl (fun w0 => ?_)
  refine To.seq (To.reg ?_)
  refine To.boxed rfl rfl rfl rfl rfl rfl (fun b3 => ?_)
  refine To.boxed rfl rfl rfl rfl rfl rfl (fun b4 => ?_)
  refine To.boxed rfl rfl rfl rfl rfl rfl (fun b5 => ?_)
  refine To.alloc rfl rfl rfl rfl z56 (fun b6 => ?_)
  refine To.a (To.nil (To.thenN (To.seq (To.seq (To.reg ?_)))))
  refine To.r (Rd.loadS (i := 3) rfl rfl r31 rfl box_whole rfl) ?_
  refine To.callV rfl rfl rfl (Ent.fn rfl rfl ca7) ((verify_fn pr st A q l).mono (R' := fun v _ => v = .int .i64 0) (fun v _ h => by rw [h, hv0])) rfl (oks_cons (oks_at 4 rfl) (oks_cons (oks_at 12 rfl) (oks_nil _))) ?_
  refine To.a (To.nil (To.thenN (To.seq (To.reg ?_))))
  refine To.m ?_
  refine To.r (Rd.neq rfl rfl rfl) ?_
  refine To.nil (To.thenN ?_)
  refine To.condF rfl ?_
  refine To.skip (To.thenN (To.seq (To.seq (To.reg ?_))))
  refine To.f fl50_0 ?_
  refine To.lo 1 c24 ?_
  refine To.r (Rd.len rfl rfl Tryz.underlying24) ?_
  refine To.f fl31_0 ?_
  refine To.lo 3 c3 ?_
  refine To.r (Rd.neq rfl rfl rfl) ?_
  refine To.nil (To.thenN ?_)
  refine To.condP rfl (fun k23 => ?_) (fun k23 => ?_)
  ·
   refine To.seq (To.reg ?_)
   refine To.r (Rd.build (vs := []) (cells := [.slice none 0 0, .slice none 0 0, .slice none 0 0, .slice none 0 0, .int .i64 0]) rfl rfl rfl (by kernel_rfl)) ?_
   refine To.u (Up.storeS (i := 0) rfl rfl rfl r56 rfl rfl rfl (box_takesAll rfl)) ?_
   refine To.a (To.nil (To.thenN (To.ret (To.thenR ?_))))
   refine To.endCT [] rfl (.inl rfl) Tryz.results5 rfl (i := 0) rfl r56 rfl rfl ?_
   exact ⟨rfl, rfl⟩
  refine To.skip (To.thenN (To.seq (To.seq (To.reg ?_))))
  refine To.f fl31_2 ?_
  refine To.lo 3 c29 ?_
  refine To.r (Rd.len rfl rfl Tryz.underlying29) ?_
  refine To.m (To.nil (To.thenN (To.block ?_)))
  refine To.sub [(3, .pointer (some ⟨b3, 0, none⟩)), (4, .pointer (some ⟨b4, 0, none⟩)), (5, .pointer (some ⟨b5, 0, none⟩)), (6, .pointer (some ⟨b6, 0, none⟩)), (26, .slice A l.length q), (27, .int .i64 ((l.length : Nat) : Int)), (28, .int .i64 ((0 : Nat) : Int))] ⟨rfl, rfl, rfl, rfl, rfl, rfl, rfl, trivial⟩ ?_
  refine To.up1 ?_
  refine To.up2 ?_
  refine To.up3 ?_
  refine To.loop (fun mz ρ Γ => ∃ (i : Nat), ρ = [(3, .pointer (some ⟨b3, 0, none⟩)), (4, .pointer (some ⟨b4, 0, none⟩)), (5, .pointer (some ⟨b5, 0, none⟩)), (6, .pointer (some ⟨b6, 0, none⟩)), (26, .slice A l.length q), (27, .int .i64 ((l.length : Nat) : Int)), (28, .int .i64 ((i : Nat) : Int))] ∧ Γ = [box b3 [.int .i64 pr, .int .i64 st, .slice A l.length q] 31, box b4 [.slice a.Av a.vars.length a.qv, .slice a.At a.tabs.length a.qt, .slice a.dk.A a.dk.l.length a.dk.q] 42, box b5 [.slice c.Aa c.args.length c.qa, .int .i64 c.now, .slice c.Ag c.flags.length c.qg, .int .i64 c.dsk, .slice c.Af c.fail.length c.qf] 50, box b6 [.slice none 0 0, .slice none 0 0, .slice none 0 0, .slice none 0 0, .int .i64 0] 56, ros Ins.cells A l, ros encI a.Av a.vars, ros Tb.cells a.At a.tabs, rosS encEn (a.tabs.map Tb.ar), ros encEn a.dk.A a.dk.l, ros encI c.Aa c.args, ros encB c.Ag c.flags, ros encI c.Af c.fail, tabC] ∧ mz = l.length - i ∧ (i ≤ l.length) ∧ (∀ y ∈ l.take i, referB y a.vars.length a.tabs.length c.flags.length = true)) (l.length - 0) ⟨0, rfl, rfl, rfl, (Nat.zero_le _), (fun y hy => by simp at hy)⟩ ?_
  rintro mz _ _ ⟨i, rfl, rfl, rfl, hi, hpre⟩
  refine To.seq (To.reg ?_)
  refine To.r (Rd.lss rfl rfl rfl) ?_
  refine To.nil (To.thenN (To.seq ?_))
  refine To.condP rfl (fun k29 => ?_) (fun k29 => ?_)
  ·
   obtain ⟨x, hx⟩ : ∃ z0, l[i]? = some z0 := ⟨l[i]'(by omega), List.getElem?_eq_getElem _⟩
   refine To.skip (To.thenN (To.seq (To.block (To.seq (To.reg ?_)))))
   refine To.r (Rd.indexRos encIn (i := 4) (j := i) rfl rfl rfl s29 rfl hx) ?_
   refine To.r (Rd.loadS (i := 4) rfl rfl r36 rfl (ros_gives encIn hx) (encIn.len _)) ?_
   refine To.alloc rfl rfl rfl rfl z36 (fun b10 => ?_)
   refine To.u (Up.storeS (i := 0) rfl rfl rfl r36 rfl rfl rfl (box_takesAll rfl)) ?_
   refine To.nil (To.thenN (To.seq (To.reg ?_)))
   refine To.r (Rd.loadS (i := 0) rfl rfl r36 rfl box_whole rfl) ?_
   refine To.r (Rd.loadS (i := 2) rfl rfl r42 rfl box_whole rfl) ?_
   refine To.r (Rd.loadS (i := 3) rfl rfl r50 rfl box_whole rfl) ?_
   refine To.callV rfl rfl rfl (Ent.fn rfl rfl ca15) (refers_fn x a.Av a.At a.dk.A c.Aa c.Ag c.Af a.vars.length a.qv a.tabs.length a.qt a.dk.l.length a.dk.q c.args.length c.qa c.flags.length c.qg c.fail.length c.qf c.now c.dsk) rfl (oks_nil _) ?_
   refine To.r (Rd.not rfl rfl) ?_
   refine To.nil (To.thenN ?_)
   refine To.cond rfl (fun k36 => ?_) (fun k36 => ?_)
   ·
    refine To.seq (To.reg ?_)
    refine To.r (Rd.build (vs := []) (cells := [.slice none 0 0, .slice none 0 0, .slice none 0 0, .slice none 0 0, .int .i64 0]) rfl rfl rfl (by kernel_rfl)) ?_
    refine To.u (Up.storeS (i := 4) rfl rfl rfl r56 rfl rfl rfl (box_takesAll rfl)) ?_
    refine To.a (To.nil (To.thenN (To.ret (To.blockR (To.thenR (To.thenR (To.blockR (To.thenR ?_))))))))
    refine To.endCT [] rfl (.inl rfl) Tryz.results5 rfl (i := 4) rfl r56 rfl rfl ?_
    exact ⟨rfl, rfl⟩
   refine To.skip (To.blockN (To.thenN (To.reg ?_)))
   refine To.r (Rd.inc rfl rfl rfl (by omega)) ?_
   refine To.m (To.nil (To.thenN ?_))
   refine To.sub [(3, .pointer (some ⟨b3, 0, none⟩)), (4, .pointer (some ⟨b4, 0, none⟩)), (5, .pointer (some ⟨b5, 0, none⟩)), (6, .pointer (some ⟨b6, 0, none⟩)), (26, .slice A l.length q), (27, .int .i64 ((l.length : Nat) : Int)), (28, .int .i64 (((i + 1) : Nat) : Int))] ⟨rfl, rfl, rfl, rfl, rfl, rfl, rfl, trivial⟩ ?_
   refine To.del0 ?_
   refine To.again (l.length - (i + 1)) (by omega) ⟨i + 1, rfl, rfl, rfl, (by omega), (fun y hy => by
     rw [take_of_get hx] at hy
     rcases List.mem_append.1 hy with h1 | h1
     · exact hpre y h1
     · rw [List.mem_singleton.1 h1]; simpa using k36)⟩
  refine absurd ⟨Decidable.of_not_not k23, fun y hy => ?_⟩ hun
  rw [show l = l.take i from (List.take_of_length_le (by omega)).symm] at hy
  exact hpre y hy
set_option maxHeartbeats 2000000 in
set_option maxRecDepth 100000 in
theorem runOk_fn (pr st : Int) (A : Option Addr) (q : Nat) (l : List Ins) (a : Sx) (c : Cl) (hv0 : verifyV pr st l = 0) (hc : l.length ≤ 4000) (hpr : (c.args.length : Int) = pr) (href : ∀ x ∈ l, referB x a.vars.length a.tabs.length c.flags.length = true) (hsm : a.vars.length ≤ 1000000 ∧ a.tabs.length ≤ 1000000) (hfl : c.fail.length ≤ 12) (hdsk : 0 ≤ c.dsk ∧ c.dsk ≤ 1000000000) (hgt : ∀ y ∈ a.tabs, Good y.l) (hgd : Good a.dk.l) (hcaps : ∀ y ∈ a.tabs, y.l.length ≤ y.q) (hcapd : a.dk.l.length ≤ a.dk.q) :
    Does Tryz.prog 5 [.agg #[.int .i64 pr, .int .i64 st, .slice A l.length q], .agg #[.slice a.Av a.vars.length a.qv, .slice a.At a.tabs.length a.qt, .slice a.dk.A a.dk.l.length a.dk.q], .agg #[.slice c.Aa c.args.length c.qa, .int .i64 c.now, .slice c.Ag c.flags.length c.qg, .int .i64 c.dsk, .slice c.Af c.fail.length c.qf]] [ros Ins.cells A l, ros encI a.Av a.vars, ros Tb.cells a.At a.tabs, rosS encEn (a.tabs.map Tb.ar), ros encEn a.dk.A a.dk.l, ros encI c.Aa c.args, ros encB c.Ag c.flags, ros encI c.Af c.fail, tabC] (fun v Γ' => ∃ d' : Dm, v = .tuple #[.agg #[.slice d'.Av d'.vars.length d'.qv, .slice d'.At d'.tabs.length d'.qt, .slice d'.dk.A d'.dk.l.length d'.dk.q, .slice d'.Ae d'.effs.length d'.qe, .int .i64 d'.cost], .int .i64 0] ∧ Γ' = [rows encI 2 1 d'.Av d'.qv d'.vars, rows Tb.cells 40 1 d'.At d'.qt d'.tabs, rosS encEn (d'.tabs.map Tb.ar), ros encEn d'.dk.A d'.dk.l, rows Ef.cells 84 8 d'.Ae d'.qe d'.effs, rosS encI (d'.effs.map Ef.ar)] ∧ d'.val = runV (c.sm l) 1048576 (d0G a.vars (a.tabs.map Tb.l) a.dk.l) ∧ capsD d') := by
  refine Does.enter Tryz.func5 rfl Tryz.ntmps5 rfl (fun w0 => ?_)
  refine To.seq (To.reg ?_)
  refine To.boxed rfl rfl rfl rfl rfl rfl (fun b3 => ?_)
  refine To.boxed rfl rfl rfl rfl rfl rfl (fun b4 => ?_)
  refine To.boxed rfl rfl rfl rfl rfl rfl (fun b5 => ?_)
  refine To.alloc rfl rfl rfl rfl z56 (fun b6 => ?_)
  refine To.a (To.nil (To.thenN (To.seq (To.seq (To.reg ?_)))))
  refine To.r (Rd.loadS (i := 3) rfl rfl r31 rfl box_whole rfl) ?_
  refine To.callV rfl rfl rfl (Ent.fn rfl rfl ca7) ((verify_fn pr st A q l).mono (R' := fun v _ => v = .int .i64 0) (fun v _ h => by rw [h, hv0])) rfl (oks_cons (oks_at 4 rfl) (oks_cons (oks_at 12 rfl) (oks_nil _))) ?_
  refine To.a (To.nil (To.thenN (To.seq (To.reg ?_))))
  refine To.m ?_
  refine To.r (Rd.neq rfl rfl rfl) ?_
  refine To.nil (To.thenN ?_)
  refine To.condF rfl ?_
  refine To.skip (To.thenN (To.seq (To.seq (To.reg ?_))))
  refine To.f fl50_0 ?_
  refine To.lo 1 c24 ?_
  refine To.r (Rd.len rfl rfl Tryz.underlying24) ?_
  refine To.f fl31_0 ?_
  refine To.lo 3 c3 ?_
  refine To.r (Rd.neq rfl rfl rfl) ?_
  refine To.nil (To.thenN ?_)
  refine To.condP rfl (fun k23 => ?_) (fun k23 => ?_)
  ·
   exact absurd hpr k23
  refine To.skip (To.thenN (To.seq (To.seq (To.reg ?_))))
  refine To.f fl31_2 ?_
  refine To.lo 3 c29 ?_
  refine To.r (Rd.len rfl rfl Tryz.underlying29) ?_
  refine To.m (To.nil (To.thenN (To.block ?_)))
  refine To.sub [(3, .pointer (some ⟨b3, 0, none⟩)), (4, .pointer (some ⟨b4, 0, none⟩)), (5, .pointer (some ⟨b5, 0, none⟩)), (6, .pointer (some ⟨b6, 0, none⟩)), (26, .slice A l.length q), (27, .int .i64 ((l.length : Nat) : Int)), (28, .int .i64 ((0 : Nat) : Int))] ⟨rfl, rfl, rfl, rfl, rfl, rfl, rfl, trivial⟩ ?_
  refine To.up1 ?_
  refine To.up2 ?_
  refine To.up3 ?_
  refine To.loop (fun mz ρ Γ => ∃ (i : Nat), ρ = [(3, .pointer (some ⟨b3, 0, none⟩)), (4, .pointer (some ⟨b4, 0, none⟩)), (5, .pointer (some ⟨b5, 0, none⟩)), (6, .pointer (some ⟨b6, 0, none⟩)), (26, .slice A l.length q), (27, .int .i64 ((l.length : Nat) : Int)), (28, .int .i64 ((i : Nat) : Int))] ∧ Γ = [box b3 [.int .i64 pr, .int .i64 st, .slice A l.length q] 31, box b4 [.slice a.Av a.vars.length a.qv, .slice a.At a.tabs.length a.qt, .slice a.dk.A a.dk.l.length a.dk.q] 42, box b5 [.slice c.Aa c.args.length c.qa, .int .i64 c.now, .slice c.Ag c.flags.length c.qg, .int .i64 c.dsk, .slice c.Af c.fail.length c.qf] 50, box b6 [.slice none 0 0, .slice none 0 0, .slice none 0 0, .slice none 0 0, .int .i64 0] 56, ros Ins.cells A l, ros encI a.Av a.vars, ros Tb.cells a.At a.tabs, rosS encEn (a.tabs.map Tb.ar), ros encEn a.dk.A a.dk.l, ros encI c.Aa c.args, ros encB c.Ag c.flags, ros encI c.Af c.fail, tabC] ∧ mz = l.length - i ∧ (i ≤ l.length)) (l.length - 0) ⟨0, rfl, rfl, rfl, (Nat.zero_le _)⟩ ?_
  rintro mz _ _ ⟨i, rfl, rfl, rfl, hi⟩
  refine To.seq (To.reg ?_)
  refine To.r (Rd.lss rfl rfl rfl) ?_
  refine To.nil (To.thenN (To.seq ?_))
  refine To.condP rfl (fun k29 => ?_) (fun k29 => ?_)
  ·
   obtain ⟨x, hx⟩ : ∃ z0, l[i]? = some z0 := ⟨l[i]'(by omega), List.getElem?_eq_getElem _⟩
   refine To.skip (To.thenN (To.seq (To.block (To.seq (To.reg ?_)))))
   refine To.r (Rd.indexRos encIn (i := 4) (j := i) rfl rfl rfl s29 rfl hx) ?_
   refine To.r (Rd.loadS (i := 4) rfl rfl r36 rfl (ros_gives encIn hx) (encIn.len _)) ?_
   refine To.alloc rfl rfl rfl rfl z36 (fun b10 => ?_)
   refine To.u (Up.storeS (i := 0) rfl rfl rfl r36 rfl rfl rfl (box_takesAll rfl)) ?_
   refine To.nil (To.thenN (To.seq (To.reg ?_)))
   refine To.r (Rd.loadS (i := 0) rfl rfl r36 rfl box_whole rfl) ?_
   refine To.r (Rd.loadS (i := 2) rfl rfl r42 rfl box_whole rfl) ?_
   refine To.r (Rd.loadS (i := 3) rfl rfl r50 rfl box_whole rfl) ?_
   refine To.callV rfl rfl rfl (Ent.fn rfl rfl ca15) ((refers_fn x a.Av a.At a.dk.A c.Aa c.Ag c.Af a.vars.length a.qv a.tabs.length a.qt a.dk.l.length a.dk.q c.args.length c.qa c.flags.length c.qg c.fail.length c.qf c.now c.dsk).mono (R' := fun v _ => v = .bool true) (fun v _ h => by rw [h, href x (List.mem_of_getElem? hx)])) rfl (oks_nil _) ?_
   refine To.r (Rd.not rfl rfl) ?_
   refine To.nil (To.thenN ?_)
   refine To.condF rfl ?_
   refine To.skip (To.blockN (To.thenN (To.reg ?_)))
   refine To.r (Rd.inc rfl rfl rfl (by omega)) ?_
   refine To.m (To.nil (To.thenN ?_))
   refine To.sub [(3, .pointer (some ⟨b3, 0, none⟩)), (4, .pointer (some ⟨b4, 0, none⟩)), (5, .pointer (some ⟨b5, 0, none⟩)), (6, .pointer (some ⟨b6, 0, none⟩)), (26, .slice A l.length q), (27, .int .i64 ((l.length : Nat) : Int)), (28, .int .i64 (((i + 1) : Nat) : Int))] ⟨rfl, rfl, rfl, rfl, rfl, rfl, rfl, trivial⟩ ?_
   refine To.del0 ?_
   refine To.again (l.length - (i + 1)) (by omega) ⟨i + 1, rfl, rfl, rfl, (by omega)⟩
  refine To.exit (To.thenX (To.thenX (To.blockX (To.thenN (To.seq (To.reg ?_))))))
  refine To.f fl31_2 ?_
  refine To.lo 0 c29 ?_
  refine To.r (Rd.loadS (i := 2) rfl rfl r50 rfl box_whole rfl) ?_
  refine To.r (Rd.build (vs := [(1, .slice A l.length q), (2, .agg #[.slice c.Aa c.args.length c.qa, .int .i64 c.now, .slice c.Ag c.flags.length c.qg, .int .i64 c.dsk, .slice c.Af c.fail.length c.qf])]) (cells := [.slice none 0 0, .slice none 0 0, .slice none 0 0, .slice none 0 0, .int .i64 0, .slice A l.length q, .slice c.Aa c.args.length c.qa, .int .i64 c.now, .slice c.Ag c.flags.length c.qg, .int .i64 c.dsk, .slice c.Af c.fail.length c.qf, .slice none 0 0, .int .i64 0, .int .i64 0, .int .i64 0, .bool false]) rfl rfl rfl (by kernel_rfl)) ?_
  refine To.boxed rfl rfl rfl rfl rfl rfl (fun b43 => ?_)
  refine To.a (To.nil (To.thenN (To.seq (To.reg ?_))))
  refine To.m ?_
  refine To.f fl50_4 ?_
  refine To.lo 3 c48 ?_
  refine To.callQ rfl rfl rfl (Ent.fn rfl rfl ca16) (cloneI_fn c.Af c.qf c.fail (by omega)) rfl (oks_cons (oks_at 12 rfl) (oks_nil _)) ?_
  rintro _ _ ⟨Bf, pf, rfl, rfl⟩
  refine ⟨rfl, ?_⟩
  refine To.r (Rd.nilCheck rfl rfl) ?_
  refine To.f fl77_2 ?_
  refine To.f fl50_4 ?_
  refine To.u (Up.store (i := 1) rfl rfl rfl c48 rfl rfl (box_takes1 rfl)) ?_
  refine To.nil (To.thenN (To.seq (To.reg (To.m ?_))))
  refine To.r (Rd.nilCheck rfl rfl) ?_
  refine To.f fl77_2 ?_
  refine To.f fl50_4 ?_
  refine To.lo 1 c48 ?_
  refine To.call [0] rfl rfl rfl (Ent.fn rfl rfl ca17) rfl (sortI_fn Bf pf c.fail (by omega)) ?_
  rintro _ _ ⟨rfl, rfl⟩
  refine To.nil (To.thenN (To.seq ?_))
  refine To.as [rows encI 3 1 Bf pf (isort cmpI c.fail), box b43 [.slice none 0 0, .slice none 0 0, .slice none 0 0, .slice none 0 0, .int .i64 0, .slice A l.length q, .slice c.Aa c.args.length c.qa, .int .i64 c.now, .slice c.Ag c.flags.length c.qg, .int .i64 c.dsk, .slice Bf ((isort cmpI c.fail).length) pf, .slice none 0 0, .int .i64 0, .int .i64 0, .int .i64 0, .bool false] 77, box b3 [.int .i64 pr, .int .i64 st, .slice A l.length q] 31, box b4 [.slice a.Av a.vars.length a.qv, .slice a.At a.tabs.length a.qt, .slice a.dk.A a.dk.l.length a.dk.q] 42, box b5 [.slice c.Aa c.args.length c.qa, .int .i64 c.now, .slice c.Ag c.flags.length c.qg, .int .i64 c.dsk, .slice c.Af c.fail.length c.qf] 50, box b6 [.slice none 0 0, .slice none 0 0, .slice none 0 0, .slice none 0 0, .int .i64 0] 56, ros Ins.cells A l, ros encI a.Av a.vars, ros Tb.cells a.At a.tabs, rosS encEn (a.tabs.map Tb.ar), ros encEn a.dk.A a.dk.l, ros encI c.Aa c.args, ros encB c.Ag c.flags, ros encI c.Af c.fail, tabC] (by rw [isort_len] <;> rfl) ?_
  refine To.layRow ?_
  refine To.flow [box b4 [.slice a.Av a.vars.length a.qv, .slice a.At a.tabs.length a.qt, .slice a.dk.A a.dk.l.length a.dk.q] 42] [⟨0, [], 0⟩, ⟨1, [], 0⟩, ⟨2, [], 0⟩, ⟨4, [], 0⟩, ⟨5, [], 0⟩, ⟨7, [], 0⟩, ⟨8, [], 0⟩, ⟨3, [], 4⟩, ⟨6, [3], 4⟩, ⟨9, [3, 6], 0⟩, ⟨10, [3, 6], 0⟩, ⟨11, [3, 6], 0⟩, ⟨12, [3, 6], 0⟩, ⟨13, [3, 6], 5⟩] mixed (by kernel_rfl) (oks_cons (oks_at 3 rfl) (oks_nil _)) ?_
  refine FlowS.mo ?_
  refine FlowS.fi fl42_0 ?_
  refine FlowS.th 0 c24 ?_
  refine FlowS.fi fl42_1 ?_
  refine FlowS.th 0 c37 ?_
  refine FlowS.fi fl42_2 ?_
  refine FlowS.f rfl (Rd.loadS (i := 0) (us := [.slice a.dk.A a.dk.l.length a.dk.q]) rfl rfl r40 rfl (box_gives (n := 1) rfl) rfl) ?_
  refine FlowS.callM rfl rfl rfl rfl rfl (Ent.fn rfl rfl ca18) (clone64_fn a.Av a.qv a.vars hsm.1) rfl (oks_cons (oks_at 7 rfl) (oks_nil _)) ?_
  rintro _ _ ⟨Bv, pv, rfl, rfl⟩
  refine ⟨rfl, ?_⟩
  refine FlowS.callM rfl rfl rfl rfl rfl (Ent.fn rfl rfl ca19) (cloneTb_fn a.At a.qt a.tabs hsm.2) rfl (oks_cons (oks_at 9 rfl) (oks_nil _)) ?_
  rintro _ _ ⟨Bt, pt, rfl, rfl⟩
  refine ⟨rfl, ?_⟩
  refine FlowS.f rfl (Rd.build (vs := [(0, .slice Bv a.vars.length pv), (1, .slice Bt a.tabs.length pt), (2, .agg #[.slice a.dk.A a.dk.l.length a.dk.q])]) (cells := [.slice Bv a.vars.length pv, .slice Bt a.tabs.length pt, .slice a.dk.A a.dk.l.length a.dk.q]) rfl rfl rfl (by kernel_rfl)) ?_
  refine FlowS.f rfl (Rd.nilCheck rfl rfl) ?_
  refine FlowS.fi fl77_0 ?_
  refine FlowS.fi fl56_0 ?_
  refine FlowS.up rfl rfl rfl (Up.storeS (i := 3) rfl rfl rfl r42 rfl rfl rfl (box_takes (ds := [.slice Bv a.vars.length pv, .slice Bt a.tabs.length pt, .slice a.dk.A a.dk.l.length a.dk.q, .slice none 0 0, .int .i64 0, .slice A l.length q, .slice c.Aa c.args.length c.qa, .int .i64 c.now, .slice c.Ag c.flags.length c.qg, .int .i64 c.dsk, .slice Bf ((isort cmpI c.fail).length) pf, .slice none 0 0, .int .i64 0, .int .i64 0, .int .i64 0, .bool false]) rfl rfl)) (oks_cons (oks_at 5 rfl) (oks_nil _)) ?_
  refine FlowS.fin ?_
  refine To.thenN (To.seq ?_)
  refine To.nilRow (encI) 2 1 ?_
  refine To.nilRow (Ef.cells) 84 8 ?_
  refine To.nilS (enc := encI) ?_
  obtain ⟨I, hR, hI⟩ := all_run (s := (⟨A, q, l, c.Aa, c.qa, c.args, c.now, c.Ag, c.qg, c.flags, c.dsk, Bf, pf, isort cmpI c.fail⟩ : Sm)) (V := a.vars) (tb := a.tabs.map Tb.l) (dk := a.dk.l) hv0 (fun x hx => by rw [List.length_map]; exact href x hx) hpr (isortI_asc _) (by show (isort cmpI c.fail).length ≤ 1000000; rw [isort_len]; omega) hdsk (fun t ht => by obtain ⟨y, hy, rfl⟩ := List.mem_map.1 ht; exact hgt y hy) hgd
  refine To.reg (To.m ?_)
  refine To.call [6, 4, 3, 11, 11, 1, 0, 0, 8, 8, 0, 4] rfl rfl rfl (Ent.fn rfl rfl ca20) rfl (run_fn b43 (⟨A, q, l, c.Aa, c.qa, c.args, c.now, c.Ag, c.qg, c.flags, c.dsk, Bf, pf, isort cmpI c.fail⟩ : Sm) I hR hc (⟨Bv, pv, a.vars, Bt, pt, a.tabs, a.dk, none, 0, [], 0, none, 0, [], 0, 0, 0, false⟩ : Dm) hI ⟨hcaps, hcapd⟩) ?_
  rintro _ _ ⟨rfl, d', rfl, hv, hcap⟩
  refine To.nil (To.thenN (To.seq (To.reg (To.m ?_))))
  refine To.r (Rd.nilCheck rfl rfl) ?_
  refine To.f fl77_0 ?_
  refine To.r (Rd.loadS (i := 0) (us := [.slice d'.Av d'.vars.length d'.qv, .slice d'.At d'.tabs.length d'.qt, .slice d'.dk.A d'.dk.l.length d'.dk.q, .slice d'.Ae d'.effs.length d'.qe, .int .i64 d'.cost]) rfl rfl r56 rfl (box_gives (n := 5) rfl) rfl) ?_
  refine To.u (Up.storeS (i := 11) rfl rfl rfl r56 rfl rfl rfl (box_takesAll rfl)) ?_
  refine To.a (To.nil (To.thenN (To.ret ?_)))
  refine To.endCT [1, 1, 1, 1, 1, 1] rfl (.inl rfl) Tryz.results5 rfl (i := 11) rfl r56 rfl rfl ?_
  have e0 : (⟨Bv, pv, a.vars, Bt, pt, a.tabs, a.dk, none, 0, [], 0, none, 0, [], 0, 0, 0, false⟩ : Dm).val = d0G a.vars (a.tabs.map Tb.l) a.dk.l := rfl
  rw [e0, runV_same (s := (⟨A, q, l, c.Aa, c.qa, c.args, c.now, c.Ag, c.qg, c.flags, c.dsk, Bf, pf, isort cmpI c.fail⟩ : Sm)) (t := c.sm l) ⟨rfl, rfl, rfl, rfl, rfl, rfl⟩ 1048576] at hv
  exact ⟨d', rfl, rfl, hv, hcap⟩
end Go.Proofs.YtoehnbacbobhiaaGreatDoor
