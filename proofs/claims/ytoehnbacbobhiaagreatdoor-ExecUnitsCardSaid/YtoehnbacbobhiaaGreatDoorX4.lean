/- A unit verified; the machine, and its stack. Own text (walks printed by sx.py). -/
import Derived.Test.YtoehnbacbobhiaaGreatDoorL1
import Derived.Test.YtoehnbacbobhiaaGreatDoorX3
set_option linter.unusedVariables false
set_option linter.unusedSimpArgs false
namespace Go.Proofs.YtoehnbacbobhiaaGreatDoor
open Go.RowKit Go.Flow Go.Mem Go.Sep
def verifyV (pr st : Int) (l : List Ins) : Int :=
  if 64 < st ∨ 4000 < l.length then 3 else if pr < 0 ∨ 4 < pr then 6 else if ¬ ∀ x ∈ l, formedB pr l.length x = true then 6 else if (heightsV l).2 = false ∨ (heightsV l).1 ≠ st then 6 else 0
theorem verify_ok {pr st : Int} {l : List Ins} (h1 : ¬ (64 < st ∨ 4000 < l.length)) (h2 : ¬ (pr < 0 ∨ 4 < pr)) (h3 : ∀ x ∈ l, formedB pr l.length x = true) : verifyV pr st l = if (heightsV l).2 = false ∨ (heightsV l).1 ≠ st then 6 else 0 := by
  rw [verifyV, if_neg h1, if_neg h2, if_neg (fun h => h h3)]
set_option maxHeartbeats 2000000 in
set_option maxRecDepth 100000 in
theorem verify_fn (pr st : Int) (A : Option Addr) (q : Nat) (l : List Ins) :
    Does Tryz.prog 7 [.agg #[.int .i64 pr, .int .i64 st, .slice A l.length q]] [ros Ins.cells A l, tabC] (fun v _ => v = .int .i64 (verifyV pr st l)) := by
  refine Does.enter Tryz.func7 rfl Tryz.ntmps7 rfl (fun w0 => ?_)
  refine To.seq (To.reg ?_)
  refine To.boxed rfl rfl rfl rfl rfl rfl (fun b1 => ?_)
  refine To.a (To.nil (To.thenN (To.seq (To.seq (To.reg ?_)))))
  refine To.f fl31_1 ?_
  refine To.lo 0 c3 ?_
  refine To.r (Rd.gtr rfl rfl rfl) ?_
  refine To.rdP rfl rfl rfl (Rd.move rfl rfl) (fun g10 => ?_) (fun g10 => ?_)
  ·
   refine To.k ?_
   refine To.k ?_
   refine To.k ?_
   refine To.k ?_
   refine To.r (Rd.pickT rfl rfl rfl) ?_
   refine To.nil (To.thenN ?_)
   refine To.condT rfl ?_
   refine To.seq (To.reg (To.a (To.nil (To.thenN (To.ret (To.thenR ?_))))))
   refine To.end1 (.inl rfl) Tryz.results7 rfl ?_
   rw [verifyV, if_pos (by omega)]
  refine To.f fl31_2 ?_
  refine To.lo 0 c29 ?_
  refine To.r (Rd.len rfl rfl Tryz.underlying29) ?_
  refine To.r (Rd.gtr rfl rfl rfl) ?_
  refine To.r (Rd.pickF rfl rfl rfl) ?_
  refine To.nil (To.thenN ?_)
  refine To.condP rfl (fun c15 => ?_) (fun c15 => ?_)
  ·
   refine To.seq (To.reg (To.a (To.nil (To.thenN (To.ret (To.thenR ?_))))))
   refine To.end1 (.inl rfl) Tryz.results7 rfl ?_
   rw [verifyV, if_pos (by omega)]
  refine To.skip (To.thenN (To.seq (To.seq (To.reg ?_))))
  refine To.f fl31_0 ?_
  refine To.lo 0 c3 ?_
  refine To.r (Rd.lss rfl rfl rfl) ?_
  refine To.rdP rfl rfl rfl (Rd.move rfl rfl) (fun g19 => ?_) (fun g19 => ?_)
  ·
   refine To.k ?_
   refine To.k ?_
   refine To.k ?_
   refine To.r (Rd.pickT rfl rfl rfl) ?_
   refine To.nil (To.thenN ?_)
   refine To.condT rfl ?_
   refine To.seq (To.reg (To.a (To.nil (To.thenN (To.ret (To.thenR ?_))))))
   refine To.end1 (.inl rfl) Tryz.results7 rfl ?_
   rw [verifyV, if_neg (by omega), if_pos (by omega)]
  refine To.f fl31_0 ?_
  refine To.lo 0 c3 ?_
  refine To.r (Rd.gtr rfl rfl rfl) ?_
  refine To.r (Rd.pickF rfl rfl rfl) ?_
  refine To.nil (To.thenN ?_)
  refine To.condP rfl (fun c23 => ?_) (fun c23 => ?_)
  ·
   refine To.seq (To.reg (To.a (To.nil (To.thenN (To.ret (To.thenR ?_))))))
   refine To.end1 (.inl rfl) Tryz.results7 rfl ?_
   rw [verifyV, if_neg (by omega), if_pos (by omega)]
  refine To.skip (To.thenN (To.seq (To.seq (To.reg ?_))))
  refine To.f fl31_2 ?_
  refine To.lo 0 c29 ?_
  refine To.r (Rd.len rfl rfl Tryz.underlying29) ?_
  refine To.m (To.nil (To.thenN (To.block ?_)))
  refine To.sub [(1, .pointer (some ⟨b1, 0, none⟩)), (25, .slice A l.length q), (26, .int .i64 ((l.length : Nat) : Int)), (27, .int .i64 ((0 : Nat) : Int))] ⟨rfl, rfl, rfl, rfl, trivial⟩ ?_
  refine To.only [0, 0, 0] rfl ?_
  refine To.loop (fun mz ρ Γ => ∃ (i : Nat), ρ = [(1, .pointer (some ⟨b1, 0, none⟩)), (25, .slice A l.length q), (26, .int .i64 ((l.length : Nat) : Int)), (27, .int .i64 ((i : Nat) : Int))] ∧ Γ = [box b1 [.int .i64 pr, .int .i64 st, .slice A l.length q] 31, ros Ins.cells A l, tabC] ∧ mz = l.length - i ∧ (i ≤ l.length) ∧ (∀ x ∈ l.take i, formedB pr l.length x = true)) (l.length - 0) ⟨0, rfl, rfl, rfl, (Nat.zero_le _), (fun x hx => by simp at hx)⟩ ?_
  rintro mz _ _ ⟨i, rfl, rfl, rfl, hi, hI⟩
  refine To.seq (To.reg ?_)
  refine To.r (Rd.lss rfl rfl rfl) ?_
  refine To.nil (To.thenN (To.seq ?_))
  refine To.condP rfl (fun c28 => ?_) (fun c28 => ?_)
  ·
   obtain ⟨x, hx⟩ : ∃ z0, l[i]? = some z0 := ⟨l[i]'(by omega), List.getElem?_eq_getElem _⟩
   refine To.skip (To.thenN (To.seq (To.block (To.seq (To.reg ?_)))))
   refine To.r (Rd.indexRos encIn (i := 1) (j := i) rfl rfl rfl s29 rfl hx) ?_
   refine To.r (Rd.loadS (i := 1) rfl rfl r36 rfl (ros_gives encIn hx) (encIn.len _)) ?_
   refine To.alloc rfl rfl rfl rfl z36 (fun b4 => ?_)
   refine To.u (Up.storeS (i := 0) rfl rfl rfl r36 rfl rfl rfl (box_takesAll rfl)) ?_
   refine To.nil (To.thenN (To.seq (To.reg ?_)))
   refine To.r (Rd.loadS (i := 1) rfl rfl r31 rfl box_whole rfl) ?_
   refine To.r (Rd.loadS (i := 0) rfl rfl r36 rfl box_whole rfl) ?_
   refine To.callV rfl rfl rfl (Ent.fn rfl rfl ca21) (formed_fn pr st A q l x) rfl (oks_cons (oks_at 3 rfl) (oks_nil _)) ?_
   refine To.r (Rd.not rfl rfl) ?_
   refine To.nil (To.thenN ?_)
   refine To.cond rfl (fun c34 => ?_) (fun c34 => ?_)
   ·
    refine To.seq (To.reg (To.a (To.nil (To.thenN (To.ret (To.blockR (To.thenR (To.thenR (To.blockR (To.thenR ?_))))))))))
    refine To.end1 (.inl rfl) Tryz.results7 rfl ?_
    rw [verifyV, if_neg (by omega), if_neg (by omega), if_pos (fun h => by rw [h x (List.mem_of_getElem? hx)] at c34; cases c34)]
   refine To.skip (To.blockN (To.thenN (To.reg ?_)))
   refine To.r (Rd.inc rfl rfl rfl (by omega)) ?_
   refine To.m (To.nil (To.thenN ?_))
   refine To.sub [(1, .pointer (some ⟨b1, 0, none⟩)), (25, .slice A l.length q), (26, .int .i64 ((l.length : Nat) : Int)), (27, .int .i64 (((i + 1) : Nat) : Int))] ⟨rfl, rfl, rfl, rfl, trivial⟩ ?_
   refine To.only [1, 1, 1] rfl ?_
   refine To.again (l.length - (i + 1)) (by omega) ⟨i + 1, rfl, rfl, rfl, (by omega), (fun z hz => by
     rw [take_of_get hx] at hz
     rcases List.mem_append.1 hz with h0 | h0
     · exact hI z h0
     · rw [List.mem_singleton.1 h0]; simpa using c34)⟩
  refine To.exit (To.thenX (To.thenX (To.blockX (To.thenN (To.seq (To.seq ?_))))))
  have hall : ∀ x ∈ l, formedB pr l.length x = true := by rw [show l = l.take i from (List.take_of_length_le (by omega)).symm]; rw [List.take_of_length_le (by omega : l.length ≤ i)] at hI ⊢; exact hI
  refine To.reg ?_
  refine To.f fl31_2 ?_
  refine To.lo 0 c29 ?_
  refine To.callV rfl rfl rfl (Ent.fn rfl rfl ca22) (heights_fn pr A q l (by omega) hall) rfl (oks_cons (oks_at 1 rfl) (oks_cons (oks_at 2 rfl) (oks_nil _))) ?_
  refine To.m ?_
  refine To.r (Rd.extract rfl rfl rfl) ?_
  refine To.r (Rd.extract rfl rfl rfl) ?_
  refine To.a ?_
  refine To.a (To.nil (To.thenN (To.seq (To.reg ?_))))
  refine To.m ?_
  refine To.r (Rd.not rfl rfl) ?_
  refine To.rdB rfl rfl rfl (Rd.move rfl rfl) (fun g44 => ?_) (fun g44 => ?_)
  ·
   refine To.k ?_
   refine To.k ?_
   refine To.k ?_
   refine To.k ?_
   refine To.r (Rd.pickT rfl rfl rfl) ?_
   refine To.nil (To.thenN ?_)
   refine To.condT rfl ?_
   refine To.seq (To.reg (To.a (To.nil (To.thenN (To.ret (To.thenR ?_))))))
   refine To.end1 (.inl rfl) Tryz.results7 rfl ?_
   rw [verify_ok (by omega) (by omega) hall]
   rcases hgd : (heightsV l).2 with _ | _ <;> simp_all
  refine To.m ?_
  refine To.f fl31_1 ?_
  refine To.lo 0 c3 ?_
  refine To.r (Rd.neq rfl rfl rfl) ?_
  refine To.r (Rd.pickF rfl rfl rfl) ?_
  refine To.nil (To.thenN ?_)
  refine To.condP rfl (fun c49 => ?_) (fun c49 => ?_)
  ·
   refine To.seq (To.reg (To.a (To.nil (To.thenN (To.ret (To.thenR ?_))))))
   refine To.end1 (.inl rfl) Tryz.results7 rfl ?_
   rw [verify_ok (by omega) (by omega) hall]
   rcases hgd : (heightsV l).2 with _ | _ <;> simp_all
  refine To.skip (To.thenN (To.seq (To.reg (To.a (To.nil (To.thenN (To.ret ?_)))))))
  refine To.end1 (.inl rfl) Tryz.results7 rfl ?_
  rw [verify_ok (by omega) (by omega) hall]
  rcases hgd : (heightsV l).2 with _ | _ <;> simp_all
structure Sm where
  Ac : Option Addr
  qc : Nat
  code : List Ins
  Aa : Option Addr
  qa : Nat
  args : List Int
  now : Int
  Ag : Option Addr
  qg : Nat
  flags : List Bool
  dsk : Int
  Af : Option Addr
  qf : Nat
  fail : List Int
structure Dm where
  Av : Option Addr
  qv : Nat
  vars : List Int
  At : Option Addr
  qt : Nat
  tabs : List Tb
  dk : Tb
  Ae : Option Addr
  qe : Nat
  effs : List Ef
  cost : Int
  As : Option Addr
  qs : Nat
  stack : List Int
  next : Int
  sends : Int
  disks : Int
  fault : Bool
def mc (s : Sm) (d : Dm) : List Value := [.slice d.Av d.vars.length d.qv, .slice d.At d.tabs.length d.qt, .slice d.dk.A d.dk.l.length d.dk.q, .slice d.Ae d.effs.length d.qe, .int .i64 d.cost, .slice s.Ac s.code.length s.qc, .slice s.Aa s.args.length s.qa, .int .i64 s.now, .slice s.Ag s.flags.length s.qg, .int .i64 s.dsk, .slice s.Af s.fail.length s.qf, .slice d.As d.stack.length d.qs, .int .i64 d.next, .int .i64 d.sends, .int .i64 d.disks, .bool d.fault]
theorem rows_cap {Γ : List Chunk} {w : World} {α : Type} {enc : α → List Value} {size : Nat} {e : TypeId} {A : Option Addr} {cap : Nat} {l : List α} (i : Nat) (h : Γ[i]? = some (rows enc e size A cap l)) (hs : sat Γ w) : l.length ≤ cap := by
  obtain ⟨A', cap', h1, _, h2, _⟩ := own_form (show w.ownsRow 0 e size (.slice A l.length cap) l.length _ from hs.each _ (List.mem_of_getElem? h))
  simp only [Value.slice.injEq] at h1
  omega
theorem last_at {l : List Int} (h : 0 < l.length) : l[l.length - 1]? = some (l.getLastD 0) := by
  rw [← List.getLast?_eq_getElem?, List.getLastD_eq_getLast?]
  cases hl : l.getLast? with
  | none => rw [List.getLast?_eq_none_iff] at hl; rw [hl] at h; simp at h
  | some x => rfl
set_option maxHeartbeats 2000000 in
set_option maxRecDepth 100000 in
theorem push_fn (b : Nat) (s : Sm) (d : Dm) (x : Int) (hl : d.stack.length ≤ 1000000) :
    Does Tryz.prog 63 [.pointer (some ⟨b, 0, none⟩), .int .i64 x] [box b [.slice d.Av d.vars.length d.qv, .slice d.At d.tabs.length d.qt, .slice d.dk.A d.dk.l.length d.dk.q, .slice d.Ae d.effs.length d.qe, .int .i64 d.cost, .slice s.Ac s.code.length s.qc, .slice s.Aa s.args.length s.qa, .int .i64 s.now, .slice s.Ag s.flags.length s.qg, .int .i64 s.dsk, .slice s.Af s.fail.length s.qf, .slice d.As d.stack.length d.qs, .int .i64 d.next, .int .i64 d.sends, .int .i64 d.disks, .bool d.fault] 77, rows encI 2 1 d.As d.qs d.stack] (fun v Γ' => v = .tuple #[] ∧ ∃ A q, Γ' = [box b (mc s { d with As := A, qs := q, stack := d.stack ++ [x] }) 77, rows encI 2 1 A q (d.stack ++ [x])]) := by
  refine Does.enter Tryz.func63 rfl Tryz.ntmps63 rfl (fun w0 => ?_)
  refine To.reg (To.m ?_)
  refine To.m ?_
  refine To.r (Rd.nilCheck rfl rfl) ?_
  refine To.f fl77_3 ?_
  refine To.lo 0 c24 ?_
  refine To.m ?_
  refine To.mk rfl rfl rfl (Mk.sliceN (us := [.int .i64 x]) rfl s24 rfl rfl rfl rfl rfl rfl) ?_
  rintro _ _ ⟨b10, rfl, rfl⟩
  refine To.ge rfl rfl rfl (Ge.append1 encI_ok (i := 2) (j := 0) (el := x) rfl s24 rfl rfl rfl rfl rfl (by first | omega | (simp only [List.length_append, List.length_cons, List.length_nil]; omega)) (by first | omega | (simp only [List.length_append, List.length_cons, List.length_nil]; omega))) ?_
  rintro _ _ ⟨A11, q11, rfl, rfl⟩
  refine To.r (Rd.nilCheck rfl rfl) ?_
  refine To.f fl77_3 ?_
  refine To.u (Up.store (i := 1) rfl rfl rfl c24 rfl rfl (box_takes1 rfl)) ?_
  refine To.nil ?_
  refine To.only [1, 1] rfl ?_
  refine To.end0 (.inr rfl) Tryz.results63 ?_
  exact ⟨rfl, _, _, rfl⟩
set_option maxHeartbeats 2000000 in
set_option maxRecDepth 100000 in
theorem pop_fn (b : Nat) (s : Sm) (d : Dm) (hl : 0 < d.stack.length ∧ d.stack.length ≤ 1000000) :
    Does Tryz.prog 66 [.pointer (some ⟨b, 0, none⟩)] [box b [.slice d.Av d.vars.length d.qv, .slice d.At d.tabs.length d.qt, .slice d.dk.A d.dk.l.length d.dk.q, .slice d.Ae d.effs.length d.qe, .int .i64 d.cost, .slice s.Ac s.code.length s.qc, .slice s.Aa s.args.length s.qa, .int .i64 s.now, .slice s.Ag s.flags.length s.qg, .int .i64 s.dsk, .slice s.Af s.fail.length s.qf, .slice d.As d.stack.length d.qs, .int .i64 d.next, .int .i64 d.sends, .int .i64 d.disks, .bool d.fault] 77, rows encI 2 1 d.As d.qs d.stack] (fun v Γ' => v = .int .i64 (d.stack.getLastD 0) ∧ Γ' = [box b (mc s { d with stack := d.stack.dropLast }) 77, rows encI 2 1 d.As d.qs d.stack.dropLast]) := by
  refine Does.enter Tryz.func66 rfl Tryz.ntmps66 rfl (fun w0 => ?_)
  refine To.seq (To.reg (To.a (To.nil (To.thenN (To.seq ?_)))))
  refine To.know (p := d.stack.length ≤ d.qs) (fun w hw => rows_cap 1 rfl hw) (fun hcap => ?_)
  refine To.reg (To.m ?_)
  refine To.r (Rd.nilCheck rfl rfl) ?_
  refine To.f fl77_3 ?_
  refine To.lo 0 c24 ?_
  refine To.r (Rd.len rfl rfl Tryz.underlying24) ?_
  refine To.r (Rd.as (v' := .int .i64 ((d.stack.length - 1 : Nat) : Int)) (congrArg (Value.int .i64) (by omega)) (Rd.sub64 rfl rfl rfl (by omega))) ?_
  refine To.a (To.nil (To.thenN (To.seq (To.reg ?_))))
  refine To.m ?_
  refine To.r (Rd.nilCheck rfl rfl) ?_
  refine To.f fl77_3 ?_
  refine To.lo 0 c24 ?_
  refine To.m ?_
  refine To.r (Rd.indexRows (i := 1) (j := (d.stack.length - 1)) rfl rfl rfl s24 rfl (last_at hl.1)) ?_
  refine To.r (Rd.load (i := 1) rfl rfl c2 rfl (gives_1 (rows_gives encI_ok (last_at hl.1)) rfl)) ?_
  refine To.a (To.nil (To.thenN (To.seq (To.reg ?_))))
  refine To.m ?_
  refine To.m ?_
  refine To.r (Rd.nilCheck rfl rfl) ?_
  refine To.f fl77_3 ?_
  refine To.lo 0 c24 ?_
  refine To.m ?_
  refine To.r (Rd.sliceHi (hi := (d.stack.length - 1)) rfl s24 rfl rfl (by omega)) ?_
  refine To.r (Rd.nilCheck rfl rfl) ?_
  refine To.f fl77_3 ?_
  refine To.u (Up.store (i := 0) rfl rfl rfl c24 rfl rfl (box_takes1 rfl)) ?_
  refine To.nil (To.thenN (To.seq (To.reg (To.m ?_))))
  refine To.a (To.nil (To.thenN (To.ret ?_)))
  refine To.only [1, 0] rfl ?_
  refine To.shrink encI_ok (d.stack.length - 1) (by omega) ?_
  rw [← List.dropLast_eq_take]
  refine To.only [1, 0] rfl ?_
  rw [← List.length_dropLast]
  refine To.only [0, 0] rfl ?_
  refine To.end1 (.inl rfl) Tryz.results66 rfl ?_
  exact ⟨rfl, rfl⟩
end Go.Proofs.YtoehnbacbobhiaaGreatDoor
