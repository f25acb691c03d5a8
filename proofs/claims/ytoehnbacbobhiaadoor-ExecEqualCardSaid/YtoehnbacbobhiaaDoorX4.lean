/- A unit verified; the machine, and its stack. Own text (walks printed by sx.py). -/
import Derived.Test.YtoehnbacbobhiaaDoorX3
namespace Go.Proofs.YtoehnbacbobhiaaDoor
open Go.RowKit Go.Flow Go.Mem Go.Sep
def verifyV (pr st : Int) (l : List Ins) : Int :=
  if 64 < st ∨ 4000 < l.length then 3 else if pr < 0 ∨ 4 < pr then 6 else if ¬ ∀ x ∈ l, formedB pr l.length x = true then 6 else if (heightsV l).2 = false ∨ (heightsV l).1 ≠ st then 6 else 0
theorem verify_ok {pr st : Int} {l : List Ins} (h1 : ¬ (64 < st ∨ 4000 < l.length)) (h2 : ¬ (pr < 0 ∨ 4 < pr)) (h3 : ∀ x ∈ l, formedB pr l.length x = true) : verifyV pr st l = if (heightsV l).2 = false ∨ (heightsV l).1 ≠ st then 6 else 0 := by
  rw [verifyV, if_neg h1, if_neg h2, if_neg (fun h => h h3)]
set_option maxHeartbeats 2000000 in
set_option maxRecDepth 100000 in
theorem verify_fn (pr st : Int) (A : Option Addr) (q : Nat) (l : List Ins) :
    Does Tryd.prog 11 [.agg #[.int .i64 pr, .int .i64 st, .slice A l.length q]] [ros Ins.cells A l, tabC] (fun v _ => v = .int .i64 (verifyV pr st l)) := by
  refine Does.enter Tryd.func11 rfl Tryd.ntmps11 rfl (fun w0 => ?_)
  refine To.seq ?_
  refine To.reg ?_
  refine To.boxed rfl rfl rfl rfl rfl rfl (fun b1 => ?_)
  refine To.rd rfl rfl rfl (Rd.assign rfl rfl) ?_
  refine To.nil ?_
  refine To.thenN ?_
  refine To.seq ?_
  refine To.seq ?_
  refine To.reg ?_
  refine To.rd rfl rfl rfl (Rd.field rfl rfl fl27_1) ?_
  refine To.rd rfl rfl rfl (Rd.load (i := 0) rfl rfl c3 rfl (box_gives1 rfl)) ?_
  refine To.rd rfl rfl rfl (Rd.gtr rfl rfl rfl) ?_
  refine To.rdP rfl rfl rfl (Rd.move rfl rfl) (fun g10 => ?_) (fun g10 => ?_)
  ·
    refine To.sk rfl rfl rfl ?_
    refine To.sk rfl rfl rfl ?_
    refine To.sk rfl rfl rfl ?_
    refine To.sk rfl rfl rfl ?_
    refine To.rd rfl rfl rfl (Rd.pickT rfl rfl rfl) ?_
    refine To.nil ?_
    refine To.thenN ?_
    refine To.condT rfl ?_
    refine To.seq ?_
    refine To.reg ?_
    refine To.rd rfl rfl rfl (Rd.assign rfl rfl) ?_
    refine To.nil ?_
    refine To.thenN ?_
    refine To.ret ?_
    refine To.thenR ?_
    refine To.end1 (.inl rfl) Tryd.results11 rfl ?_
    rw [verifyV, if_pos (by omega)]
  ·
    refine To.rd rfl rfl rfl (Rd.field rfl rfl fl27_2) ?_
    refine To.rd rfl rfl rfl (Rd.load (i := 0) rfl rfl c25 rfl (box_gives1 rfl)) ?_
    refine To.rd rfl rfl rfl (Rd.len rfl rfl Tryd.underlying25) ?_
    refine To.rd rfl rfl rfl (Rd.gtr rfl rfl rfl) ?_
    refine To.rd rfl rfl rfl (Rd.pickF rfl rfl rfl) ?_
    refine To.nil ?_
    refine To.thenN ?_
    refine To.condP rfl (fun c15 => ?_) (fun c15 => ?_)
    ·
      refine To.seq ?_
      refine To.reg ?_
      refine To.rd rfl rfl rfl (Rd.assign rfl rfl) ?_
      refine To.nil ?_
      refine To.thenN ?_
      refine To.ret ?_
      refine To.thenR ?_
      refine To.end1 (.inl rfl) Tryd.results11 rfl ?_
      rw [verifyV, if_pos (by omega)]
    ·
      refine To.skip ?_
      refine To.thenN ?_
      refine To.seq ?_
      refine To.seq ?_
      refine To.reg ?_
      refine To.rd rfl rfl rfl (Rd.field rfl rfl fl27_0) ?_
      refine To.rd rfl rfl rfl (Rd.load (i := 0) rfl rfl c3 rfl (box_gives1 rfl)) ?_
      refine To.rd rfl rfl rfl (Rd.lss rfl rfl rfl) ?_
      refine To.rdP rfl rfl rfl (Rd.move rfl rfl) (fun g19 => ?_) (fun g19 => ?_)
      ·
        refine To.sk rfl rfl rfl ?_
        refine To.sk rfl rfl rfl ?_
        refine To.sk rfl rfl rfl ?_
        refine To.rd rfl rfl rfl (Rd.pickT rfl rfl rfl) ?_
        refine To.nil ?_
        refine To.sub [(0, .agg #[.int .i64 pr, .int .i64 st, .slice A l.length q]), (1, .pointer (some ⟨b1, 0, none⟩)), (2, .int .i64 0), (15, .bool (decide (4000 < ((l.length : Nat) : Int)))), (23, .bool true)] ⟨rfl, rfl, rfl, rfl, rfl, trivial⟩ ?_
        refine To.thenN ?_
        refine To.condT rfl ?_
        refine To.seq ?_
        refine To.reg ?_
        refine To.rd rfl rfl rfl (Rd.assign rfl rfl) ?_
        refine To.nil ?_
        refine To.thenN ?_
        refine To.ret ?_
        refine To.thenR ?_
        refine To.end1 (.inl rfl) Tryd.results11 rfl ?_
        rw [verifyV, if_neg (by omega), if_pos (by omega)]
      ·
        refine To.rd rfl rfl rfl (Rd.field rfl rfl fl27_0) ?_
        refine To.rd rfl rfl rfl (Rd.load (i := 0) rfl rfl c3 rfl (box_gives1 rfl)) ?_
        refine To.rd rfl rfl rfl (Rd.gtr rfl rfl rfl) ?_
        refine To.rd rfl rfl rfl (Rd.pickF rfl rfl rfl) ?_
        refine To.nil ?_
        refine To.sub [(0, .agg #[.int .i64 pr, .int .i64 st, .slice A l.length q]), (1, .pointer (some ⟨b1, 0, none⟩)), (2, .int .i64 0), (15, .bool (decide (4000 < ((l.length : Nat) : Int)))), (23, .bool (decide (4 < pr)))] ⟨rfl, rfl, rfl, rfl, rfl, trivial⟩ ?_
        refine To.thenN ?_
        refine To.condP rfl (fun c23 => ?_) (fun c23 => ?_)
        ·
          refine To.seq ?_
          refine To.reg ?_
          refine To.rd rfl rfl rfl (Rd.assign rfl rfl) ?_
          refine To.nil ?_
          refine To.thenN ?_
          refine To.ret ?_
          refine To.thenR ?_
          refine To.end1 (.inl rfl) Tryd.results11 rfl ?_
          rw [verifyV, if_neg (by omega), if_pos (by omega)]
        ·
          refine To.skip ?_
          refine To.thenN ?_
          refine To.seq ?_
          refine To.seq ?_
          refine To.reg ?_
          refine To.rd rfl rfl rfl (Rd.field rfl rfl fl27_2) ?_
          refine To.rd rfl rfl rfl (Rd.load (i := 0) rfl rfl c25 rfl (box_gives1 rfl)) ?_
          refine To.rd rfl rfl rfl (Rd.len rfl rfl Tryd.underlying25) ?_
          refine To.rd rfl rfl rfl (Rd.move rfl rfl) ?_
          refine To.nil ?_
          refine To.thenN ?_
          refine To.block ?_
          refine To.sub [(1, .pointer (some ⟨b1, 0, none⟩)), (25, .slice A l.length q), (26, .int .i64 ((l.length : Nat) : Int)), (27, .int .i64 ((0 : Nat) : Int))] ⟨rfl, rfl, rfl, rfl, trivial⟩ ?_
          refine To.only [0, 0, 0] rfl ?_
          refine To.loop (fun mz ρ Γ => ∃ (i : Nat), ρ = [(1, .pointer (some ⟨b1, 0, none⟩)), (25, .slice A l.length q), (26, .int .i64 ((l.length : Nat) : Int)), (27, .int .i64 ((i : Nat) : Int))] ∧ Γ = [box b1 [.int .i64 pr, .int .i64 st, .slice A l.length q] 27, ros Ins.cells A l, tabC] ∧ mz = l.length - i ∧ (i ≤ l.length) ∧ (∀ x ∈ l.take i, formedB pr l.length x = true)) (l.length - 0) ⟨0, rfl, rfl, rfl, (Nat.zero_le _), (fun x hx => by simp at hx)⟩ ?_
          rintro mz _ _ ⟨i, rfl, rfl, rfl, hi, hI⟩
          refine To.seq ?_
          refine To.reg ?_
          refine To.rd rfl rfl rfl (Rd.lss rfl rfl rfl) ?_
          refine To.nil ?_
          refine To.thenN ?_
          refine To.seq ?_
          refine To.condP rfl (fun c28 => ?_) (fun c28 => ?_)
          ·
            obtain ⟨x, hx⟩ : ∃ z0, l[i]? = some z0 := ⟨l[i]'(by omega), List.getElem?_eq_getElem _⟩
            refine To.skip ?_
            refine To.thenN ?_
            refine To.seq ?_
            refine To.block ?_
            refine To.seq ?_
            refine To.reg ?_
            refine To.rd rfl rfl rfl (Rd.indexRos encIn (i := 1) (j := i) rfl rfl rfl s25 rfl hx) ?_
            refine To.rd rfl rfl rfl (Rd.loadS (i := 1) rfl rfl r24 rfl (ros_gives encIn hx) (encIn.len _)) ?_
            refine To.alloc rfl rfl rfl rfl z24 (fun b4 => ?_)
            refine To.up rfl rfl (Up.storeS (i := 0) rfl rfl rfl r24 rfl rfl rfl (box_takesAll rfl)) ?_
            refine To.nil ?_
            refine To.thenN ?_
            refine To.seq ?_
            refine To.reg ?_
            refine To.rd rfl rfl rfl (Rd.loadS (i := 1) rfl rfl r27 rfl box_whole rfl) ?_
            refine To.rd rfl rfl rfl (Rd.loadS (i := 0) rfl rfl r24 rfl box_whole rfl) ?_
            refine To.callV rfl rfl rfl (Ent.fn rfl rfl ca24) (formed_fn pr st A q l x) rfl (oks_cons (oks_at 3 rfl) (oks_nil _)) ?_
            refine To.rd rfl rfl rfl (Rd.not rfl rfl) ?_
            refine To.nil ?_
            refine To.thenN ?_
            refine To.cond rfl (fun c34 => ?_) (fun c34 => ?_)
            ·
              refine To.seq ?_
              refine To.reg ?_
              refine To.rd rfl rfl rfl (Rd.assign rfl rfl) ?_
              refine To.nil ?_
              refine To.thenN ?_
              refine To.ret ?_
              refine To.blockR ?_
              refine To.thenR ?_
              refine To.thenR ?_
              refine To.blockR ?_
              refine To.thenR ?_
              refine To.end1 (.inl rfl) Tryd.results11 rfl ?_
              rw [verifyV, if_neg (by omega), if_neg (by omega), if_pos (fun h => by rw [h x (List.mem_of_getElem? hx)] at c34; cases c34)]
            ·
              refine To.skip ?_
              refine To.blockN ?_
              refine To.thenN ?_
              refine To.reg ?_
              refine To.rd rfl rfl rfl (Rd.inc rfl rfl rfl (by omega)) ?_
              refine To.rd rfl rfl rfl (Rd.move rfl rfl) ?_
              refine To.nil ?_
              refine To.thenN ?_
              refine To.sub [(1, .pointer (some ⟨b1, 0, none⟩)), (25, .slice A l.length q), (26, .int .i64 ((l.length : Nat) : Int)), (27, .int .i64 (((i + 1) : Nat) : Int))] ⟨rfl, rfl, rfl, rfl, trivial⟩ ?_
              refine To.only [1, 1, 1] rfl ?_
              refine To.again (l.length - (i + 1)) (by omega) ⟨i + 1, rfl, rfl, rfl, (by omega), (fun z hz => by
                rw [take_of_get hx] at hz
                rcases List.mem_append.1 hz with h0 | h0
                · exact hI z h0
                · rw [List.mem_singleton.1 h0]; simpa using c34)⟩
          ·
            refine To.exit ?_
            refine To.thenX ?_
            refine To.thenX ?_
            refine To.blockX ?_
            refine To.thenN ?_
            refine To.seq ?_
            refine To.seq ?_
            have hall : ∀ x ∈ l, formedB pr l.length x = true := by rw [show l = l.take i from (List.take_of_length_le (by omega)).symm]; rw [List.take_of_length_le (by omega : l.length ≤ i)] at hI ⊢; exact hI
            refine To.reg ?_
            refine To.rd rfl rfl rfl (Rd.field rfl rfl fl27_2) ?_
            refine To.rd rfl rfl rfl (Rd.load (i := 0) rfl rfl c25 rfl (box_gives1 rfl)) ?_
            refine To.callV rfl rfl rfl (Ent.fn rfl rfl ca25) (heights_fn pr A q l (by omega) hall) rfl (oks_cons (oks_at 1 rfl) (oks_cons (oks_at 2 rfl) (oks_nil _))) ?_
            refine To.rd rfl rfl rfl (Rd.move rfl rfl) ?_
            refine To.rd rfl rfl rfl (Rd.extract rfl rfl rfl) ?_
            refine To.rd rfl rfl rfl (Rd.extract rfl rfl rfl) ?_
            refine To.rd rfl rfl rfl (Rd.assign rfl rfl) ?_
            refine To.rd rfl rfl rfl (Rd.assign rfl rfl) ?_
            refine To.nil ?_
            refine To.thenN ?_
            refine To.seq ?_
            refine To.reg ?_
            refine To.rd rfl rfl rfl (Rd.move rfl rfl) ?_
            refine To.rd rfl rfl rfl (Rd.not rfl rfl) ?_
            refine To.rdB rfl rfl rfl (Rd.move rfl rfl) (fun g44 => ?_) (fun g44 => ?_)
            ·
              refine To.sk rfl rfl rfl ?_
              refine To.sk rfl rfl rfl ?_
              refine To.sk rfl rfl rfl ?_
              refine To.sk rfl rfl rfl ?_
              refine To.rd rfl rfl rfl (Rd.pickT rfl rfl rfl) ?_
              refine To.nil ?_
              refine To.sub [(1, .pointer (some ⟨b1, 0, none⟩)), (25, .slice A l.length q), (26, .int .i64 ((l.length : Nat) : Int)), (27, .int .i64 ((i : Nat) : Int)), (28, .bool (decide (((i : Nat) : Int) < ((l.length : Nat) : Int)))), (5, .int .i64 ((heightsV l).1)), (6, .bool ((heightsV l).2)), (49, .bool true)] ⟨rfl, rfl, rfl, rfl, rfl, rfl, rfl, rfl, trivial⟩ ?_
              refine To.thenN ?_
              refine To.condT rfl ?_
              refine To.seq ?_
              refine To.reg ?_
              refine To.rd rfl rfl rfl (Rd.assign rfl rfl) ?_
              refine To.nil ?_
              refine To.thenN ?_
              refine To.ret ?_
              refine To.thenR ?_
              refine To.end1 (.inl rfl) Tryd.results11 rfl ?_
              rw [verify_ok (by omega) (by omega) hall]
              rcases hgd : (heightsV l).2 with _ | _ <;> simp_all
            ·
              refine To.rd rfl rfl rfl (Rd.move rfl rfl) ?_
              refine To.rd rfl rfl rfl (Rd.field rfl rfl fl27_1) ?_
              refine To.rd rfl rfl rfl (Rd.load (i := 0) rfl rfl c3 rfl (box_gives1 rfl)) ?_
              refine To.rd rfl rfl rfl (Rd.neq rfl rfl rfl) ?_
              refine To.rd rfl rfl rfl (Rd.pickF rfl rfl rfl) ?_
              refine To.nil ?_
              refine To.sub [(1, .pointer (some ⟨b1, 0, none⟩)), (25, .slice A l.length q), (26, .int .i64 ((l.length : Nat) : Int)), (27, .int .i64 ((i : Nat) : Int)), (28, .bool (decide (((i : Nat) : Int) < ((l.length : Nat) : Int)))), (5, .int .i64 ((heightsV l).1)), (6, .bool ((heightsV l).2)), (49, .bool (decide (((heightsV l).1) ≠ st)))] ⟨rfl, rfl, rfl, rfl, rfl, rfl, rfl, rfl, trivial⟩ ?_
              refine To.thenN ?_
              refine To.condP rfl (fun c49 => ?_) (fun c49 => ?_)
              ·
                refine To.seq ?_
                refine To.reg ?_
                refine To.rd rfl rfl rfl (Rd.assign rfl rfl) ?_
                refine To.nil ?_
                refine To.thenN ?_
                refine To.ret ?_
                refine To.thenR ?_
                refine To.end1 (.inl rfl) Tryd.results11 rfl ?_
                rw [verify_ok (by omega) (by omega) hall]
                rcases hgd : (heightsV l).2 with _ | _ <;> simp_all
              ·
                refine To.skip ?_
                refine To.thenN ?_
                refine To.seq ?_
                refine To.reg ?_
                refine To.rd rfl rfl rfl (Rd.assign rfl rfl) ?_
                refine To.nil ?_
                refine To.thenN ?_
                refine To.ret ?_
                refine To.end1 (.inl rfl) Tryd.results11 rfl ?_
                rw [verify_ok (by omega) (by omega) hall]
                rcases hgd : (heightsV l).2 with _ | _ <;> simp_all
/-- What a machine never changes. -/
structure Sm where
  Ac : Option Addr
  qc : Nat
  code : List Ins
  Aa : Option Addr
  qa : Nat
  args : List Int
  now : Int
  Ag : Option Addr
  qg : Nat
  flags : List Bool
  dsk : Int
  Af : Option Addr
  qf : Nat
  fail : List Int
/-- What it changes. -/
structure Dm where
  Av : Option Addr
  qv : Nat
  vars : List Int
  At : Option Addr
  qt : Nat
  tabs : List Tb
  dk : Tb
  Ae : Option Addr
  qe : Nat
  effs : List Ef
  cost : Int
  As : Option Addr
  qs : Nat
  stack : List Int
  next : Int
  sends : Int
  disks : Int
  fault : Bool
def mc (s : Sm) (d : Dm) : List Value := [.slice d.Av d.vars.length d.qv, .slice d.At d.tabs.length d.qt, .slice d.dk.A d.dk.l.length d.dk.q, .slice d.Ae d.effs.length d.qe, .int .i64 d.cost, .slice s.Ac s.code.length s.qc, .slice s.Aa s.args.length s.qa, .int .i64 s.now, .slice s.Ag s.flags.length s.qg, .int .i64 s.dsk, .slice s.Af s.fail.length s.qf, .slice d.As d.stack.length d.qs, .int .i64 d.next, .int .i64 d.sends, .int .i64 d.disks, .bool d.fault]
theorem rows_cap {Γ : List Chunk} {w : World} {α : Type} {enc : α → List Value} {size : Nat} {e : TypeId} {A : Option Addr} {cap : Nat} {l : List α} (i : Nat) (h : Γ[i]? = some (rows enc e size A cap l)) (hs : sat Γ w) : l.length ≤ cap := by
  obtain ⟨A', cap', h1, _, h2, _⟩ := own_form (show w.ownsRow 0 e size (.slice A l.length cap) l.length _ from hs.each _ (List.mem_of_getElem? h))
  simp only [Value.slice.injEq] at h1
  omega
theorem last_at {l : List Int} (h : 0 < l.length) : l[l.length - 1]? = some (l.getLastD 0) := by
  rw [← List.getLast?_eq_getElem?, List.getLastD_eq_getLast?]
  cases hl : l.getLast? with
  | none => rw [List.getLast?_eq_none_iff] at hl; rw [hl] at h; simp at h
  | some x => rfl
set_option maxHeartbeats 2000000 in
set_option maxRecDepth 100000 in
theorem push_fn (b : Nat) (s : Sm) (d : Dm) (x : Int) (hl : d.stack.length ≤ 1000000) :
    Does Tryd.prog 49 [.pointer (some ⟨b, 0, none⟩), .int .i64 x] [box b [.slice d.Av d.vars.length d.qv, .slice d.At d.tabs.length d.qt, .slice d.dk.A d.dk.l.length d.dk.q, .slice d.Ae d.effs.length d.qe, .int .i64 d.cost, .slice s.Ac s.code.length s.qc, .slice s.Aa s.args.length s.qa, .int .i64 s.now, .slice s.Ag s.flags.length s.qg, .int .i64 s.dsk, .slice s.Af s.fail.length s.qf, .slice d.As d.stack.length d.qs, .int .i64 d.next, .int .i64 d.sends, .int .i64 d.disks, .bool d.fault] 69, rows encI 2 1 d.As d.qs d.stack] (fun v Γ' => v = .tuple #[] ∧ ∃ A q, Γ' = [box b (mc s { d with As := A, qs := q, stack := d.stack ++ [x] }) 69, rows encI 2 1 A q (d.stack ++ [x])]) := by
  refine Does.enter Tryd.func49 rfl Tryd.ntmps49 rfl (fun w0 => ?_)
  refine To.reg ?_
  refine To.rd rfl rfl rfl (Rd.move rfl rfl) ?_
  refine To.rd rfl rfl rfl (Rd.move rfl rfl) ?_
  refine To.rd rfl rfl rfl (Rd.nilCheck rfl rfl) ?_
  refine To.rd rfl rfl rfl (Rd.field rfl rfl fl69_3) ?_
  refine To.rd rfl rfl rfl (Rd.load (i := 0) rfl rfl c28 rfl (box_gives1 rfl)) ?_
  refine To.rd rfl rfl rfl (Rd.move rfl rfl) ?_
  refine To.mk rfl rfl rfl (Mk.sliceN (us := [.int .i64 x]) rfl s28 rfl rfl rfl rfl rfl rfl) ?_
  rintro _ _ ⟨b10, rfl, rfl⟩
  refine To.as [row 2 1 (some ⟨b10, 0, none⟩) 1 1 [.int .i64 x], box b [.slice d.Av d.vars.length d.qv, .slice d.At d.tabs.length d.qt, .slice d.dk.A d.dk.l.length d.dk.q, .slice d.Ae d.effs.length d.qe, .int .i64 d.cost, .slice s.Ac s.code.length s.qc, .slice s.Aa s.args.length s.qa, .int .i64 s.now, .slice s.Ag s.flags.length s.qg, .int .i64 s.dsk, .slice s.Af s.fail.length s.qf, .slice d.As d.stack.length d.qs, .int .i64 d.next, .int .i64 d.sends, .int .i64 d.disks, .bool d.fault] 69, rows encI 2 1 d.As d.qs d.stack] rfl ?_
  refine To.ge rfl rfl rfl (Ge.append1 encI_ok (i := 2) (j := 0) (el := x) rfl s28 rfl rfl rfl rfl rfl (by first | omega | (simp only [List.length_append, List.length_cons, List.length_nil]; omega)) (by first | omega | (simp only [List.length_append, List.length_cons, List.length_nil]; omega))) ?_
  rintro _ _ ⟨A11, q11, rfl, rfl⟩
  refine To.as [row 2 1 (some ⟨b10, 0, none⟩) 1 1 [.int .i64 x], box b [.slice d.Av d.vars.length d.qv, .slice d.At d.tabs.length d.qt, .slice d.dk.A d.dk.l.length d.dk.q, .slice d.Ae d.effs.length d.qe, .int .i64 d.cost, .slice s.Ac s.code.length s.qc, .slice s.Aa s.args.length s.qa, .int .i64 s.now, .slice s.Ag s.flags.length s.qg, .int .i64 s.dsk, .slice s.Af s.fail.length s.qf, .slice d.As d.stack.length d.qs, .int .i64 d.next, .int .i64 d.sends, .int .i64 d.disks, .bool d.fault] 69, rows encI 2 1 A11 q11 (d.stack ++ [x])] rfl ?_
  refine To.rd rfl rfl rfl (Rd.nilCheck rfl rfl) ?_
  refine To.rd rfl rfl rfl (Rd.field rfl rfl fl69_3) ?_
  refine To.up rfl rfl (Up.store (i := 1) rfl rfl rfl c28 rfl rfl (box_takes1 rfl)) ?_
  refine To.nil ?_
  refine To.only [1, 1] rfl ?_
  refine To.end0 (.inr rfl) Tryd.results49 ?_
  exact ⟨rfl, _, _, rfl⟩
set_option maxHeartbeats 2000000 in
set_option maxRecDepth 100000 in
theorem pop_fn (b : Nat) (s : Sm) (d : Dm) (hl : 0 < d.stack.length ∧ d.stack.length ≤ 1000000) :
    Does Tryd.prog 52 [.pointer (some ⟨b, 0, none⟩)] [box b [.slice d.Av d.vars.length d.qv, .slice d.At d.tabs.length d.qt, .slice d.dk.A d.dk.l.length d.dk.q, .slice d.Ae d.effs.length d.qe, .int .i64 d.cost, .slice s.Ac s.code.length s.qc, .slice s.Aa s.args.length s.qa, .int .i64 s.now, .slice s.Ag s.flags.length s.qg, .int .i64 s.dsk, .slice s.Af s.fail.length s.qf, .slice d.As d.stack.length d.qs, .int .i64 d.next, .int .i64 d.sends, .int .i64 d.disks, .bool d.fault] 69, rows encI 2 1 d.As d.qs d.stack] (fun v Γ' => v = .int .i64 (d.stack.getLastD 0) ∧ Γ' = [box b (mc s { d with stack := d.stack.dropLast }) 69, rows encI 2 1 d.As d.qs d.stack.dropLast]) := by
  refine Does.enter Tryd.func52 rfl Tryd.ntmps52 rfl (fun w0 => ?_)
  refine To.seq ?_
  refine To.reg ?_
  refine To.rd rfl rfl rfl (Rd.assign rfl rfl) ?_
  refine To.nil ?_
  refine To.thenN ?_
  refine To.seq ?_
  refine To.know (p := d.stack.length ≤ d.qs) (fun w hw => rows_cap 1 rfl hw) (fun hcap => ?_)
  refine To.reg ?_
  refine To.rd rfl rfl rfl (Rd.move rfl rfl) ?_
  refine To.rd rfl rfl rfl (Rd.nilCheck rfl rfl) ?_
  refine To.rd rfl rfl rfl (Rd.field rfl rfl fl69_3) ?_
  refine To.rd rfl rfl rfl (Rd.load (i := 0) rfl rfl c28 rfl (box_gives1 rfl)) ?_
  refine To.rd rfl rfl rfl (Rd.len rfl rfl Tryd.underlying28) ?_
  refine To.rd rfl rfl rfl (Rd.as (v' := .int .i64 ((d.stack.length - 1 : Nat) : Int)) (congrArg (Value.int .i64) (by omega)) (Rd.sub64 rfl rfl rfl (by omega))) ?_
  refine To.rd rfl rfl rfl (Rd.assign rfl rfl) ?_
  refine To.nil ?_
  refine To.thenN ?_
  refine To.seq ?_
  refine To.reg ?_
  refine To.rd rfl rfl rfl (Rd.move rfl rfl) ?_
  refine To.rd rfl rfl rfl (Rd.nilCheck rfl rfl) ?_
  refine To.rd rfl rfl rfl (Rd.field rfl rfl fl69_3) ?_
  refine To.rd rfl rfl rfl (Rd.load (i := 0) rfl rfl c28 rfl (box_gives1 rfl)) ?_
  refine To.rd rfl rfl rfl (Rd.move rfl rfl) ?_
  refine To.rd rfl rfl rfl (Rd.indexRows (i := 1) (j := (d.stack.length - 1)) rfl rfl rfl s28 rfl (last_at hl.1)) ?_
  refine To.rd rfl rfl rfl (Rd.load (i := 1) rfl rfl c2 rfl (gives_1 (rows_gives encI_ok (last_at hl.1)) rfl)) ?_
  refine To.rd rfl rfl rfl (Rd.assign rfl rfl) ?_
  refine To.nil ?_
  refine To.sub [(0, .pointer (some ⟨b, 0, none⟩)), (2, .int .i64 0), (3, .int .i64 ((d.stack.length - 1 : Nat) : Int)), (4, .int .i64 (d.stack.getLastD 0))] ⟨rfl, rfl, rfl, rfl, trivial⟩ ?_
  refine To.thenN ?_
  refine To.seq ?_
  refine To.reg ?_
  refine To.rd rfl rfl rfl (Rd.move rfl rfl) ?_
  refine To.rd rfl rfl rfl (Rd.move rfl rfl) ?_
  refine To.rd rfl rfl rfl (Rd.nilCheck rfl rfl) ?_
  refine To.rd rfl rfl rfl (Rd.field rfl rfl fl69_3) ?_
  refine To.rd rfl rfl rfl (Rd.load (i := 0) rfl rfl c28 rfl (box_gives1 rfl)) ?_
  refine To.rd rfl rfl rfl (Rd.move rfl rfl) ?_
  refine To.rd rfl rfl rfl (Rd.sliceHi (hi := (d.stack.length - 1)) rfl s28 rfl rfl (by omega)) ?_
  refine To.rd rfl rfl rfl (Rd.nilCheck rfl rfl) ?_
  refine To.rd rfl rfl rfl (Rd.field rfl rfl fl69_3) ?_
  refine To.up rfl rfl (Up.store (i := 0) rfl rfl rfl c28 rfl rfl (box_takes1 rfl)) ?_
  refine To.nil ?_
  refine To.thenN ?_
  refine To.seq ?_
  refine To.reg ?_
  refine To.rd rfl rfl rfl (Rd.move rfl rfl) ?_
  refine To.rd rfl rfl rfl (Rd.assign rfl rfl) ?_
  refine To.nil ?_
  refine To.thenN ?_
  refine To.ret ?_
  refine To.only [1, 0] rfl ?_
  refine To.shrink encI_ok (d.stack.length - 1) (by omega) ?_
  rw [← List.dropLast_eq_take]
  refine To.only [1, 0] rfl ?_
  rw [← List.length_dropLast]
  refine To.only [0, 0] rfl ?_
  refine To.end1 (.inl rfl) Tryd.results52 rfl ?_
  exact ⟨rfl, rfl⟩
end Go.Proofs.YtoehnbacbobhiaaDoor
