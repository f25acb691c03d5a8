/- States compared; a list cut. Own text (walks printed by sx.py). -/
import Derived.Test.YtoehnbacbobhiaaDoorX14
namespace Go.Proofs.YtoehnbacbobhiaaDoor
open Go.RowKit Go.Flow Go.Mem Go.Sep
set_option maxHeartbeats 2000000 in
set_option maxRecDepth 100000 in
theorem tabEq_fn (A B : Option Addr) (ca cb : Nat) (l m : List (Int × Int)) (hl : l.length ≤ 1000000000000) :
    Does Tryd.prog 23 [.agg #[.slice A l.length ca], .agg #[.slice B m.length cb]] [ros encEn A l, ros encEn B m] (fun v _ => v = .bool (decide (l = m))) := by
  refine Does.enter Tryd.func23 rfl Tryd.ntmps23 rfl (fun w0 => ?_)
  refine To.seq ?_
  refine To.reg ?_
  refine To.boxed rfl rfl rfl rfl rfl rfl (fun b2 => ?_)
  refine To.boxed rfl rfl rfl rfl rfl rfl (fun b3 => ?_)
  refine To.rd rfl rfl rfl (Rd.assign rfl rfl) ?_
  refine To.nil ?_
  refine To.thenN ?_
  refine To.seq ?_
  refine To.reg ?_
  refine To.rd rfl rfl rfl (Rd.field rfl rfl fl32_0) ?_
  refine To.rd rfl rfl rfl (Rd.load (i := 1) rfl rfl c30 rfl (box_gives1 rfl)) ?_
  refine To.rd rfl rfl rfl (Rd.field rfl rfl fl32_0) ?_
  refine To.rd rfl rfl rfl (Rd.load (i := 0) rfl rfl c30 rfl (box_gives1 rfl)) ?_
  refine To.callV rfl rfl rfl (Ent.fn rfl rfl ca33) (eqEn_fn A B ca cb l m hl) rfl (oks_cons (oks_at 2 rfl) (oks_cons (oks_at 3 rfl) (oks_nil _))) ?_
  refine To.rd rfl rfl rfl (Rd.assign rfl rfl) ?_
  refine To.nil ?_
  refine To.thenN ?_
  refine To.ret ?_
  refine To.end1 (.inl rfl) Tryd.results23 rfl ?_
  rfl
set_option maxHeartbeats 2000000 in
set_option maxRecDepth 100000 in
theorem eqTabs_fn (A B : Option Addr) (ca cb : Nat) (l m : List Tb) (hl : l.length ≤ 1000000000000) (hl2 : ∀ x ∈ l, x.l.length ≤ 1000000000000) :
    Does Tryd.prog 22 [.slice A l.length ca, .slice B m.length cb, .func (.func 23) #[] #[]] [ros Tb.cells A l, ros Tb.cells B m, rosS encEn (l.map Tb.ar), rosS encEn (m.map Tb.ar)] (fun v _ => v = .bool (decide (l.map Tb.l = m.map Tb.l))) := by
  have hmx : ∀ {k : List Tb} {i : Nat} {x : Tb}, k[i]? = some x → (k.map Tb.l)[i]? = some x.l := fun h => by rw [List.getElem?_map, h]; rfl
  refine Does.enter Tryd.func22 rfl Tryd.ntmps22 rfl (fun w0 => ?_)
  refine To.seq ?_
  refine To.reg ?_
  refine To.rd rfl rfl rfl (Rd.assign rfl rfl) ?_
  refine To.nil ?_
  refine To.thenN ?_
  refine To.seq ?_
  refine To.seq ?_
  refine To.reg ?_
  refine To.rd rfl rfl rfl (Rd.move rfl rfl) ?_
  refine To.rd rfl rfl rfl (Rd.len rfl rfl Tryd.underlying29) ?_
  refine To.rd rfl rfl rfl (Rd.move rfl rfl) ?_
  refine To.rd rfl rfl rfl (Rd.len rfl rfl Tryd.underlying29) ?_
  refine To.rd rfl rfl rfl (Rd.neq rfl rfl rfl) ?_
  refine To.nil ?_
  refine To.thenN ?_
  refine To.condP rfl (fun c14 => ?_) (fun c14 => ?_)
  ·
    refine To.seq ?_
    refine To.reg ?_
    refine To.rd rfl rfl rfl (Rd.assign rfl rfl) ?_
    refine To.nil ?_
    refine To.thenN ?_
    refine To.ret ?_
    refine To.thenR ?_
    refine To.end1 (.inl rfl) Tryd.results22 rfl ?_
    exact congrArg Value.bool (decide_eq_false (fun e => c14 (by have := congrArg List.length e; simp only [List.length_map] at this; rw [this]))).symm
  ·
    refine To.skip ?_
    refine To.thenN ?_
    refine To.seq ?_
    refine To.seq ?_
    refine To.reg ?_
    refine To.rd rfl rfl rfl (Rd.move rfl rfl) ?_
    refine To.rd rfl rfl rfl (Rd.len rfl rfl Tryd.underlying29) ?_
    refine To.rd rfl rfl rfl (Rd.move rfl rfl) ?_
    refine To.nil ?_
    refine To.thenN ?_
    refine To.block ?_
    refine To.sub [(0, .slice A l.length ca), (1, .slice B m.length cb), (2, .func (.func 23) #[] #[]), (15, .slice A l.length ca), (16, .int .i64 ((l.length : Nat) : Int)), (17, .int .i64 ((0 : Nat) : Int))] ⟨rfl, rfl, rfl, rfl, rfl, rfl, trivial⟩ ?_
    refine To.only [0, 0, 0, 0] rfl ?_
    refine To.loop (fun mz ρ Γ => ∃ (i : Nat), ρ = [(0, .slice A l.length ca), (1, .slice B m.length cb), (2, .func (.func 23) #[] #[]), (15, .slice A l.length ca), (16, .int .i64 ((l.length : Nat) : Int)), (17, .int .i64 ((i : Nat) : Int))] ∧ Γ = [ros Tb.cells A l, ros Tb.cells B m, rosS encEn (l.map Tb.ar), rosS encEn (m.map Tb.ar)] ∧ mz = l.length - i ∧ (i ≤ l.length) ∧ ((l.map Tb.l).take i = (m.map Tb.l).take i)) (l.length - 0) ⟨0, rfl, rfl, rfl, (Nat.zero_le _), rfl⟩ ?_
    rintro mz _ _ ⟨i, rfl, rfl, rfl, hi, hI⟩
    refine To.seq ?_
    refine To.reg ?_
    refine To.rd rfl rfl rfl (Rd.lss rfl rfl rfl) ?_
    refine To.nil ?_
    refine To.thenN ?_
    refine To.seq ?_
    refine To.condP rfl (fun c18 => ?_) (fun c18 => ?_)
    ·
      obtain ⟨x, hx⟩ : ∃ z0, l[i]? = some z0 := ⟨l[i]'(by omega), List.getElem?_eq_getElem _⟩
      obtain ⟨y, hy⟩ : ∃ z0, m[i]? = some z0 := ⟨m[i]'(by omega), List.getElem?_eq_getElem _⟩
      refine To.skip ?_
      refine To.thenN ?_
      refine To.seq ?_
      refine To.block ?_
      refine To.seq ?_
      refine To.reg ?_
      refine To.rd rfl rfl rfl (Rd.move rfl rfl) ?_
      refine To.rd rfl rfl rfl (Rd.indexRos encTb (i := 0) (j := i) rfl rfl rfl s29 rfl hx) ?_
      refine To.rd rfl rfl rfl (Rd.loadS (i := 0) rfl rfl r32 rfl (ros_gives encTb hx) (encTb.len _)) ?_
      refine To.alloc rfl rfl rfl rfl z32 (fun b8 => ?_)
      refine To.rd rfl rfl rfl (Rd.assign rfl rfl) ?_
      refine To.up rfl rfl (Up.storeS (i := 0) rfl rfl rfl r32 rfl rfl rfl (box_takesAll rfl)) ?_
      refine To.nil ?_
      refine To.thenN ?_
      refine To.seq ?_
      refine To.reg ?_
      refine To.rd rfl rfl rfl (Rd.move rfl rfl) ?_
      refine To.rd rfl rfl rfl (Rd.move rfl rfl) ?_
      refine To.rd rfl rfl rfl (Rd.indexRos encTb (i := 2) (j := i) rfl rfl rfl s29 rfl hy) ?_
      refine To.rd rfl rfl rfl (Rd.loadS (i := 2) rfl rfl r32 rfl (ros_gives encTb hy) (encTb.len _)) ?_
      refine To.alloc rfl rfl rfl rfl z32 (fun b9 => ?_)
      refine To.up rfl rfl (Up.storeS (i := 0) rfl rfl rfl r32 rfl rfl rfl (box_takesAll rfl)) ?_
      refine To.nil ?_
      refine To.thenN ?_
      refine To.seq ?_
      refine To.reg ?_
      refine To.rd rfl rfl rfl (Rd.move rfl rfl) ?_
      refine To.rd rfl rfl rfl (Rd.loadS (i := 1) rfl rfl r32 rfl box_whole rfl) ?_
      refine To.rd rfl rfl rfl (Rd.loadS (i := 0) rfl rfl r32 rfl box_whole rfl) ?_
      refine To.callV rfl rfl rfl (Ent.func (first := []) (captured := []) rfl rfl rfl ca23) (tabEq_fn x.A y.A x.q y.q x.l y.l (hl2 x (List.mem_of_getElem? hx))) rfl (oks_cons (oks_S 4 rfl (mem_at hx Tb.ar)) (oks_cons (oks_S 5 rfl (mem_at hy Tb.ar)) (oks_nil _))) ?_
      refine To.rd rfl rfl rfl (Rd.not rfl rfl) ?_
      refine To.nil ?_
      refine To.thenN ?_
      refine To.cond rfl (fun c30 => ?_) (fun c30 => ?_)
      ·
        refine To.seq ?_
        refine To.reg ?_
        refine To.rd rfl rfl rfl (Rd.assign rfl rfl) ?_
        refine To.nil ?_
        refine To.thenN ?_
        refine To.ret ?_
        refine To.blockR ?_
        refine To.thenR ?_
        refine To.thenR ?_
        refine To.blockR ?_
        refine To.thenR ?_
        refine To.end1 (.inl rfl) Tryd.results22 rfl ?_
        exact congrArg Value.bool (decide_eq_false (eq_ne (hmx hx) (hmx hy) (by simpa using c30))).symm
      ·
        refine To.skip ?_
        refine To.blockN ?_
        refine To.thenN ?_
        refine To.reg ?_
        refine To.rd rfl rfl rfl (Rd.inc rfl rfl rfl (by omega)) ?_
        refine To.rd rfl rfl rfl (Rd.move rfl rfl) ?_
        refine To.nil ?_
        refine To.thenN ?_
        refine To.sub [(0, .slice A l.length ca), (1, .slice B m.length cb), (2, .func (.func 23) #[] #[]), (15, .slice A l.length ca), (16, .int .i64 ((l.length : Nat) : Int)), (17, .int .i64 (((i + 1) : Nat) : Int))] ⟨rfl, rfl, rfl, rfl, rfl, rfl, trivial⟩ ?_
        refine To.only [2, 2, 2, 2] rfl ?_
        refine To.again (l.length - (i + 1)) (by omega) ⟨i + 1, rfl, rfl, rfl, (by omega), (by rw [take_of_get (hmx hx), take_of_get (hmx hy), hI, show x.l = y.l from by simpa using c30])⟩
    ·
      refine To.exit ?_
      refine To.thenX ?_
      refine To.thenX ?_
      refine To.blockX ?_
      refine To.thenN ?_
      refine To.seq ?_
      refine To.reg ?_
      refine To.rd rfl rfl rfl (Rd.assign rfl rfl) ?_
      refine To.nil ?_
      refine To.thenN ?_
      refine To.ret ?_
      refine To.end1 (.inl rfl) Tryd.results22 rfl ?_
      exact congrArg Value.bool (decide_eq_true (eq_len (by simp only [List.length_map]; omega) (by simp only [List.length_map]; omega) hI)).symm
/-- A state, and where it lies. -/
structure Sx where
  Av : Option Addr
  qv : Nat
  vars : List Int
  At : Option Addr
  qt : Nat
  tabs : List Tb
  dk : Tb
def Sx.cells (s : Sx) : List Value := [.slice s.Av s.vars.length s.qv, .slice s.At s.tabs.length s.qt, .slice s.dk.A s.dk.l.length s.dk.q]
def Sx.small (s : Sx) : Prop := s.vars.length ≤ 1000000000000 ∧ s.tabs.length ≤ 1000000000000 ∧ (∀ x ∈ s.tabs, x.l.length ≤ 1000000000000) ∧ s.dk.l.length ≤ 1000000000000
def Sx.val (s : Sx) : List Int × List (List (Int × Int)) × List (Int × Int) := (s.vars, s.tabs.map Tb.l, s.dk.l)
set_option maxHeartbeats 2000000 in
set_option maxRecDepth 100000 in
theorem xeq_fn (a b : Sx) (ha : a.small) :
    Does Tryd.prog 10 [.agg #[.slice a.Av a.vars.length a.qv, .slice a.At a.tabs.length a.qt, .slice a.dk.A a.dk.l.length a.dk.q], .agg #[.slice b.Av b.vars.length b.qv, .slice b.At b.tabs.length b.qt, .slice b.dk.A b.dk.l.length b.dk.q]] [ros encI a.Av a.vars, ros Tb.cells a.At a.tabs, rosS encEn (a.tabs.map Tb.ar), ros encEn a.dk.A a.dk.l, ros encI b.Av b.vars, ros Tb.cells b.At b.tabs, rosS encEn (b.tabs.map Tb.ar), ros encEn b.dk.A b.dk.l] (fun v _ => v = .bool (decide (a.val = b.val))) := by
  refine Does.enter Tryd.func10 rfl Tryd.ntmps10 rfl (fun w0 => ?_)
  refine To.seq ?_
  refine To.reg ?_
  refine To.boxed rfl rfl rfl rfl rfl rfl (fun b2 => ?_)
  refine To.boxed rfl rfl rfl rfl rfl rfl (fun b3 => ?_)
  refine To.rd rfl rfl rfl (Rd.assign rfl rfl) ?_
  refine To.nil ?_
  refine To.thenN ?_
  refine To.seq ?_
  refine To.reg ?_
  refine To.rd rfl rfl rfl (Rd.field rfl rfl fl34_0) ?_
  refine To.rd rfl rfl rfl (Rd.load (i := 1) rfl rfl c28 rfl (box_gives1 rfl)) ?_
  refine To.rd rfl rfl rfl (Rd.field rfl rfl fl34_0) ?_
  refine To.rd rfl rfl rfl (Rd.load (i := 0) rfl rfl c28 rfl (box_gives1 rfl)) ?_
  refine To.callV rfl rfl rfl (Ent.fn rfl rfl ca21) (eq64_fn a.Av b.Av a.qv b.qv a.vars b.vars ha.1) rfl (oks_cons (oks_at 2 rfl) (oks_cons (oks_at 6 rfl) (oks_nil _))) ?_
  refine To.rdP rfl rfl rfl (Rd.move rfl rfl) (fun g10 => ?_) (fun g10 => ?_)
  ·
    refine To.rd rfl rfl rfl (Rd.field rfl rfl fl34_1) ?_
    refine To.rd rfl rfl rfl (Rd.load (i := 1) rfl rfl c29 rfl (box_gives1 rfl)) ?_
    refine To.rd rfl rfl rfl (Rd.field rfl rfl fl34_1) ?_
    refine To.rd rfl rfl rfl (Rd.load (i := 0) rfl rfl c29 rfl (box_gives1 rfl)) ?_
    refine To.callV rfl rfl rfl (Ent.fn rfl rfl ca22) (eqTabs_fn a.At b.At a.qt b.qt a.tabs b.tabs ha.2.1 ha.2.2.1) rfl (oks_cons (oks_at 3 rfl) (oks_cons (oks_at 7 rfl) (oks_cons (oks_at 4 rfl) (oks_cons (oks_at 8 rfl) (oks_nil _))))) ?_
    refine To.rd rfl rfl rfl (Rd.pickT rfl rfl rfl) ?_
    refine To.rdP rfl rfl rfl (Rd.move rfl rfl) (fun g17 => ?_) (fun g17 => ?_)
    ·
      refine To.rd rfl rfl rfl (Rd.field rfl rfl fl34_2) ?_
      refine To.rd rfl rfl rfl (Rd.loadS (i := 1) (us := [.slice a.dk.A a.dk.l.length a.dk.q]) rfl rfl r32 rfl (box_gives (n := 1) rfl) rfl) ?_
      refine To.rd rfl rfl rfl (Rd.field rfl rfl fl34_2) ?_
      refine To.rd rfl rfl rfl (Rd.loadS (i := 0) (us := [.slice b.dk.A b.dk.l.length b.dk.q]) rfl rfl r32 rfl (box_gives (n := 1) rfl) rfl) ?_
      refine To.callV rfl rfl rfl (Ent.fn rfl rfl ca23) (tabEq_fn a.dk.A b.dk.A a.dk.q b.dk.q a.dk.l b.dk.l ha.2.2.2) rfl (oks_cons (oks_at 5 rfl) (oks_cons (oks_at 9 rfl) (oks_nil _))) ?_
      refine To.rd rfl rfl rfl (Rd.pickT rfl rfl rfl) ?_
      refine To.rd rfl rfl rfl (Rd.assign rfl rfl) ?_
      refine To.nil ?_
      refine To.sub [(0, .agg #[.slice a.Av a.vars.length a.qv, .slice a.At a.tabs.length a.qt, .slice a.dk.A a.dk.l.length a.dk.q]), (1, .agg #[.slice b.Av b.vars.length b.qv, .slice b.At b.tabs.length b.qt, .slice b.dk.A b.dk.l.length b.dk.q]), (2, .pointer (some ⟨b2, 0, none⟩)), (3, .pointer (some ⟨b3, 0, none⟩)), (4, .bool (decide (a.dk.l = b.dk.l)))] ⟨rfl, rfl, rfl, rfl, rfl, trivial⟩ ?_
      refine To.thenN ?_
      refine To.ret ?_
      refine To.end1 (.inl rfl) Tryd.results10 rfl ?_
      refine congrArg Value.bool ?_
      simp [Sx.val, g10, g17]
    ·
      refine To.sk rfl rfl rfl ?_
      refine To.sk rfl rfl rfl ?_
      refine To.sk rfl rfl rfl ?_
      refine To.sk rfl rfl rfl ?_
      refine To.sk rfl rfl rfl ?_
      refine To.rd rfl rfl rfl (Rd.pickF rfl rfl rfl) ?_
      refine To.rd rfl rfl rfl (Rd.assign rfl rfl) ?_
      refine To.nil ?_
      refine To.sub [(0, .agg #[.slice a.Av a.vars.length a.qv, .slice a.At a.tabs.length a.qt, .slice a.dk.A a.dk.l.length a.dk.q]), (1, .agg #[.slice b.Av b.vars.length b.qv, .slice b.At b.tabs.length b.qt, .slice b.dk.A b.dk.l.length b.dk.q]), (2, .pointer (some ⟨b2, 0, none⟩)), (3, .pointer (some ⟨b3, 0, none⟩)), (4, .bool false)] ⟨rfl, rfl, rfl, rfl, rfl, trivial⟩ ?_
      refine To.thenN ?_
      refine To.ret ?_
      refine To.end1 (.inl rfl) Tryd.results10 rfl ?_
      refine congrArg Value.bool ?_
      simp [Sx.val, g10, g17]
  ·
    refine To.sk rfl rfl rfl ?_
    refine To.sk rfl rfl rfl ?_
    refine To.sk rfl rfl rfl ?_
    refine To.sk rfl rfl rfl ?_
    refine To.sk rfl rfl rfl ?_
    refine To.rd rfl rfl rfl (Rd.pickF rfl rfl rfl) ?_
    refine To.rd rfl rfl rfl (Rd.move rfl rfl) ?_
    refine To.sk rfl rfl rfl ?_
    refine To.sk rfl rfl rfl ?_
    refine To.sk rfl rfl rfl ?_
    refine To.sk rfl rfl rfl ?_
    refine To.sk rfl rfl rfl ?_
    refine To.rd rfl rfl rfl (Rd.pickF rfl rfl rfl) ?_
    refine To.rd rfl rfl rfl (Rd.assign rfl rfl) ?_
    refine To.nil ?_
    refine To.sub [(0, .agg #[.slice a.Av a.vars.length a.qv, .slice a.At a.tabs.length a.qt, .slice a.dk.A a.dk.l.length a.dk.q]), (1, .agg #[.slice b.Av b.vars.length b.qv, .slice b.At b.tabs.length b.qt, .slice b.dk.A b.dk.l.length b.dk.q]), (2, .pointer (some ⟨b2, 0, none⟩)), (3, .pointer (some ⟨b3, 0, none⟩)), (4, .bool false)] ⟨rfl, rfl, rfl, rfl, rfl, trivial⟩ ?_
    refine To.thenN ?_
    refine To.ret ?_
    refine To.end1 (.inl rfl) Tryd.results10 rfl ?_
    refine congrArg Value.bool ?_
    simp [Sx.val, g10]
set_option maxHeartbeats 2000000 in
set_option maxRecDepth 100000 in
theorem pairs_fn (A : Option Addr) (q n : Nat) (l : List (Int × Int)) (hq : l.length ≤ q) :
    Does Tryd.prog 18 [.slice A l.length q, .int .i64 ((n : Nat) : Int)] [] (fun v _ => v = .slice A (l.take n).length q) := by
  refine Does.enter Tryd.func18 rfl Tryd.ntmps18 rfl (fun w0 => ?_)
  refine To.seq ?_
  refine To.reg ?_
  refine To.rd rfl rfl rfl (Rd.assign rfl rfl) ?_
  refine To.nil ?_
  refine To.thenN ?_
  refine To.seq ?_
  have hln : (l.take n).length ≤ q := by rw [List.length_take]; omega
  refine To.reg ?_
  refine To.rd rfl rfl rfl (Rd.move rfl rfl) ?_
  refine To.rd rfl rfl rfl (Rd.move rfl rfl) ?_
  refine To.rd rfl rfl rfl (Rd.len rfl rfl Tryd.underlying50) ?_
  refine To.rd rfl rfl rfl (Rd.move rfl rfl) ?_
  refine To.rd rfl rfl rfl (Rd.minTake (l := l) (n := n) rfl rfl rfl) ?_
  refine To.rd rfl rfl rfl (Rd.sliceHi (hi := ((l.take n).length)) rfl s50 rfl rfl (by omega)) ?_
  refine To.rd rfl rfl rfl (Rd.assign rfl rfl) ?_
  refine To.nil ?_
  refine To.thenN ?_
  refine To.ret ?_
  refine To.end1 (.inl rfl) Tryd.results18 rfl ?_
  rfl
end Go.Proofs.YtoehnbacbobhiaaDoor
