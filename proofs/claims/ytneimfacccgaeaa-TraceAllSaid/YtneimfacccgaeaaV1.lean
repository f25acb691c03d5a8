/- Events and how they are compared. Own text (walks printed by sx.py). -/
import Derived.Test.YtneimfacccgaeaaL3
import Derived.Test.YtneimfacccgaeaaT
namespace Go.Proofs.Ytneimfacccgaeaa
open Go.RowKit Go.Flow Go.Mem Go.Sep
def encI (n : Int) : List Value := [.int .i64 n]
theorem encI_ok : Enc encI 1 := ⟨fun _ => rfl, fun x u hu => by simp [encI] at hu; subst hu; rfl⟩
def encU (n : Int) : List Value := [.int .u64 n]
theorem encU_ok : Enc encU 1 := ⟨fun _ => rfl, fun x u hu => by simp [encU] at hu; subst hu; rfl⟩
theorem drop_of_get {α : Type} {l : List α} {k : Nat} {y : α} (hy : l[k]? = some y) : l.drop k = y :: l.drop (k + 1) := by
  obtain ⟨h1, h2⟩ := List.getElem?_eq_some_iff.1 hy
  rw [← h2]; exact List.drop_eq_getElem_cons h1
theorem take_of_get {α : Type} {l : List α} {k : Nat} {y : α} (hy : l[k]? = some y) : l.take (k + 1) = l.take k ++ [y] := by
  obtain ⟨h1, h2⟩ := List.getElem?_eq_some_iff.1 hy
  rw [← h2]; exact List.take_succ_eq_append_getElem h1
theorem mem_at {α β : Type} {l : List α} {i : Nat} {y : α} (h : l[i]? = some y) (f : α → β) : f y ∈ l.map f := List.mem_map.2 ⟨y, List.mem_of_getElem? h, rfl⟩
/-- An event, and where its arguments lie. -/
structure Ev where
  t : Int
  c : Int
  k : Int
  p : Int
  n : Int
  cp : Int
  h : Int
  d : Int
  args : List Int
  A : Option Addr
  cap : Nat
def Ev.cells (e : Ev) : List Value := [.int .i64 e.t, .int .i64 e.c, .int .u8 e.k, .int .i64 e.p, .int .i64 e.n, .int .i64 e.cp, .int .i64 e.h, .int .i64 e.d, .slice e.A e.args.length e.cap]
theorem encE : Enc Ev.cells 9 := ⟨fun _ => rfl, fun e u hu => by
  simp only [Ev.cells, List.mem_cons, List.not_mem_nil, or_false] at hu
  rcases hu with rfl | rfl | rfl | rfl | rfl | rfl | rfl | rfl | rfl <;> rfl⟩
def Ev.ar (e : Ev) : Option Addr × List Int := (e.A, e.args)
/-- Lists of arguments that only are read. -/
def argsS (l : List (Option Addr × List Int)) : Chunk where
  owns := []
  reads := l.flatMap fun p => (ros encI p.1 p.2).reads
  holds w := ∀ p ∈ l, (ros encI p.1 p.2).holds w
  loc w w' h hw p hp := (ros encI p.1 p.2).loc w w' (fun g hg => h g (.inr (List.mem_flatMap.2 ⟨p, hp, by simpa [ros, ro] using hg⟩))) (hw p hp)
  lt w hw g hg := by
    simp only [List.not_mem_nil, false_or] at hg
    obtain ⟨p, hp, hg⟩ := List.mem_flatMap.1 hg
    exact (ros encI p.1 p.2).lt w (hw p hp) g (.inr hg)
theorem oks_S {Γ : List Chunk} {l : List (Option Addr × List Int)} (i : Nat) (h : Γ[i]? = some (argsS l)) {A : Option Addr} {xs : List Int} (hp : (A, xs) ∈ l) : ∀ w, oks Γ w → (ros encI A xs).holds w := fun w hw => hw _ (List.mem_of_getElem? h) _ hp
def cmpI (a b : Int) : Int := if a < b then -1 else if b < a then 1 else 0
def cmpL : List Int → List Int → Int
  | [], [] => 0
  | [], _ :: _ => -1
  | _ :: _, [] => 1
  | a :: l, b :: m => if cmpI a b = 0 then cmpL l m else cmpI a b
def orL : List Int → Int
  | [] => 0
  | x :: l => if x = 0 then orL l else x
def Ev.cmps (x y : Ev) : List Int := [cmpI x.t y.t, cmpI x.c y.c, cmpI x.k y.k, cmpI x.p y.p, cmpI x.n y.n, cmpI x.cp y.cp, cmpI x.h y.h, cmpI x.d y.d, cmpL x.args y.args]
def Ev.cmp (x y : Ev) : Int := orL (x.cmps y)
set_option maxHeartbeats 2000000 in
set_option maxRecDepth 100000 in
theorem nan70 (a : Int) :
    Does Try.prog 70 [.int .i64 a] [] (fun v _ => v = .bool false) := by
  refine Does.enter Try.func70 rfl Try.ntmps70 rfl (fun w0 => ?_)
  refine To.seq ?_
  refine To.reg ?_
  refine To.rd rfl rfl rfl (Rd.assign rfl rfl) ?_
  refine To.nil ?_
  refine To.thenN ?_
  refine To.seq ?_
  refine To.reg ?_
  refine To.rd rfl rfl rfl (Rd.move rfl rfl) ?_
  refine To.rd rfl rfl rfl (Rd.move rfl rfl) ?_
  refine To.rd rfl rfl rfl (Rd.neq rfl rfl rfl) ?_
  refine To.rd rfl rfl rfl (Rd.assign rfl rfl) ?_
  refine To.nil ?_
  refine To.thenN ?_
  refine To.ret ?_
  refine To.end1 (.inl rfl) Try.results70 rfl ?_
  simp
set_option maxHeartbeats 2000000 in
set_option maxRecDepth 100000 in
theorem nan71 (a : Int) :
    Does Try.prog 71 [.int .u8 a] [] (fun v _ => v = .bool false) := by
  refine Does.enter Try.func71 rfl Try.ntmps71 rfl (fun w0 => ?_)
  refine To.seq ?_
  refine To.reg ?_
  refine To.rd rfl rfl rfl (Rd.assign rfl rfl) ?_
  refine To.nil ?_
  refine To.thenN ?_
  refine To.seq ?_
  refine To.reg ?_
  refine To.rd rfl rfl rfl (Rd.move rfl rfl) ?_
  refine To.rd rfl rfl rfl (Rd.move rfl rfl) ?_
  refine To.rd rfl rfl rfl (Rd.neq rfl rfl rfl) ?_
  refine To.rd rfl rfl rfl (Rd.assign rfl rfl) ?_
  refine To.nil ?_
  refine To.thenN ?_
  refine To.ret ?_
  refine To.end1 (.inl rfl) Try.results71 rfl ?_
  simp
set_option maxHeartbeats 2000000 in
set_option maxRecDepth 100000 in
theorem nan72 (a : Int) :
    Does Try.prog 72 [.int .i64 a] [] (fun v _ => v = .bool false) := by
  refine Does.enter Try.func72 rfl Try.ntmps72 rfl (fun w0 => ?_)
  refine To.seq ?_
  refine To.reg ?_
  refine To.rd rfl rfl rfl (Rd.assign rfl rfl) ?_
  refine To.nil ?_
  refine To.thenN ?_
  refine To.seq ?_
  refine To.reg ?_
  refine To.rd rfl rfl rfl (Rd.move rfl rfl) ?_
  refine To.rd rfl rfl rfl (Rd.move rfl rfl) ?_
  refine To.rd rfl rfl rfl (Rd.neq rfl rfl rfl) ?_
  refine To.rd rfl rfl rfl (Rd.assign rfl rfl) ?_
  refine To.nil ?_
  refine To.thenN ?_
  refine To.ret ?_
  refine To.end1 (.inl rfl) Try.results72 rfl ?_
  simp
set_option maxHeartbeats 2000000 in
set_option maxRecDepth 100000 in
theorem cmp52 (a b : Int) :
    Does Try.prog 52 [.int .i64 a, .int .i64 b] [] (fun v _ => v = .int .i64 (cmpI a b)) := by
  refine Does.enter Try.func52 rfl Try.ntmps52 rfl (fun w0 => ?_)
  refine To.seq ?_
  refine To.reg ?_
  refine To.rd rfl rfl rfl (Rd.assign rfl rfl) ?_
  refine To.nil ?_
  refine To.thenN ?_
  refine To.seq ?_
  refine To.reg ?_
  refine To.rd rfl rfl rfl (Rd.move rfl rfl) ?_
  refine To.callV rfl rfl rfl (Ent.fn rfl rfl ca70) (nan70 a) rfl (oks_nil _) ?_
  refine To.rd rfl rfl rfl (Rd.assign rfl rfl) ?_
  refine To.nil ?_
  refine To.thenN ?_
  refine To.seq ?_
  refine To.reg ?_
  refine To.rd rfl rfl rfl (Rd.move rfl rfl) ?_
  refine To.callV rfl rfl rfl (Ent.fn rfl rfl ca70) (nan70 b) rfl (oks_nil _) ?_
  refine To.rd rfl rfl rfl (Rd.assign rfl rfl) ?_
  refine To.nil ?_
  refine To.thenN ?_
  refine To.seq ?_
  refine To.seq ?_
  refine To.reg ?_
  refine To.rd rfl rfl rfl (Rd.move rfl rfl) ?_
  refine To.nil ?_
  refine To.thenN ?_
  refine To.condF rfl ?_
  refine To.skip ?_
  refine To.thenN ?_
  refine To.seq ?_
  refine To.seq ?_
  refine To.reg ?_
  refine To.rd rfl rfl rfl (Rd.move rfl rfl) ?_
  refine To.nil ?_
  refine To.thenN ?_
  refine To.condF rfl ?_
  refine To.skip ?_
  refine To.thenN ?_
  refine To.seq ?_
  refine To.seq ?_
  refine To.reg ?_
  refine To.rd rfl rfl rfl (Rd.move rfl rfl) ?_
  refine To.rd rfl rfl rfl (Rd.move rfl rfl) ?_
  refine To.rd rfl rfl rfl (Rd.lss rfl rfl rfl) ?_
  refine To.nil ?_
  refine To.thenN ?_
  refine To.condP rfl (fun c16 => ?_) (fun c16 => ?_)
  ·
    refine To.seq ?_
    refine To.reg ?_
    refine To.rd rfl rfl rfl (Rd.assign rfl rfl) ?_
    refine To.nil ?_
    refine To.thenN ?_
    refine To.ret ?_
    refine To.thenR ?_
    refine To.end1 (.inl rfl) Try.results52 rfl ?_
    unfold cmpI; rw [if_pos c16]
  ·
    refine To.skip ?_
    refine To.thenN ?_
    refine To.seq ?_
    refine To.seq ?_
    refine To.reg ?_
    refine To.rd rfl rfl rfl (Rd.move rfl rfl) ?_
    refine To.rd rfl rfl rfl (Rd.move rfl rfl) ?_
    refine To.rd rfl rfl rfl (Rd.gtr rfl rfl rfl) ?_
    refine To.nil ?_
    refine To.thenN ?_
    refine To.condP rfl (fun c19 => ?_) (fun c19 => ?_)
    ·
      refine To.seq ?_
      refine To.reg ?_
      refine To.rd rfl rfl rfl (Rd.assign rfl rfl) ?_
      refine To.nil ?_
      refine To.thenN ?_
      refine To.ret ?_
      refine To.thenR ?_
      refine To.end1 (.inl rfl) Try.results52 rfl ?_
      unfold cmpI; rw [if_neg c16, if_pos c19]
    ·
      refine To.skip ?_
      refine To.thenN ?_
      refine To.seq ?_
      refine To.reg ?_
      refine To.rd rfl rfl rfl (Rd.assign rfl rfl) ?_
      refine To.nil ?_
      refine To.thenN ?_
      refine To.ret ?_
      refine To.end1 (.inl rfl) Try.results52 rfl ?_
      unfold cmpI; rw [if_neg c16, if_neg c19]
set_option maxHeartbeats 2000000 in
set_option maxRecDepth 100000 in
theorem cmp53 (a b : Int) :
    Does Try.prog 53 [.int .u8 a, .int .u8 b] [] (fun v _ => v = .int .i64 (cmpI a b)) := by
  refine Does.enter Try.func53 rfl Try.ntmps53 rfl (fun w0 => ?_)
  refine To.seq ?_
  refine To.reg ?_
  refine To.rd rfl rfl rfl (Rd.assign rfl rfl) ?_
  refine To.nil ?_
  refine To.thenN ?_
  refine To.seq ?_
  refine To.reg ?_
  refine To.rd rfl rfl rfl (Rd.move rfl rfl) ?_
  refine To.callV rfl rfl rfl (Ent.fn rfl rfl ca71) (nan71 a) rfl (oks_nil _) ?_
  refine To.rd rfl rfl rfl (Rd.assign rfl rfl) ?_
  refine To.nil ?_
  refine To.thenN ?_
  refine To.seq ?_
  refine To.reg ?_
  refine To.rd rfl rfl rfl (Rd.move rfl rfl) ?_
  refine To.callV rfl rfl rfl (Ent.fn rfl rfl ca71) (nan71 b) rfl (oks_nil _) ?_
  refine To.rd rfl rfl rfl (Rd.assign rfl rfl) ?_
  refine To.nil ?_
  refine To.thenN ?_
  refine To.seq ?_
  refine To.seq ?_
  refine To.reg ?_
  refine To.rd rfl rfl rfl (Rd.move rfl rfl) ?_
  refine To.nil ?_
  refine To.thenN ?_
  refine To.condF rfl ?_
  refine To.skip ?_
  refine To.thenN ?_
  refine To.seq ?_
  refine To.seq ?_
  refine To.reg ?_
  refine To.rd rfl rfl rfl (Rd.move rfl rfl) ?_
  refine To.nil ?_
  refine To.thenN ?_
  refine To.condF rfl ?_
  refine To.skip ?_
  refine To.thenN ?_
  refine To.seq ?_
  refine To.seq ?_
  refine To.reg ?_
  refine To.rd rfl rfl rfl (Rd.move rfl rfl) ?_
  refine To.rd rfl rfl rfl (Rd.move rfl rfl) ?_
  refine To.rd rfl rfl rfl (Rd.lss rfl rfl rfl) ?_
  refine To.nil ?_
  refine To.thenN ?_
  refine To.condP rfl (fun c16 => ?_) (fun c16 => ?_)
  ·
    refine To.seq ?_
    refine To.reg ?_
    refine To.rd rfl rfl rfl (Rd.assign rfl rfl) ?_
    refine To.nil ?_
    refine To.thenN ?_
    refine To.ret ?_
    refine To.thenR ?_
    refine To.end1 (.inl rfl) Try.results53 rfl ?_
    unfold cmpI; rw [if_pos c16]
  ·
    refine To.skip ?_
    refine To.thenN ?_
    refine To.seq ?_
    refine To.seq ?_
    refine To.reg ?_
    refine To.rd rfl rfl rfl (Rd.move rfl rfl) ?_
    refine To.rd rfl rfl rfl (Rd.move rfl rfl) ?_
    refine To.rd rfl rfl rfl (Rd.gtr rfl rfl rfl) ?_
    refine To.nil ?_
    refine To.thenN ?_
    refine To.condP rfl (fun c19 => ?_) (fun c19 => ?_)
    ·
      refine To.seq ?_
      refine To.reg ?_
      refine To.rd rfl rfl rfl (Rd.assign rfl rfl) ?_
      refine To.nil ?_
      refine To.thenN ?_
      refine To.ret ?_
      refine To.thenR ?_
      refine To.end1 (.inl rfl) Try.results53 rfl ?_
      unfold cmpI; rw [if_neg c16, if_pos c19]
    ·
      refine To.skip ?_
      refine To.thenN ?_
      refine To.seq ?_
      refine To.reg ?_
      refine To.rd rfl rfl rfl (Rd.assign rfl rfl) ?_
      refine To.nil ?_
      refine To.thenN ?_
      refine To.ret ?_
      refine To.end1 (.inl rfl) Try.results53 rfl ?_
      unfold cmpI; rw [if_neg c16, if_neg c19]
set_option maxHeartbeats 2000000 in
set_option maxRecDepth 100000 in
theorem cmp54 (a b : Int) :
    Does Try.prog 54 [.int .i64 a, .int .i64 b] [] (fun v _ => v = .int .i64 (cmpI a b)) := by
  refine Does.enter Try.func54 rfl Try.ntmps54 rfl (fun w0 => ?_)
  refine To.seq ?_
  refine To.reg ?_
  refine To.rd rfl rfl rfl (Rd.assign rfl rfl) ?_
  refine To.nil ?_
  refine To.thenN ?_
  refine To.seq ?_
  refine To.reg ?_
  refine To.rd rfl rfl rfl (Rd.move rfl rfl) ?_
  refine To.callV rfl rfl rfl (Ent.fn rfl rfl ca72) (nan72 a) rfl (oks_nil _) ?_
  refine To.rd rfl rfl rfl (Rd.assign rfl rfl) ?_
  refine To.nil ?_
  refine To.thenN ?_
  refine To.seq ?_
  refine To.reg ?_
  refine To.rd rfl rfl rfl (Rd.move rfl rfl) ?_
  refine To.callV rfl rfl rfl (Ent.fn rfl rfl ca72) (nan72 b) rfl (oks_nil _) ?_
  refine To.rd rfl rfl rfl (Rd.assign rfl rfl) ?_
  refine To.nil ?_
  refine To.thenN ?_
  refine To.seq ?_
  refine To.seq ?_
  refine To.reg ?_
  refine To.rd rfl rfl rfl (Rd.move rfl rfl) ?_
  refine To.nil ?_
  refine To.thenN ?_
  refine To.condF rfl ?_
  refine To.skip ?_
  refine To.thenN ?_
  refine To.seq ?_
  refine To.seq ?_
  refine To.reg ?_
  refine To.rd rfl rfl rfl (Rd.move rfl rfl) ?_
  refine To.nil ?_
  refine To.thenN ?_
  refine To.condF rfl ?_
  refine To.skip ?_
  refine To.thenN ?_
  refine To.seq ?_
  refine To.seq ?_
  refine To.reg ?_
  refine To.rd rfl rfl rfl (Rd.move rfl rfl) ?_
  refine To.rd rfl rfl rfl (Rd.move rfl rfl) ?_
  refine To.rd rfl rfl rfl (Rd.lss rfl rfl rfl) ?_
  refine To.nil ?_
  refine To.thenN ?_
  refine To.condP rfl (fun c16 => ?_) (fun c16 => ?_)
  ·
    refine To.seq ?_
    refine To.reg ?_
    refine To.rd rfl rfl rfl (Rd.assign rfl rfl) ?_
    refine To.nil ?_
    refine To.thenN ?_
    refine To.ret ?_
    refine To.thenR ?_
    refine To.end1 (.inl rfl) Try.results54 rfl ?_
    unfold cmpI; rw [if_pos c16]
  ·
    refine To.skip ?_
    refine To.thenN ?_
    refine To.seq ?_
    refine To.seq ?_
    refine To.reg ?_
    refine To.rd rfl rfl rfl (Rd.move rfl rfl) ?_
    refine To.rd rfl rfl rfl (Rd.move rfl rfl) ?_
    refine To.rd rfl rfl rfl (Rd.gtr rfl rfl rfl) ?_
    refine To.nil ?_
    refine To.thenN ?_
    refine To.condP rfl (fun c19 => ?_) (fun c19 => ?_)
    ·
      refine To.seq ?_
      refine To.reg ?_
      refine To.rd rfl rfl rfl (Rd.assign rfl rfl) ?_
      refine To.nil ?_
      refine To.thenN ?_
      refine To.ret ?_
      refine To.thenR ?_
      refine To.end1 (.inl rfl) Try.results54 rfl ?_
      unfold cmpI; rw [if_neg c16, if_pos c19]
    ·
      refine To.skip ?_
      refine To.thenN ?_
      refine To.seq ?_
      refine To.reg ?_
      refine To.rd rfl rfl rfl (Rd.assign rfl rfl) ?_
      refine To.nil ?_
      refine To.thenN ?_
      refine To.ret ?_
      refine To.end1 (.inl rfl) Try.results54 rfl ?_
      unfold cmpI; rw [if_neg c16, if_neg c19]
theorem cmpL_step {l m : List Int} {i : Nat} {x y : Int} (hx : l[i]? = some x) (hy : m[i]? = some y) : cmpL (l.drop i) (m.drop i) = if cmpI x y = 0 then cmpL (l.drop (i + 1)) (m.drop (i + 1)) else cmpI x y := by
  rw [drop_of_get hx, drop_of_get hy]; rfl
set_option maxHeartbeats 2000000 in
set_option maxRecDepth 100000 in
theorem cmpL_fn (A B : Option Addr) (ca cb : Nat) (l m : List Int) (hl : l.length ≤ 1000000000000) :
    Does Try.prog 55 [.slice A l.length ca, .slice B m.length cb] [ros encI A l, ros encI B m] (fun v _ => v = .int .i64 (cmpL l m)) := by
  refine Does.enter Try.func55 rfl Try.ntmps55 rfl (fun w0 => ?_)
  refine To.seq ?_
  refine To.reg ?_
  refine To.rd rfl rfl rfl (Rd.assign rfl rfl) ?_
  refine To.nil ?_
  refine To.thenN ?_
  refine To.seq ?_
  refine To.seq ?_
  refine To.reg ?_
  refine To.rd rfl rfl rfl (Rd.move rfl rfl) ?_
  refine To.rd rfl rfl rfl (Rd.len rfl rfl Try.underlying35) ?_
  refine To.rd rfl rfl rfl (Rd.move rfl rfl) ?_
  refine To.nil ?_
  refine To.thenN ?_
  refine To.block ?_
  refine To.sub [(0, .slice A l.length ca), (1, .slice B m.length cb), (9, .slice A l.length ca), (10, .int .i64 ((l.length : Nat) : Int)), (11, .int .i64 ((0 : Nat) : Int))] ⟨rfl, rfl, rfl, rfl, rfl, trivial⟩ ?_
  refine To.only [0, 0] rfl ?_
  refine To.loop (fun mz ρ Γ => ∃ (i : Nat), ρ = [(0, .slice A l.length ca), (1, .slice B m.length cb), (9, .slice A l.length ca), (10, .int .i64 ((l.length : Nat) : Int)), (11, .int .i64 ((i : Nat) : Int))] ∧ Γ = [ros encI A l, ros encI B m] ∧ mz = l.length - i ∧ (i ≤ l.length ∧ i ≤ m.length) ∧ (cmpL l m = cmpL (l.drop i) (m.drop i))) (l.length - 0) ⟨0, rfl, rfl, rfl, ⟨Nat.zero_le _, Nat.zero_le _⟩, rfl⟩ ?_
  rintro mz _ _ ⟨i, rfl, rfl, rfl, hi, hI⟩
  refine To.seq ?_
  refine To.reg ?_
  refine To.rd rfl rfl rfl (Rd.lss rfl rfl rfl) ?_
  refine To.nil ?_
  refine To.thenN ?_
  refine To.seq ?_
  refine To.condP rfl (fun c12 => ?_) (fun c12 => ?_)
  ·
    obtain ⟨x, hx⟩ : ∃ z0, l[i]? = some z0 := ⟨l[i]'(by omega), List.getElem?_eq_getElem _⟩
    refine To.skip ?_
    refine To.thenN ?_
    refine To.seq ?_
    refine To.block ?_
    refine To.seq ?_
    refine To.reg ?_
    refine To.rd rfl rfl rfl (Rd.move rfl rfl) ?_
    refine To.rd rfl rfl rfl (Rd.indexRos encI_ok (i := 0) (j := i) rfl rfl rfl s35 rfl hx) ?_
    refine To.rd rfl rfl rfl (Rd.load (i := 0) rfl rfl c2 rfl (gives_1 (ros_gives encI_ok hx) rfl)) ?_
    refine To.rd rfl rfl rfl (Rd.assign rfl rfl) ?_
    refine To.rd rfl rfl rfl (Rd.assign rfl rfl) ?_
    refine To.nil ?_
    refine To.thenN ?_
    refine To.seq ?_
    refine To.seq ?_
    refine To.reg ?_
    refine To.rd rfl rfl rfl (Rd.move rfl rfl) ?_
    refine To.rd rfl rfl rfl (Rd.move rfl rfl) ?_
    refine To.rd rfl rfl rfl (Rd.len rfl rfl Try.underlying35) ?_
    refine To.rd rfl rfl rfl (Rd.geq rfl rfl rfl) ?_
    refine To.nil ?_
    refine To.thenN ?_
    refine To.condP rfl (fun c19 => ?_) (fun c19 => ?_)
    ·
      refine To.seq ?_
      refine To.reg ?_
      refine To.rd rfl rfl rfl (Rd.assign rfl rfl) ?_
      refine To.nil ?_
      refine To.thenN ?_
      refine To.ret ?_
      refine To.thenR ?_
      refine To.blockR ?_
      refine To.thenR ?_
      refine To.thenR ?_
      refine To.blockR ?_
      refine To.thenR ?_
      refine To.end1 (.inl rfl) Try.results55 rfl ?_
      rw [hI, drop_of_get hx, show m.drop i = [] from List.drop_eq_nil_of_le (by omega)]; rfl
    ·
      obtain ⟨y, hy⟩ : ∃ z0, m[i]? = some z0 := ⟨m[i]'(by omega), List.getElem?_eq_getElem _⟩
      refine To.skip ?_
      refine To.thenN ?_
      refine To.seq ?_
      refine To.reg ?_
      refine To.rd rfl rfl rfl (Rd.move rfl rfl) ?_
      refine To.rd rfl rfl rfl (Rd.move rfl rfl) ?_
      refine To.rd rfl rfl rfl (Rd.indexRos encI_ok (i := 1) (j := i) rfl rfl rfl s35 rfl hy) ?_
      refine To.rd rfl rfl rfl (Rd.load (i := 1) rfl rfl c2 rfl (gives_1 (ros_gives encI_ok hy) rfl)) ?_
      refine To.rd rfl rfl rfl (Rd.assign rfl rfl) ?_
      refine To.nil ?_
      refine To.thenN ?_
      refine To.seq ?_
      refine To.reg ?_
      refine To.rd rfl rfl rfl (Rd.move rfl rfl) ?_
      refine To.rd rfl rfl rfl (Rd.move rfl rfl) ?_
      refine To.callV rfl rfl rfl (Ent.fn rfl rfl ca54) (cmp54 x y) rfl (oks_nil _) ?_
      refine To.rd rfl rfl rfl (Rd.assign rfl rfl) ?_
      refine To.nil ?_
      refine To.sub [(0, .slice A l.length ca), (1, .slice B m.length cb), (9, .slice A l.length ca), (10, .int .i64 ((l.length : Nat) : Int)), (11, .int .i64 ((i : Nat) : Int)), (12, .bool (decide (((i : Nat) : Int) < ((l.length : Nat) : Int)))), (5, .int .i64 ((i : Nat) : Int)), (6, .int .i64 x), (19, .bool (decide (((m.length : Nat) : Int) ≤ ((i : Nat) : Int)))), (7, .int .i64 y), (8, .int .i64 (cmpI x y))] ⟨rfl, rfl, rfl, rfl, rfl, rfl, rfl, rfl, rfl, rfl, rfl, trivial⟩ ?_
      refine To.thenN ?_
      refine To.seq ?_
      refine To.reg ?_
      refine To.rd rfl rfl rfl (Rd.move rfl rfl) ?_
      refine To.rd rfl rfl rfl (Rd.neq rfl rfl rfl) ?_
      refine To.nil ?_
      refine To.thenN ?_
      refine To.condP rfl (fun c28 => ?_) (fun c28 => ?_)
      ·
        refine To.seq ?_
        refine To.reg ?_
        refine To.rd rfl rfl rfl (Rd.move rfl rfl) ?_
        refine To.rd rfl rfl rfl (Rd.assign rfl rfl) ?_
        refine To.nil ?_
        refine To.thenN ?_
        refine To.ret ?_
        refine To.blockR ?_
        refine To.thenR ?_
        refine To.thenR ?_
        refine To.blockR ?_
        refine To.thenR ?_
        refine To.end1 (.inl rfl) Try.results55 rfl ?_
        rw [hI, cmpL_step hx hy, if_neg (by simpa using c28)]
      ·
        refine To.skip ?_
        refine To.blockN ?_
        refine To.thenN ?_
        refine To.reg ?_
        refine To.rd rfl rfl rfl (Rd.inc rfl rfl rfl (by omega)) ?_
        refine To.rd rfl rfl rfl (Rd.move rfl rfl) ?_
        refine To.nil ?_
        refine To.thenN ?_
        refine To.sub [(0, .slice A l.length ca), (1, .slice B m.length cb), (9, .slice A l.length ca), (10, .int .i64 ((l.length : Nat) : Int)), (11, .int .i64 (((i + 1) : Nat) : Int))] ⟨rfl, rfl, rfl, rfl, rfl, trivial⟩ ?_
        refine To.only [0, 0] rfl ?_
        refine To.again (l.length - (i + 1)) (by omega) ⟨i + 1, rfl, rfl, rfl, (by omega), (by rw [hI, cmpL_step hx hy, if_pos (by simpa using c28)])⟩
  ·
    refine To.exit ?_
    refine To.thenX ?_
    refine To.thenX ?_
    refine To.blockX ?_
    refine To.thenN ?_
    refine To.seq ?_
    refine To.seq ?_
    refine To.reg ?_
    refine To.rd rfl rfl rfl (Rd.move rfl rfl) ?_
    refine To.rd rfl rfl rfl (Rd.len rfl rfl Try.underlying35) ?_
    refine To.rd rfl rfl rfl (Rd.move rfl rfl) ?_
    refine To.rd rfl rfl rfl (Rd.len rfl rfl Try.underlying35) ?_
    refine To.rd rfl rfl rfl (Rd.lss rfl rfl rfl) ?_
    refine To.nil ?_
    refine To.thenN ?_
    refine To.condP rfl (fun c35 => ?_) (fun c35 => ?_)
    ·
      refine To.seq ?_
      refine To.reg ?_
      refine To.rd rfl rfl rfl (Rd.assign rfl rfl) ?_
      refine To.nil ?_
      refine To.thenN ?_
      refine To.ret ?_
      refine To.thenR ?_
      refine To.end1 (.inl rfl) Try.results55 rfl ?_
      obtain rfl : i = l.length := by omega
      obtain ⟨y, hy⟩ : ∃ y, m[l.length]? = some y := ⟨m[l.length]'(by omega), List.getElem?_eq_getElem _⟩
      rw [hI, List.drop_length, drop_of_get hy]; rfl
    ·
      refine To.skip ?_
      refine To.thenN ?_
      refine To.seq ?_
      refine To.reg ?_
      refine To.rd rfl rfl rfl (Rd.assign rfl rfl) ?_
      refine To.nil ?_
      refine To.thenN ?_
      refine To.ret ?_
      refine To.end1 (.inl rfl) Try.results55 rfl ?_
      rw [hI, List.drop_eq_nil_of_le (by omega), List.drop_eq_nil_of_le (by omega)]; rfl
set_option maxHeartbeats 2000000 in
set_option maxRecDepth 100000 in
theorem or_fn (A : Option Addr) (ca : Nat) (l : List Int) (hl : l.length ≤ 1000000000000) :
    Does Try.prog 51 [.slice A l.length ca] [ros encI A l] (fun v _ => v = .int .i64 (orL l)) := by
  refine Does.enter Try.func51 rfl Try.ntmps51 rfl (fun w0 => ?_)
  refine To.seq ?_
  refine To.reg ?_
  refine To.rd rfl rfl rfl (Rd.assign rfl rfl) ?_
  refine To.nil ?_
  refine To.thenN ?_
  refine To.seq ?_
  refine To.reg ?_
  refine To.rd rfl rfl rfl (Rd.assign rfl rfl) ?_
  refine To.nil ?_
  refine To.thenN ?_
  refine To.seq ?_
  refine To.seq ?_
  refine To.reg ?_
  refine To.rd rfl rfl rfl (Rd.move rfl rfl) ?_
  refine To.rd rfl rfl rfl (Rd.len rfl rfl Try.underlying62) ?_
  refine To.rd rfl rfl rfl (Rd.move rfl rfl) ?_
  refine To.nil ?_
  refine To.thenN ?_
  refine To.block ?_
  refine To.sub [(3, .int .i64 0), (6, .slice A l.length ca), (7, .int .i64 ((l.length : Nat) : Int)), (8, .int .i64 ((0 : Nat) : Int))] ⟨rfl, rfl, rfl, rfl, trivial⟩ ?_
  refine To.only [0] rfl ?_
  refine To.loop (fun mz ρ Γ => ∃ (i : Nat), ρ = [(3, .int .i64 0), (6, .slice A l.length ca), (7, .int .i64 ((l.length : Nat) : Int)), (8, .int .i64 ((i : Nat) : Int))] ∧ Γ = [ros encI A l] ∧ mz = l.length - i ∧ (i ≤ l.length) ∧ (orL l = orL (l.drop i))) (l.length - 0) ⟨0, rfl, rfl, rfl, (Nat.zero_le _), rfl⟩ ?_
  rintro mz _ _ ⟨i, rfl, rfl, rfl, hi, hI⟩
  refine To.seq ?_
  refine To.reg ?_
  refine To.rd rfl rfl rfl (Rd.lss rfl rfl rfl) ?_
  refine To.nil ?_
  refine To.thenN ?_
  refine To.seq ?_
  refine To.condP rfl (fun c9 => ?_) (fun c9 => ?_)
  ·
    obtain ⟨x, hx⟩ : ∃ z0, l[i]? = some z0 := ⟨l[i]'(by omega), List.getElem?_eq_getElem _⟩
    refine To.skip ?_
    refine To.thenN ?_
    refine To.seq ?_
    refine To.block ?_
    refine To.seq ?_
    refine To.reg ?_
    refine To.rd rfl rfl rfl (Rd.indexRos encI_ok (i := 0) (j := i) rfl rfl rfl s62 rfl hx) ?_
    refine To.rd rfl rfl rfl (Rd.load (i := 0) rfl rfl c3 rfl (gives_1 (ros_gives encI_ok hx) rfl)) ?_
    refine To.rd rfl rfl rfl (Rd.assign rfl rfl) ?_
    refine To.nil ?_
    refine To.thenN ?_
    refine To.seq ?_
    refine To.reg ?_
    refine To.rd rfl rfl rfl (Rd.move rfl rfl) ?_
    refine To.rd rfl rfl rfl (Rd.move rfl rfl) ?_
    refine To.rd rfl rfl rfl (Rd.neq rfl rfl rfl) ?_
    refine To.nil ?_
    refine To.thenN ?_
    refine To.condP rfl (fun c14 => ?_) (fun c14 => ?_)
    ·
      refine To.seq ?_
      refine To.reg ?_
      refine To.rd rfl rfl rfl (Rd.move rfl rfl) ?_
      refine To.rd rfl rfl rfl (Rd.assign rfl rfl) ?_
      refine To.nil ?_
      refine To.thenN ?_
      refine To.ret ?_
      refine To.blockR ?_
      refine To.thenR ?_
      refine To.thenR ?_
      refine To.blockR ?_
      refine To.thenR ?_
      refine To.end1 (.inl rfl) Try.results51 rfl ?_
      rw [hI, drop_of_get hx]; exact congrArg _ (if_neg (by simpa using c14)).symm
    ·
      refine To.skip ?_
      refine To.blockN ?_
      refine To.thenN ?_
      refine To.reg ?_
      refine To.rd rfl rfl rfl (Rd.inc rfl rfl rfl (by omega)) ?_
      refine To.rd rfl rfl rfl (Rd.move rfl rfl) ?_
      refine To.nil ?_
      refine To.thenN ?_
      refine To.sub [(3, .int .i64 0), (6, .slice A l.length ca), (7, .int .i64 ((l.length : Nat) : Int)), (8, .int .i64 (((i + 1) : Nat) : Int))] ⟨rfl, rfl, rfl, rfl, trivial⟩ ?_
      refine To.only [0] rfl ?_
      refine To.again (l.length - (i + 1)) (by omega) ⟨i + 1, rfl, rfl, rfl, (by omega), (by rw [hI, drop_of_get hx]; exact if_pos (by simpa using c14))⟩
  ·
    refine To.exit ?_
    refine To.thenX ?_
    refine To.thenX ?_
    refine To.blockX ?_
    refine To.thenN ?_
    refine To.seq ?_
    refine To.reg ?_
    refine To.rd rfl rfl rfl (Rd.move rfl rfl) ?_
    refine To.rd rfl rfl rfl (Rd.assign rfl rfl) ?_
    refine To.nil ?_
    refine To.thenN ?_
    refine To.ret ?_
    refine To.end1 (.inl rfl) Try.results51 rfl ?_
    rw [hI, List.drop_eq_nil_of_le (by omega)]; rfl
set_option maxHeartbeats 2000000 in
set_option maxRecDepth 100000 in
theorem compare_fn (x y : Ev) (hl : x.args.length ≤ 1000000000000) :
    Does Try.prog 36 [.agg (Ev.cells x).toArray, .agg (Ev.cells y).toArray] [ros encI x.A x.args, ros encI y.A y.args] (fun v _ => v = .int .i64 (x.cmp y)) := by
  refine Does.enter Try.func36 rfl Try.ntmps36 rfl (fun w0 => ?_)
  refine To.seq ?_
  refine To.reg ?_
  refine To.boxed rfl rfl rfl rfl rfl rfl (fun b2 => ?_)
  refine To.boxed rfl rfl rfl rfl rfl rfl (fun b3 => ?_)
  refine To.rd rfl rfl rfl (Rd.assign rfl rfl) ?_
  refine To.nil ?_
  refine To.thenN ?_
  refine To.seq ?_
  refine To.flow [box b3 [.int .i64 y.t, .int .i64 y.c, .int .u8 y.k, .int .i64 y.p, .int .i64 y.n, .int .i64 y.cp, .int .i64 y.h, .int .i64 y.d, .slice y.A y.args.length y.cap] 37, box b2 [.int .i64 x.t, .int .i64 x.c, .int .u8 x.k, .int .i64 x.p, .int .i64 x.n, .int .i64 x.cp, .int .i64 x.h, .int .i64 x.d, .slice x.A x.args.length x.cap] 37, ros encI x.A x.args, ros encI y.A y.args] [⟨0, [], 0⟩, ⟨2, [], 0⟩, ⟨5, [], 0⟩, ⟨7, [], 0⟩, ⟨10, [], 0⟩, ⟨12, [], 0⟩, ⟨15, [], 0⟩, ⟨17, [], 0⟩, ⟨20, [], 0⟩, ⟨22, [], 0⟩, ⟨25, [], 0⟩, ⟨27, [], 0⟩, ⟨30, [], 0⟩, ⟨32, [], 0⟩, ⟨35, [], 0⟩, ⟨37, [], 0⟩, ⟨40, [], 0⟩, ⟨42, [], 0⟩, ⟨1, [], 1⟩, ⟨3, [], 1⟩, ⟨4, [], 3⟩, ⟨6, [], 1⟩, ⟨8, [], 1⟩, ⟨9, [], 3⟩, ⟨11, [], 1⟩, ⟨13, [], 1⟩, ⟨14, [], 3⟩, ⟨16, [], 1⟩, ⟨18, [], 1⟩, ⟨19, [], 3⟩, ⟨21, [], 1⟩, ⟨23, [], 1⟩, ⟨24, [], 3⟩, ⟨26, [], 1⟩, ⟨28, [], 1⟩, ⟨29, [], 3⟩, ⟨31, [], 1⟩, ⟨33, [], 1⟩, ⟨34, [], 3⟩, ⟨36, [], 1⟩, ⟨38, [], 1⟩, ⟨39, [], 3⟩, ⟨41, [], 1⟩, ⟨43, [], 1⟩, ⟨44, [], 3⟩, ⟨45, [], 2⟩, ⟨46, [45], 3⟩, ⟨47, [45], 0⟩] mixed (by kernel_rfl) (oks_cons (oks_at 0 rfl) (oks_cons (oks_at 1 rfl) (oks_cons (oks_at 2 rfl) (oks_cons (oks_at 3 rfl) (oks_nil _))))) ?_
  refine FlowS.free rfl rfl rfl rfl (Rd.field rfl rfl fl37_0) ?_
  refine FlowS.free rfl rfl rfl rfl (Rd.field rfl rfl fl37_0) ?_
  refine FlowS.free rfl rfl rfl rfl (Rd.field rfl rfl fl37_1) ?_
  refine FlowS.free rfl rfl rfl rfl (Rd.field rfl rfl fl37_1) ?_
  refine FlowS.free rfl rfl rfl rfl (Rd.field rfl rfl fl37_2) ?_
  refine FlowS.free rfl rfl rfl rfl (Rd.field rfl rfl fl37_2) ?_
  refine FlowS.free rfl rfl rfl rfl (Rd.field rfl rfl fl37_3) ?_
  refine FlowS.free rfl rfl rfl rfl (Rd.field rfl rfl fl37_3) ?_
  refine FlowS.free rfl rfl rfl rfl (Rd.field rfl rfl fl37_4) ?_
  refine FlowS.free rfl rfl rfl rfl (Rd.field rfl rfl fl37_4) ?_
  refine FlowS.free rfl rfl rfl rfl (Rd.field rfl rfl fl37_5) ?_
  refine FlowS.free rfl rfl rfl rfl (Rd.field rfl rfl fl37_5) ?_
  refine FlowS.free rfl rfl rfl rfl (Rd.field rfl rfl fl37_6) ?_
  refine FlowS.free rfl rfl rfl rfl (Rd.field rfl rfl fl37_6) ?_
  refine FlowS.free rfl rfl rfl rfl (Rd.field rfl rfl fl37_7) ?_
  refine FlowS.free rfl rfl rfl rfl (Rd.field rfl rfl fl37_7) ?_
  refine FlowS.free rfl rfl rfl rfl (Rd.field rfl rfl fl37_8) ?_
  refine FlowS.free rfl rfl rfl rfl (Rd.field rfl rfl fl37_8) ?_
  refine FlowS.rd rfl rfl rfl rfl (Rd.load (i := 1) rfl rfl c3 rfl (box_gives1 rfl)) ?_
  refine FlowS.rd rfl rfl rfl rfl (Rd.load (i := 0) rfl rfl c3 rfl (box_gives1 rfl)) ?_
  refine FlowS.callQ rfl rfl rfl rfl (Ent.fn rfl rfl ca52) (cmp52 x.t y.t) rfl (oks_nil _) ?_
  refine FlowS.rd rfl rfl rfl rfl (Rd.load (i := 1) rfl rfl c3 rfl (box_gives1 rfl)) ?_
  refine FlowS.rd rfl rfl rfl rfl (Rd.load (i := 0) rfl rfl c3 rfl (box_gives1 rfl)) ?_
  refine FlowS.callQ rfl rfl rfl rfl (Ent.fn rfl rfl ca52) (cmp52 x.c y.c) rfl (oks_nil _) ?_
  refine FlowS.rd rfl rfl rfl rfl (Rd.load (i := 1) rfl rfl c34 rfl (box_gives1 rfl)) ?_
  refine FlowS.rd rfl rfl rfl rfl (Rd.load (i := 0) rfl rfl c34 rfl (box_gives1 rfl)) ?_
  refine FlowS.callQ rfl rfl rfl rfl (Ent.fn rfl rfl ca53) (cmp53 x.k y.k) rfl (oks_nil _) ?_
  refine FlowS.rd rfl rfl rfl rfl (Rd.load (i := 1) rfl rfl c3 rfl (box_gives1 rfl)) ?_
  refine FlowS.rd rfl rfl rfl rfl (Rd.load (i := 0) rfl rfl c3 rfl (box_gives1 rfl)) ?_
  refine FlowS.callQ rfl rfl rfl rfl (Ent.fn rfl rfl ca52) (cmp52 x.p y.p) rfl (oks_nil _) ?_
  refine FlowS.rd rfl rfl rfl rfl (Rd.load (i := 1) rfl rfl c3 rfl (box_gives1 rfl)) ?_
  refine FlowS.rd rfl rfl rfl rfl (Rd.load (i := 0) rfl rfl c3 rfl (box_gives1 rfl)) ?_
  refine FlowS.callQ rfl rfl rfl rfl (Ent.fn rfl rfl ca52) (cmp52 x.n y.n) rfl (oks_nil _) ?_
  refine FlowS.rd rfl rfl rfl rfl (Rd.load (i := 1) rfl rfl c3 rfl (box_gives1 rfl)) ?_
  refine FlowS.rd rfl rfl rfl rfl (Rd.load (i := 0) rfl rfl c3 rfl (box_gives1 rfl)) ?_
  refine FlowS.callQ rfl rfl rfl rfl (Ent.fn rfl rfl ca52) (cmp52 x.cp y.cp) rfl (oks_nil _) ?_
  refine FlowS.rd rfl rfl rfl rfl (Rd.load (i := 1) rfl rfl c3 rfl (box_gives1 rfl)) ?_
  refine FlowS.rd rfl rfl rfl rfl (Rd.load (i := 0) rfl rfl c3 rfl (box_gives1 rfl)) ?_
  refine FlowS.callQ rfl rfl rfl rfl (Ent.fn rfl rfl ca52) (cmp52 x.h y.h) rfl (oks_nil _) ?_
  refine FlowS.rd rfl rfl rfl rfl (Rd.load (i := 1) rfl rfl c2 rfl (box_gives1 rfl)) ?_
  refine FlowS.rd rfl rfl rfl rfl (Rd.load (i := 0) rfl rfl c2 rfl (box_gives1 rfl)) ?_
  refine FlowS.callQ rfl rfl rfl rfl (Ent.fn rfl rfl ca54) (cmp54 x.d y.d) rfl (oks_nil _) ?_
  refine FlowS.rd rfl rfl rfl rfl (Rd.load (i := 1) rfl rfl c35 rfl (box_gives1 rfl)) ?_
  refine FlowS.rd rfl rfl rfl rfl (Rd.load (i := 0) rfl rfl c35 rfl (box_gives1 rfl)) ?_
  refine FlowS.callQ rfl rfl rfl rfl (Ent.fn rfl rfl ca55) (cmpL_fn x.A y.A x.cap y.cap x.args y.args hl) rfl (oks_cons (oks_at 2 rfl) (oks_cons (oks_at 3 rfl) (oks_nil _))) ?_
  refine FlowS.mk rfl rfl rfl rfl rfl (Mk.sliceN (us := [.int .i64 (cmpI x.t y.t), .int .i64 (cmpI x.c y.c), .int .i64 (cmpI x.k y.k), .int .i64 (cmpI x.p y.p), .int .i64 (cmpI x.n y.n), .int .i64 (cmpI x.cp y.cp), .int .i64 (cmpI x.h y.h), .int .i64 (cmpI x.d y.d), .int .i64 (cmpL x.args y.args)]) rfl s62 rfl rfl rfl rfl rfl rfl) ?_
  rintro _ _ ⟨b50, rfl, rfl⟩
  refine FlowS.callQ rfl rfl rfl rfl (Ent.fn rfl rfl ca51) (or_fn (some ⟨b50, 0, none⟩) 9 (x.cmps y) (show 9 ≤ 1000000000000 by decide)) rfl (oks_cons (oks_row 0 rfl) (oks_nil _)) ?_
  refine FlowS.free rfl rfl rfl rfl (Rd.assign rfl rfl) ?_
  refine FlowS.fin ?_
  refine To.as [row 3 1 (some ⟨b50, 0, none⟩) 9 9 [.int .i64 (cmpI x.t y.t), .int .i64 (cmpI x.c y.c), .int .i64 (cmpI x.k y.k), .int .i64 (cmpI x.p y.p), .int .i64 (cmpI x.n y.n), .int .i64 (cmpI x.cp y.cp), .int .i64 (cmpI x.h y.h), .int .i64 (cmpI x.d y.d), .int .i64 (cmpL x.args y.args)], box b3 [.int .i64 y.t, .int .i64 y.c, .int .u8 y.k, .int .i64 y.p, .int .i64 y.n, .int .i64 y.cp, .int .i64 y.h, .int .i64 y.d, .slice y.A y.args.length y.cap] 37, box b2 [.int .i64 x.t, .int .i64 x.c, .int .u8 x.k, .int .i64 x.p, .int .i64 x.n, .int .i64 x.cp, .int .i64 x.h, .int .i64 x.d, .slice x.A x.args.length x.cap] 37, ros encI x.A x.args, ros encI y.A y.args] rfl ?_
  refine To.sub [(0, .agg (Ev.cells x).toArray), (1, .agg (Ev.cells y).toArray), (2, .pointer (some ⟨b2, 0, none⟩)), (3, .pointer (some ⟨b3, 0, none⟩)), (4, .int .i64 (x.cmp y))] ⟨rfl, rfl, rfl, rfl, rfl, trivial⟩ ?_
  refine To.thenN ?_
  refine To.ret ?_
  refine To.end1 (.inl rfl) Try.results36 rfl ?_
  rfl
end Go.Proofs.Ytneimfacccgaeaa
