/- The walks of the agenda's Cancel. Own text (walks printed by sx.py). -/
import Derived.Test.YtnamppkicefbjaaR3
import Derived.Test.YtnamppkicefbjaaSepy
namespace Go.Proofs.Ytnamppkicefbjaa
open Go.RowKit Go.Flow Go.Mem Go.Sep
set_option maxHeartbeats 2000000 in
set_option maxRecDepth 100000 in
theorem isTimer_fn (e : En) (b : Nat) (comp : Int) :
    Does Try.prog 44 [.agg (En.cells e).toArray, .pointer (some ⟨b, 0, none⟩)] [ro (some ⟨b, 0, none⟩) [.int .i64 comp]] (fun v _ => v = .bool (isTimer comp e)) := by
  refine Does.enter Try.func44 rfl Try.ntmps44 rfl (fun w0 => ?_)
  refine To.seq ?_
  refine To.reg ?_
  refine To.boxed rfl rfl rfl rfl rfl rfl (fun b2 => ?_)
  refine To.rd rfl rfl rfl (Rd.assign rfl rfl) ?_
  refine To.nil ?_
  refine To.thenN ?_
  refine To.seq ?_
  refine To.reg ?_
  refine To.rd rfl rfl rfl (Rd.field rfl rfl fl82_1) ?_
  refine To.rd rfl rfl rfl (Rd.field rfl rfl fl35_1) ?_
  refine To.rd rfl rfl rfl (Rd.load (i := 0) rfl rfl c3 rfl (box_gives1 rfl)) ?_
  refine To.rd rfl rfl rfl (Rd.load (i := 1) rfl rfl c3 rfl (ro_gives (A := some ⟨b, 0, none⟩) (o := 0) (k := 1) rfl)) ?_
  refine To.rd rfl rfl rfl (Rd.eql rfl rfl rfl) ?_
  refine To.rdP rfl rfl rfl (Rd.move rfl rfl) (fun g9 => ?_) (fun g9 => ?_)
  ·
    refine To.rd rfl rfl rfl (Rd.field rfl rfl fl82_1) ?_
    refine To.rd rfl rfl rfl (Rd.field rfl rfl fl35_0) ?_
    refine To.rd rfl rfl rfl (Rd.load (i := 0) rfl rfl c33 rfl (box_gives1 rfl)) ?_
    refine To.rd rfl rfl rfl (Rd.eql rfl rfl rfl) ?_
    refine To.rd rfl rfl rfl (Rd.pickT rfl rfl rfl) ?_
    refine To.rd rfl rfl rfl (Rd.assign rfl rfl) ?_
    refine To.nil ?_
    refine To.sub [(0, .agg (En.cells e).toArray), (3, .bool (decide (e.s = 6)))] ⟨rfl, rfl, trivial⟩ ?_
    refine To.thenN ?_
    refine To.ret ?_
    refine To.end1 (.inl rfl) Try.results44 rfl ?_
    refine congrArg Value.bool ?_
    unfold isTimer
    first
      | exact (decide_eq_true (by omega)).symm
      | exact (decide_eq_false (by omega)).symm
      | exact decide_eq_decide.2 (by constructor <;> intro _ <;> omega)
  ·
    refine To.sk rfl rfl rfl ?_
    refine To.sk rfl rfl rfl ?_
    refine To.sk rfl rfl rfl ?_
    refine To.sk rfl rfl rfl ?_
    refine To.rd rfl rfl rfl (Rd.pickF rfl rfl rfl) ?_
    refine To.rd rfl rfl rfl (Rd.assign rfl rfl) ?_
    refine To.nil ?_
    refine To.sub [(0, .agg (En.cells e).toArray), (3, .bool false)] ⟨rfl, rfl, trivial⟩ ?_
    refine To.thenN ?_
    refine To.ret ?_
    refine To.end1 (.inl rfl) Try.results44 rfl ?_
    refine congrArg Value.bool ?_
    unfold isTimer
    first
      | exact (decide_eq_true (by omega)).symm
      | exact (decide_eq_false (by omega)).symm
      | exact decide_eq_decide.2 (by constructor <;> intro _ <;> omega)
/-- The place of the first timer, or none. -/
def FirstT (comp : Int) (L : List En) (r : Int) : Prop := (r = -1 ∧ ∀ x ∈ L, isTimer comp x = false) ∨ ∃ i : Nat, r = i ∧ i < L.length ∧ (∀ x ∈ L.take i, isTimer comp x = false) ∧ ∃ y, L[i]? = some y ∧ isTimer comp y = true
theorem none_step {L : List En} {i : Nat} {y : En} {p : En → Bool} (hy : L[i]? = some y) (h : ∀ x ∈ L.take i, p x = false) (hp : p y = false) : ∀ x ∈ L.take (i + 1), p x = false := fun x hx => by
  rw [take_of_get hy] at hx
  rcases List.mem_append.1 hx with h1 | h1
  · exact h x h1
  · rw [List.mem_singleton.1 h1]; exact hp
set_option maxHeartbeats 2000000 in
set_option maxRecDepth 100000 in
theorem indexT_fn (A : Option Addr) (cap : Nat) (L : List En) (b : Nat) (comp : Int) (hl : L.length ≤ 1000000000) :
    Does Try.prog 60 [.slice A L.length cap, .func (.func 44) #[] #[.pointer (some ⟨b, 0, none⟩)]] [ros En.cells A L, ro (some ⟨b, 0, none⟩) [.int .i64 comp]] (fun v _ => ∃ r, v = .int .i64 r ∧ FirstT comp L r) := by
  refine Does.enter Try.func60 rfl Try.ntmps60 rfl (fun w0 => ?_)
  refine To.seq ?_
  refine To.reg ?_
  refine To.rd rfl rfl rfl (Rd.assign rfl rfl) ?_
  refine To.nil ?_
  refine To.thenN ?_
  refine To.seq ?_
  refine To.seq ?_
  refine To.reg ?_
  refine To.rd rfl rfl rfl (Rd.move rfl rfl) ?_
  refine To.rd rfl rfl rfl (Rd.len rfl rfl Try.underlying83) ?_
  refine To.rd rfl rfl rfl (Rd.move rfl rfl) ?_
  refine To.nil ?_
  refine To.thenN ?_
  refine To.block ?_
  refine To.sub [(0, .slice A L.length cap), (1, .func (.func 44) #[] #[.pointer (some ⟨b, 0, none⟩)]), (7, .int .i64 ((L.length : Nat) : Int)), (8, .int .i64 ((0 : Nat) : Int))] ⟨rfl, rfl, rfl, rfl, trivial⟩ ?_
  refine To.only [0, 0] rfl ?_
  refine To.loop (fun m ρ Γ => ∃ (i : Nat), ρ = [(0, .slice A L.length cap), (1, .func (.func 44) #[] #[.pointer (some ⟨b, 0, none⟩)]), (7, .int .i64 ((L.length : Nat) : Int)), (8, .int .i64 ((i : Nat) : Int))] ∧ Γ = [ros En.cells A L, ro (some ⟨b, 0, none⟩) [.int .i64 comp]] ∧ m = L.length - i ∧ (i ≤ L.length) ∧ (∀ x ∈ L.take i, isTimer comp x = false)) (L.length - 0) ⟨0, rfl, rfl, rfl, (Nat.zero_le _), (by simp)⟩ ?_
  rintro m _ _ ⟨i, rfl, rfl, rfl, hi, hno⟩
  refine To.seq ?_
  refine To.reg ?_
  refine To.rd rfl rfl rfl (Rd.lss rfl rfl rfl) ?_
  refine To.nil ?_
  refine To.thenN ?_
  refine To.seq ?_
  refine To.condP rfl (fun c9 => ?_) (fun c9 => ?_)
  ·
    obtain ⟨y, hy⟩ : ∃ y, L[i]? = some y := ⟨L[i]'(by omega), List.getElem?_eq_getElem _⟩
    refine To.skip ?_
    refine To.thenN ?_
    refine To.seq ?_
    refine To.block ?_
    refine To.seq ?_
    refine To.reg ?_
    refine To.rd rfl rfl rfl (Rd.move rfl rfl) ?_
    refine To.rd rfl rfl rfl (Rd.assign rfl rfl) ?_
    refine To.nil ?_
    refine To.thenN ?_
    refine To.seq ?_
    refine To.reg ?_
    refine To.rd rfl rfl rfl (Rd.move rfl rfl) ?_
    refine To.rd rfl rfl rfl (Rd.move rfl rfl) ?_
    refine To.rd rfl rfl rfl (Rd.move rfl rfl) ?_
    refine To.rd rfl rfl rfl (Rd.indexRos encC (i := 0) (j := i) rfl rfl rfl s83 rfl hy) ?_
    refine To.rd rfl rfl rfl (Rd.loadS (i := 0) rfl rfl r82 rfl (ros_gives encC hy) (encC.len _)) ?_
    refine To.callV rfl rfl rfl (Ent.func (first := []) (captured := [.pointer (some ⟨b, 0, none⟩)]) rfl rfl rfl ca44) (isTimer_fn y b comp) rfl (oks_cons (oks_at 1 rfl) (oks_nil _)) ?_
    refine To.nil ?_
    refine To.thenN ?_
    refine To.cond rfl (fun c16 => ?_) (fun c16 => ?_)
    ·
      refine To.seq ?_
      refine To.reg ?_
      refine To.rd rfl rfl rfl (Rd.move rfl rfl) ?_
      refine To.rd rfl rfl rfl (Rd.assign rfl rfl) ?_
      refine To.nil ?_
      refine To.thenN ?_
      refine To.ret ?_
      refine To.blockR ?_
      refine To.thenR ?_
      refine To.thenR ?_
      refine To.blockR ?_
      refine To.thenR ?_
      refine To.end1 (.inl rfl) Try.results60 rfl ?_
      exact ⟨_, rfl, .inr ⟨i, rfl, by omega, hno, y, hy, c16⟩⟩
    ·
      refine To.skip ?_
      refine To.blockN ?_
      refine To.thenN ?_
      refine To.reg ?_
      refine To.rd rfl rfl rfl (Rd.inc rfl rfl rfl (by omega)) ?_
      refine To.rd rfl rfl rfl (Rd.move rfl rfl) ?_
      refine To.nil ?_
      refine To.thenN ?_
      refine To.sub [(0, .slice A L.length cap), (1, .func (.func 44) #[] #[.pointer (some ⟨b, 0, none⟩)]), (7, .int .i64 ((L.length : Nat) : Int)), (8, .int .i64 (((i + 1) : Nat) : Int))] ⟨rfl, rfl, rfl, rfl, trivial⟩ ?_
      refine To.only [0, 0] rfl ?_
      refine To.again (L.length - (i + 1)) (by omega) ⟨i + 1, rfl, rfl, rfl, (by omega), (none_step hy hno c16)⟩
  ·
    refine To.exit ?_
    refine To.thenX ?_
    refine To.thenX ?_
    refine To.blockX ?_
    refine To.thenN ?_
    refine To.seq ?_
    refine To.reg ?_
    refine To.rd rfl rfl rfl (Rd.assign rfl rfl) ?_
    refine To.nil ?_
    refine To.thenN ?_
    refine To.ret ?_
    refine To.end1 (.inl rfl) Try.results60 rfl ?_
    obtain rfl : i = L.length := by omega
    rw [List.take_length] at hno
    exact ⟨_, rfl, .inl ⟨rfl, hno⟩⟩
/-- The row while timers are struck out: i are kept of the first j. -/
structure Struck (L X : List En) (comp : Int) (i j : Nat) : Prop where
  len : X.length = L.length
  ij : i ≤ j
  jl : j ≤ L.length
  head : X.take i = (L.take j).filter fun x => !isTimer comp x
  tail : X.drop j = L.drop j
theorem Struck.start {L : List En} {comp : Int} {i : Nat} (hi : i < L.length) (h1 : ∀ x ∈ L.take i, isTimer comp x = false) {y : En} (hy : L[i]? = some y) (hp : isTimer comp y = true) : Struck L L comp i (i + 1) := by
  refine ⟨rfl, by omega, by omega, ?_, rfl⟩
  rw [take_of_get hy, List.filter_append, List.filter_eq_self.2 (fun x hx => by rw [h1 x hx]; rfl)]
  simp [hp]
theorem Struck.get {L X : List En} {comp : Int} {i j : Nat} (h : Struck L X comp i j) : X[j]? = L[j]? := by
  have : (X.drop j)[0]? = (L.drop j)[0]? := by rw [h.tail]
  simpa using this
theorem Struck.drop {L X : List En} {comp : Int} {i j : Nat} {y : En} (h : Struck L X comp i j) (hy : X[j]? = some y) (hp : isTimer comp y = true) : Struck L X comp i (j + 1) := by
  have hyL : L[j]? = some y := by rw [← h.get]; exact hy
  have hlt := (List.getElem?_eq_some_iff.1 hyL).1
  refine ⟨h.len, by have := h.ij; omega, by omega, ?_, ?_⟩
  · rw [h.head, take_of_get hyL, List.filter_append]; simp [hp]
  · rw [← List.drop_drop, ← List.drop_drop, h.tail]
theorem Struck.keep {L X : List En} {comp : Int} {i j : Nat} {y : En} (h : Struck L X comp i j) (hy : X[j]? = some y) (hp : isTimer comp y = false) : Struck L (X.set i y) comp (i + 1) (j + 1) := by
  have hyL : L[j]? = some y := by rw [← h.get]; exact hy
  have hlt := (List.getElem?_eq_some_iff.1 hyL).1
  have hij := h.ij
  have hil : i < X.length := by rw [h.len]; omega
  refine ⟨by simp [h.len], by omega, by omega, ?_, ?_⟩
  · have hset : (X.set i y)[i]? = some y := by simp [hil]
    rw [take_of_get hset, take_of_get hyL, List.filter_append, ← h.head]
    rw [List.take_set_of_le (Nat.le_refl _)]
    simp [hp]
  · rw [List.drop_set_of_lt (by omega), ← List.drop_drop, ← List.drop_drop, h.tail]
theorem Struck.end_ {L X : List En} {comp : Int} {i : Nat} (h : Struck L X comp i L.length) : X.take i = L.filter fun x => !isTimer comp x := by
  have := h.head
  rwa [List.take_length] at this
set_option maxHeartbeats 2000000 in
set_option maxRecDepth 100000 in
theorem delete_fn (A : Option Addr) (cap : Nat) (L : List En) (b : Nat) (comp : Int) (hl : L.length ≤ 1000000000) (hcap : L.length ≤ cap) :
    Does Try.prog 43 [.slice A L.length cap, .func (.func 44) #[] #[.pointer (some ⟨b, 0, none⟩)]] [rows En.cells 82 8 A cap L, ro (some ⟨b, 0, none⟩) [.int .i64 comp]] (fun v Γ' => v = .slice A (L.filter fun x => !isTimer comp x).length cap ∧ Γ' = [rows En.cells 82 8 A cap (L.filter fun x => !isTimer comp x)]) := by
  refine Does.enter Try.func43 rfl Try.ntmps43 rfl (fun w0 => ?_)
  refine To.seq ?_
  refine To.reg ?_
  refine To.rd rfl rfl rfl (Rd.assign rfl rfl) ?_
  refine To.nil ?_
  refine To.thenN ?_
  refine To.seq ?_
  refine To.reg ?_
  refine To.rd rfl rfl rfl (Rd.move rfl rfl) ?_
  refine To.rd rfl rfl rfl (Rd.move rfl rfl) ?_
  refine To.callQ rfl rfl rfl (Ent.fn rfl rfl ca60) ((indexT_fn A cap L b comp hl).bare) rfl (oks_cons (oks_row 0 rfl) (oks_cons (oks_at 1 rfl) (oks_nil _))) ?_
  rintro _ _ ⟨⟨r, rfl, hr⟩, rfl⟩
  refine ⟨rfl, ?_⟩
  refine To.as [rows En.cells 82 8 A cap L, ro (some ⟨b, 0, none⟩) [.int .i64 comp]] rfl ?_
  refine To.rd rfl rfl rfl (Rd.assign rfl rfl) ?_
  refine To.nil ?_
  refine To.thenN ?_
  refine To.seq ?_
  refine To.seq ?_
  refine To.reg ?_
  refine To.rd rfl rfl rfl (Rd.move rfl rfl) ?_
  refine To.rd rfl rfl rfl (Rd.eql rfl rfl rfl) ?_
  refine To.nil ?_
  refine To.thenN ?_
  refine To.condP rfl (fun c12 => ?_) (fun c12 => ?_)
  ·
    refine To.seq ?_
    refine To.reg ?_
    refine To.rd rfl rfl rfl (Rd.move rfl rfl) ?_
    refine To.rd rfl rfl rfl (Rd.assign rfl rfl) ?_
    refine To.nil ?_
    refine To.thenN ?_
    refine To.ret ?_
    refine To.thenR ?_
    refine To.only [0] rfl ?_
    refine To.end1 (.inl rfl) Try.results43 rfl ?_
    have hr1 : ∀ x ∈ L, isTimer comp x = false := by
      rcases hr with h | ⟨i, h, _⟩
      · exact h.2
      · omega
    have e : (L.filter fun x => !isTimer comp x) = L := List.filter_eq_self.2 fun x hx => by rw [hr1 x hx]; rfl
    rw [e]
    exact ⟨rfl, rfl⟩
  ·
    obtain ⟨i0, rfl, hi0, hno0, y0, hy0, hp0⟩ : ∃ i : Nat, r = i ∧ i < L.length ∧ (∀ x ∈ L.take i, isTimer comp x = false) ∧ ∃ y, L[i]? = some y ∧ isTimer comp y = true := hr.resolve_left fun h => c12 h.1
    refine To.skip ?_
    refine To.thenN ?_
    refine To.seq ?_
    refine To.seq ?_
    refine To.reg ?_
    refine To.rd rfl rfl rfl (Rd.move rfl rfl) ?_
    refine To.rd rfl rfl rfl (Rd.inc rfl rfl rfl (by omega)) ?_
    refine To.rd rfl rfl rfl (Rd.assign rfl rfl) ?_
    refine To.nil ?_
    refine To.thenN ?_
    refine To.block ?_
    refine To.sub [(0, .slice A L.length cap), (1, .func (.func 44) #[] #[.pointer (some ⟨b, 0, none⟩)]), (5, .int .i64 ((i0 : Nat) : Int)), (6, .int .i64 (((i0 + 1) : Nat) : Int))] ⟨rfl, rfl, rfl, rfl, trivial⟩ ?_
    refine To.only [0, 0] rfl ?_
    refine To.loop (fun m ρ Γ => ∃ (i : Nat) (j : Nat) (X : List En), ρ = [(0, .slice A X.length cap), (1, .func (.func 44) #[] #[.pointer (some ⟨b, 0, none⟩)]), (5, .int .i64 ((i : Nat) : Int)), (6, .int .i64 ((j : Nat) : Int))] ∧ Γ = [rows En.cells 82 8 A cap X, ro (some ⟨b, 0, none⟩) [.int .i64 comp]] ∧ m = L.length - j ∧ (Struck L X comp i j)) (L.length - (i0 + 1)) ⟨i0, i0 + 1, L, rfl, rfl, rfl, (Struck.start hi0 hno0 hy0 hp0)⟩ ?_
    rintro m _ _ ⟨i, j, X, rfl, rfl, rfl, hS⟩
    refine To.seq ?_
    refine To.seq ?_
    refine To.reg ?_
    refine To.rd rfl rfl rfl (Rd.move rfl rfl) ?_
    refine To.rd rfl rfl rfl (Rd.move rfl rfl) ?_
    refine To.rd rfl rfl rfl (Rd.len rfl rfl Try.underlying83) ?_
    refine To.rd rfl rfl rfl (Rd.lss rfl rfl rfl) ?_
    refine To.nil ?_
    refine To.thenN ?_
    refine To.condP rfl (fun c19 => ?_) (fun c19 => ?_)
    ·
      have hjl := hS.len
      have hij := hS.ij
      have hjL := hS.jl
      obtain ⟨y, hy⟩ : ∃ y, X[j]? = some y := ⟨X[j]'(by omega), List.getElem?_eq_getElem _⟩
      obtain ⟨yi, hyi⟩ : ∃ y, X[i]? = some y := ⟨X[i]'(by omega), List.getElem?_eq_getElem _⟩
      refine To.skip ?_
      refine To.thenN ?_
      refine To.seq ?_
      refine To.block ?_
      refine To.seq ?_
      refine To.reg ?_
      refine To.rd rfl rfl rfl (Rd.move rfl rfl) ?_
      refine To.rd rfl rfl rfl (Rd.move rfl rfl) ?_
      refine To.rd rfl rfl rfl (Rd.indexRows (i := 0) (j := j) rfl rfl rfl s83 rfl hy) ?_
      refine To.rd rfl rfl rfl (Rd.loadS (i := 0) rfl rfl r82 rfl (rows_gives encC hy) (encC.len _)) ?_
      refine To.alloc rfl rfl rfl rfl z82 (fun b7 => ?_)
      refine To.up rfl rfl (Up.storeS (i := 0) rfl rfl rfl r82 rfl rfl rfl (box_takesAll rfl)) ?_
      refine To.nil ?_
      refine To.thenN ?_
      refine To.seq ?_
      refine To.reg ?_
      refine To.rd rfl rfl rfl (Rd.move rfl rfl) ?_
      refine To.rd rfl rfl rfl (Rd.loadS (i := 0) rfl rfl r82 rfl box_whole rfl) ?_
      refine To.callV rfl rfl rfl (Ent.func (first := []) (captured := [.pointer (some ⟨b, 0, none⟩)]) rfl rfl rfl ca44) (isTimer_fn y b comp) rfl (oks_cons (oks_at 2 rfl) (oks_nil _)) ?_
      refine To.rd rfl rfl rfl (Rd.not rfl rfl) ?_
      refine To.nil ?_
      refine To.thenN ?_
      refine To.cond rfl (fun c29 => ?_) (fun c29 => ?_)
      ·
        refine To.seq ?_
        refine To.reg ?_
        refine To.rd rfl rfl rfl (Rd.move rfl rfl) ?_
        refine To.rd rfl rfl rfl (Rd.move rfl rfl) ?_
        refine To.rd rfl rfl rfl (Rd.loadS (i := 0) rfl rfl r82 rfl box_whole rfl) ?_
        refine To.rd rfl rfl rfl (Rd.indexRows (i := 1) (j := i) rfl rfl rfl s83 rfl hyi) ?_
        refine To.up rfl rfl (Up.storeS (i := 1) (us := En.cells y) rfl rfl rfl r82 (encC.len _) rfl rfl (rows_takes encC (by decide) (by omega))) ?_
        refine To.nil ?_
        refine To.thenN ?_
        refine To.reg ?_
        refine To.rd rfl rfl rfl (Rd.move rfl rfl) ?_
        refine To.rd rfl rfl rfl (Rd.inc rfl rfl rfl (by omega)) ?_
        refine To.rd rfl rfl rfl (Rd.assign rfl rfl) ?_
        refine To.nil ?_
        refine To.blockN ?_
        refine To.thenN ?_
        refine To.reg ?_
        refine To.rd rfl rfl rfl (Rd.move rfl rfl) ?_
        refine To.rd rfl rfl rfl (Rd.inc rfl rfl rfl (by omega)) ?_
        refine To.rd rfl rfl rfl (Rd.assign rfl rfl) ?_
        refine To.nil ?_
        refine To.thenN ?_
        refine To.sub [(0, .slice A (X.set i y).length cap), (1, .func (.func 44) #[] #[.pointer (some ⟨b, 0, none⟩)]), (5, .int .i64 (((i + 1) : Nat) : Int)), (6, .int .i64 (((j + 1) : Nat) : Int))] ⟨(by rw [List.length_set]; rfl), rfl, rfl, rfl, trivial⟩ ?_
        refine To.only [1, 1] rfl ?_
        refine To.again (L.length - (j + 1)) (by omega) ⟨i + 1, j + 1, (X.set i y), rfl, rfl, rfl, (hS.keep hy (by simpa using c29))⟩
      ·
        refine To.skip ?_
        refine To.blockN ?_
        refine To.thenN ?_
        refine To.reg ?_
        refine To.rd rfl rfl rfl (Rd.move rfl rfl) ?_
        refine To.rd rfl rfl rfl (Rd.inc rfl rfl rfl (by omega)) ?_
        refine To.rd rfl rfl rfl (Rd.assign rfl rfl) ?_
        refine To.nil ?_
        refine To.thenN ?_
        refine To.sub [(0, .slice A X.length cap), (1, .func (.func 44) #[] #[.pointer (some ⟨b, 0, none⟩)]), (5, .int .i64 ((i : Nat) : Int)), (6, .int .i64 (((j + 1) : Nat) : Int))] ⟨rfl, rfl, rfl, rfl, trivial⟩ ?_
        refine To.only [1, 1] rfl ?_
        refine To.again (L.length - (j + 1)) (by omega) ⟨i, j + 1, X, rfl, rfl, rfl, (hS.drop hy (by simpa using c29))⟩
    ·
      have hjl := hS.len
      have hij := hS.ij
      have hjL := hS.jl
      refine To.exit ?_
      refine To.thenX ?_
      refine To.thenX ?_
      refine To.blockX ?_
      refine To.thenN ?_
      refine To.seq ?_
      refine To.reg ?_
      refine To.rd rfl rfl rfl (Rd.move rfl rfl) ?_
      refine To.rd rfl rfl rfl (Rd.move rfl rfl) ?_
      refine To.rd rfl rfl rfl (Rd.sliceLo (lo := i) rfl s83 rfl rfl (by omega)) ?_
      refine To.clearTail encC (i := 0) (lo := i) (X := X) rfl rfl rfl s83 rfl rfl (by omega) (by omega) ?_
      refine To.nil ?_
      refine To.thenN ?_
      refine To.seq ?_
      refine To.reg ?_
      refine To.rd rfl rfl rfl (Rd.move rfl rfl) ?_
      refine To.rd rfl rfl rfl (Rd.move rfl rfl) ?_
      refine To.rd rfl rfl rfl (Rd.sliceHi (hi := i) rfl s83 rfl rfl (by omega)) ?_
      refine To.rd rfl rfl rfl (Rd.assign rfl rfl) ?_
      refine To.nil ?_
      refine To.thenN ?_
      refine To.ret ?_
      refine To.only [0] rfl ?_
      refine To.end1 (.inl rfl) Try.results43 rfl ?_
      obtain rfl : j = L.length := by omega
      rw [← hS.end_]
      exact ⟨by rw [List.length_take, Nat.min_eq_left (by omega)], rfl⟩
end Go.Proofs.Ytnamppkicefbjaa
