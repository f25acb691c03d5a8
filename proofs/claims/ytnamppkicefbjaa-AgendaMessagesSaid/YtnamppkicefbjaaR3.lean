/- The walks of the reference's Take, Cancel, Next and Valid, and the agenda's Copy. Own text (walks printed by sx.py). -/
import Derived.Test.YtnamppkicefbjaaF1
namespace Go.Proofs.Ytnamppkicefbjaa
open Go.RowKit Go.Flow Go.Mem Go.Sep
theorem filt_yes {α : Type} {l O : List α} {p : α → Bool} {k : Nat} {y : α} (hy : l[k]? = some y) (hp : p y = true) (hO : O = (l.take k).filter p) : O ++ [y] = (l.take (k + 1)).filter p := by
  rw [take_of_get hy, List.filter_append, hO]; simp [hp]
theorem filt_no {α : Type} {l O : List α} {p : α → Bool} {k : Nat} {y : α} (hy : l[k]? = some y) (hp : p y = false) (hO : O = (l.take k).filter p) : O = (l.take (k + 1)).filter p := by
  rw [take_of_get hy, List.filter_append, hO]; simp [hp]
def isTimer (c : Int) (x : En) : Bool := decide (x.c = c ∧ x.s = 6)
set_option maxHeartbeats 2000000 in
set_option maxRecDepth 100000 in
theorem rtake_fn (A : Option Addr) (cap : Nat) (l : List En) (tick comp : Int) (hl : l.length ≤ 1000000) :
    Does Try.prog 23 [.slice A l.length cap, .int .i64 tick, .int .i64 comp] [ros En.rcells A l] (fun v Γ' => ∃ A1 q1 A2 q2, v = .tuple #[.slice A1 (l.filter (inTake comp tick)).length q1, .slice A2 (l.filter fun x => !inTake comp tick x).length q2] ∧ Γ' = [rows En.rcells 30 8 A1 q1 (l.filter (inTake comp tick)), rows En.rcells 30 8 A2 q2 (l.filter fun x => !inTake comp tick x)]) := by
  refine Does.enter Try.func23 rfl Try.ntmps23 rfl (fun w0 => ?_)
  refine To.seq ?_
  refine To.reg ?_
  refine To.rd rfl rfl rfl (Rd.assign rfl rfl) ?_
  refine To.rd rfl rfl rfl (Rd.assign rfl rfl) ?_
  refine To.nil ?_
  refine To.thenN ?_
  refine To.seq ?_
  refine To.seq ?_
  refine To.nilRow En.rcells 30 8 ?_
  refine To.nilRow En.rcells 30 8 ?_
  refine To.reg ?_
  refine To.rd rfl rfl rfl (Rd.move rfl rfl) ?_
  refine To.rd rfl rfl rfl (Rd.len rfl rfl Try.underlying25) ?_
  refine To.rd rfl rfl rfl (Rd.move rfl rfl) ?_
  refine To.nil ?_
  refine To.thenN ?_
  refine To.block ?_
  refine To.sub [(1, .int .i64 tick), (2, .int .i64 comp), (6, .slice none ([] : List En).length 0), (7, .slice none ([] : List En).length 0), (10, .slice A l.length cap), (11, .int .i64 ((l.length : Nat) : Int)), (12, .int .i64 ((0 : Nat) : Int))] ⟨rfl, rfl, rfl, rfl, rfl, rfl, rfl, trivial⟩ ?_
  refine To.only [0, 0, 0] rfl ?_
  refine To.loop (fun m ρ Γ => ∃ (kk : Nat) (O : List En) (R : List En) (A6 : Option Addr) (q6 : Nat) (A7 : Option Addr) (q7 : Nat), ρ = [(1, .int .i64 tick), (2, .int .i64 comp), (6, .slice A6 O.length q6), (7, .slice A7 R.length q7), (10, .slice A l.length cap), (11, .int .i64 ((l.length : Nat) : Int)), (12, .int .i64 ((kk : Nat) : Int))] ∧ Γ = [rows En.rcells 30 8 A6 q6 O, rows En.rcells 30 8 A7 q7 R, ros En.rcells A l] ∧ m = l.length - kk ∧ (kk ≤ l.length) ∧ (O = (l.take kk).filter (inTake comp tick)) ∧ (R = (l.take kk).filter fun x => !inTake comp tick x)) (l.length - 0) ⟨0, ([] : List En), ([] : List En), none, 0, none, 0, rfl, rfl, rfl, (Nat.zero_le _), rfl, rfl⟩ ?_
  rintro m _ _ ⟨kk, O, R, A6, q6, A7, q7, rfl, rfl, rfl, hkk, hO, hR⟩
  have hOl : O.length ≤ kk := by rw [hO]; exact Nat.le_trans (List.length_filter_le _ _) (List.length_take_le _ _)
  have hRl : R.length ≤ kk := by rw [hR]; exact Nat.le_trans (List.length_filter_le _ _) (List.length_take_le _ _)
  refine To.seq ?_
  refine To.reg ?_
  refine To.rd rfl rfl rfl (Rd.lss rfl rfl rfl) ?_
  refine To.nil ?_
  refine To.thenN ?_
  refine To.seq ?_
  refine To.condP rfl (fun c13 => ?_) (fun c13 => ?_)
  ·
    obtain ⟨y, hy⟩ : ∃ y, l[kk]? = some y := ⟨l[kk]'(by omega), List.getElem?_eq_getElem _⟩
    refine To.skip ?_
    refine To.thenN ?_
    refine To.seq ?_
    refine To.block ?_
    refine To.seq ?_
    refine To.reg ?_
    refine To.rd rfl rfl rfl (Rd.indexRos encR (i := 2) (j := kk) rfl rfl rfl s25 rfl hy) ?_
    refine To.rd rfl rfl rfl (Rd.loadS (i := 2) rfl rfl r30 rfl (ros_gives encR hy) (encR.len _)) ?_
    refine To.alloc rfl rfl rfl rfl z30 (fun b9 => ?_)
    refine To.up rfl rfl (Up.storeS (i := 0) rfl rfl rfl r30 rfl rfl rfl (box_takesAll rfl)) ?_
    refine To.nil ?_
    refine To.thenN ?_
    refine To.seq ?_
    refine To.reg ?_
    refine To.rd rfl rfl rfl (Rd.field rfl rfl fl30_2) ?_
    refine To.rd rfl rfl rfl (Rd.load (i := 0) rfl rfl c3 rfl (box_gives1 rfl)) ?_
    refine To.rd rfl rfl rfl (Rd.move rfl rfl) ?_
    refine To.rd rfl rfl rfl (Rd.eql rfl rfl rfl) ?_
    refine To.rdP rfl rfl rfl (Rd.move rfl rfl) (fun g20 => ?_) (fun g20 => ?_)
    ·
      refine To.rd rfl rfl rfl (Rd.field rfl rfl fl30_0) ?_
      refine To.rd rfl rfl rfl (Rd.load (i := 0) rfl rfl c3 rfl (box_gives1 rfl)) ?_
      refine To.rd rfl rfl rfl (Rd.move rfl rfl) ?_
      refine To.rd rfl rfl rfl (Rd.leq rfl rfl rfl) ?_
      refine To.rd rfl rfl rfl (Rd.pickT rfl rfl rfl) ?_
      refine To.nil ?_
      refine To.thenN ?_
      refine To.condP rfl (fun c25 => ?_) (fun c25 => ?_)
      ·
        refine To.reg ?_
        refine To.rd rfl rfl rfl (Rd.move rfl rfl) ?_
        refine To.rd rfl rfl rfl (Rd.loadS (i := 0) rfl rfl r30 rfl box_whole rfl) ?_
        refine To.mk rfl rfl rfl (Mk.sliceN (us := [.int .i64 y.t, .int .i64 y.s, .int .i64 y.c, .int .i64 y.p, .int .i64 y.n, .int .i64 y.k, .int .i64 y.h, .slice y.A y.args.length y.cap]) rfl s25 rfl rfl rfl rfl rfl rfl) ?_
        rintro _ _ ⟨b28, rfl, rfl⟩
        refine To.as [row 30 8 (some ⟨b28, 0, none⟩) 1 1 [.int .i64 y.t, .int .i64 y.s, .int .i64 y.c, .int .i64 y.p, .int .i64 y.n, .int .i64 y.k, .int .i64 y.h, .slice y.A y.args.length y.cap], box b9 [.int .i64 y.t, .int .i64 y.s, .int .i64 y.c, .int .i64 y.p, .int .i64 y.n, .int .i64 y.k, .int .i64 y.h, .slice y.A y.args.length y.cap] 30, rows En.rcells 30 8 A6 q6 O, rows En.rcells 30 8 A7 q7 R, ros En.rcells A l] rfl ?_
        refine To.ge rfl rfl rfl (Ge.append1 encR (i := 2) (j := 0) (el := y) rfl s25 rfl rfl rfl rfl rfl (by first | omega | (simp only [List.length_append, List.length_cons, List.length_nil]; omega)) (by first | omega | (simp only [List.length_append, List.length_cons, List.length_nil]; omega))) ?_
        rintro _ _ ⟨A29, q29, rfl, rfl⟩
        refine To.as [row 30 8 (some ⟨b28, 0, none⟩) 1 1 [.int .i64 y.t, .int .i64 y.s, .int .i64 y.c, .int .i64 y.p, .int .i64 y.n, .int .i64 y.k, .int .i64 y.h, .slice y.A y.args.length y.cap], box b9 [.int .i64 y.t, .int .i64 y.s, .int .i64 y.c, .int .i64 y.p, .int .i64 y.n, .int .i64 y.k, .int .i64 y.h, .slice y.A y.args.length y.cap] 30, rows En.rcells 30 8 A29 q29 (O ++ [y]), rows En.rcells 30 8 A7 q7 R, ros En.rcells A l] rfl ?_
        refine To.rd rfl rfl rfl (Rd.assign rfl rfl) ?_
        refine To.nil ?_
        refine To.blockN ?_
        refine To.thenN ?_
        refine To.reg ?_
        refine To.rd rfl rfl rfl (Rd.inc rfl rfl rfl (by omega)) ?_
        refine To.rd rfl rfl rfl (Rd.move rfl rfl) ?_
        refine To.nil ?_
        refine To.thenN ?_
        have hp : inTake comp tick y = true := by simp only [inTake]; exact decide_eq_true (by omega)
        refine To.sub [(1, .int .i64 tick), (2, .int .i64 comp), (6, .slice A29 (O ++ [y]).length q29), (7, .slice A7 R.length q7), (10, .slice A l.length cap), (11, .int .i64 ((l.length : Nat) : Int)), (12, .int .i64 (((kk + 1) : Nat) : Int))] ⟨rfl, rfl, rfl, rfl, rfl, rfl, rfl, trivial⟩ ?_
        refine To.only [2, 2, 2] rfl ?_
        refine To.again (l.length - (kk + 1)) (by omega) ⟨kk + 1, O ++ [y], R, A29, q29, A7, q7, rfl, rfl, rfl, (by omega), (filt_yes hy hp hO), (filt_no hy (by rw [hp]; rfl) hR)⟩
      ·
        refine To.reg ?_
        refine To.rd rfl rfl rfl (Rd.move rfl rfl) ?_
        refine To.rd rfl rfl rfl (Rd.loadS (i := 0) rfl rfl r30 rfl box_whole rfl) ?_
        refine To.mk rfl rfl rfl (Mk.sliceN (us := [.int .i64 y.t, .int .i64 y.s, .int .i64 y.c, .int .i64 y.p, .int .i64 y.n, .int .i64 y.k, .int .i64 y.h, .slice y.A y.args.length y.cap]) rfl s25 rfl rfl rfl rfl rfl rfl) ?_
        rintro _ _ ⟨b32, rfl, rfl⟩
        refine To.as [row 30 8 (some ⟨b32, 0, none⟩) 1 1 [.int .i64 y.t, .int .i64 y.s, .int .i64 y.c, .int .i64 y.p, .int .i64 y.n, .int .i64 y.k, .int .i64 y.h, .slice y.A y.args.length y.cap], box b9 [.int .i64 y.t, .int .i64 y.s, .int .i64 y.c, .int .i64 y.p, .int .i64 y.n, .int .i64 y.k, .int .i64 y.h, .slice y.A y.args.length y.cap] 30, rows En.rcells 30 8 A6 q6 O, rows En.rcells 30 8 A7 q7 R, ros En.rcells A l] rfl ?_
        refine To.ge rfl rfl rfl (Ge.append1 encR (i := 3) (j := 0) (el := y) rfl s25 rfl rfl rfl rfl rfl (by first | omega | (simp only [List.length_append, List.length_cons, List.length_nil]; omega)) (by first | omega | (simp only [List.length_append, List.length_cons, List.length_nil]; omega))) ?_
        rintro _ _ ⟨A33, q33, rfl, rfl⟩
        refine To.as [row 30 8 (some ⟨b32, 0, none⟩) 1 1 [.int .i64 y.t, .int .i64 y.s, .int .i64 y.c, .int .i64 y.p, .int .i64 y.n, .int .i64 y.k, .int .i64 y.h, .slice y.A y.args.length y.cap], box b9 [.int .i64 y.t, .int .i64 y.s, .int .i64 y.c, .int .i64 y.p, .int .i64 y.n, .int .i64 y.k, .int .i64 y.h, .slice y.A y.args.length y.cap] 30, rows En.rcells 30 8 A6 q6 O, rows En.rcells 30 8 A33 q33 (R ++ [y]), ros En.rcells A l] rfl ?_
        refine To.rd rfl rfl rfl (Rd.assign rfl rfl) ?_
        refine To.nil ?_
        refine To.blockN ?_
        refine To.thenN ?_
        refine To.reg ?_
        refine To.rd rfl rfl rfl (Rd.inc rfl rfl rfl (by omega)) ?_
        refine To.rd rfl rfl rfl (Rd.move rfl rfl) ?_
        refine To.nil ?_
        refine To.thenN ?_
        have hp : inTake comp tick y = false := by simp only [inTake]; exact decide_eq_false (by omega)
        refine To.sub [(1, .int .i64 tick), (2, .int .i64 comp), (6, .slice A6 O.length q6), (7, .slice A33 (R ++ [y]).length q33), (10, .slice A l.length cap), (11, .int .i64 ((l.length : Nat) : Int)), (12, .int .i64 (((kk + 1) : Nat) : Int))] ⟨rfl, rfl, rfl, rfl, rfl, rfl, rfl, trivial⟩ ?_
        refine To.only [2, 2, 2] rfl ?_
        refine To.again (l.length - (kk + 1)) (by omega) ⟨kk + 1, O, R ++ [y], A6, q6, A33, q33, rfl, rfl, rfl, (by omega), (filt_no hy hp hO), (filt_yes hy (by rw [hp]; rfl) hR)⟩
    ·
      refine To.sk rfl rfl rfl ?_
      refine To.sk rfl rfl rfl ?_
      refine To.sk rfl rfl rfl ?_
      refine To.sk rfl rfl rfl ?_
      refine To.rd rfl rfl rfl (Rd.pickF rfl rfl rfl) ?_
      refine To.nil ?_
      refine To.thenN ?_
      refine To.condF rfl ?_
      refine To.reg ?_
      refine To.rd rfl rfl rfl (Rd.move rfl rfl) ?_
      refine To.rd rfl rfl rfl (Rd.loadS (i := 0) rfl rfl r30 rfl box_whole rfl) ?_
      refine To.mk rfl rfl rfl (Mk.sliceN (us := [.int .i64 y.t, .int .i64 y.s, .int .i64 y.c, .int .i64 y.p, .int .i64 y.n, .int .i64 y.k, .int .i64 y.h, .slice y.A y.args.length y.cap]) rfl s25 rfl rfl rfl rfl rfl rfl) ?_
      rintro _ _ ⟨b32_2, rfl, rfl⟩
      refine To.as [row 30 8 (some ⟨b32_2, 0, none⟩) 1 1 [.int .i64 y.t, .int .i64 y.s, .int .i64 y.c, .int .i64 y.p, .int .i64 y.n, .int .i64 y.k, .int .i64 y.h, .slice y.A y.args.length y.cap], box b9 [.int .i64 y.t, .int .i64 y.s, .int .i64 y.c, .int .i64 y.p, .int .i64 y.n, .int .i64 y.k, .int .i64 y.h, .slice y.A y.args.length y.cap] 30, rows En.rcells 30 8 A6 q6 O, rows En.rcells 30 8 A7 q7 R, ros En.rcells A l] rfl ?_
      refine To.ge rfl rfl rfl (Ge.append1 encR (i := 3) (j := 0) (el := y) rfl s25 rfl rfl rfl rfl rfl (by first | omega | (simp only [List.length_append, List.length_cons, List.length_nil]; omega)) (by first | omega | (simp only [List.length_append, List.length_cons, List.length_nil]; omega))) ?_
      rintro _ _ ⟨A33_2, q33_2, rfl, rfl⟩
      refine To.as [row 30 8 (some ⟨b32_2, 0, none⟩) 1 1 [.int .i64 y.t, .int .i64 y.s, .int .i64 y.c, .int .i64 y.p, .int .i64 y.n, .int .i64 y.k, .int .i64 y.h, .slice y.A y.args.length y.cap], box b9 [.int .i64 y.t, .int .i64 y.s, .int .i64 y.c, .int .i64 y.p, .int .i64 y.n, .int .i64 y.k, .int .i64 y.h, .slice y.A y.args.length y.cap] 30, rows En.rcells 30 8 A6 q6 O, rows En.rcells 30 8 A33_2 q33_2 (R ++ [y]), ros En.rcells A l] rfl ?_
      refine To.rd rfl rfl rfl (Rd.assign rfl rfl) ?_
      refine To.nil ?_
      refine To.blockN ?_
      refine To.thenN ?_
      refine To.reg ?_
      refine To.rd rfl rfl rfl (Rd.inc rfl rfl rfl (by omega)) ?_
      refine To.rd rfl rfl rfl (Rd.move rfl rfl) ?_
      refine To.nil ?_
      refine To.thenN ?_
      have hp : inTake comp tick y = false := by simp only [inTake]; exact decide_eq_false (by omega)
      refine To.sub [(1, .int .i64 tick), (2, .int .i64 comp), (6, .slice A6 O.length q6), (7, .slice A33_2 (R ++ [y]).length q33_2), (10, .slice A l.length cap), (11, .int .i64 ((l.length : Nat) : Int)), (12, .int .i64 (((kk + 1) : Nat) : Int))] ⟨rfl, rfl, rfl, rfl, rfl, rfl, rfl, trivial⟩ ?_
      refine To.only [2, 2, 2] rfl ?_
      refine To.again (l.length - (kk + 1)) (by omega) ⟨kk + 1, O, R ++ [y], A6, q6, A33_2, q33_2, rfl, rfl, rfl, (by omega), (filt_no hy hp hO), (filt_yes hy (by rw [hp]; rfl) hR)⟩
  ·
    refine To.exit ?_
    refine To.thenX ?_
    refine To.thenX ?_
    refine To.blockX ?_
    refine To.thenN ?_
    refine To.seq ?_
    refine To.reg ?_
    refine To.rd rfl rfl rfl (Rd.move rfl rfl) ?_
    refine To.rd rfl rfl rfl (Rd.move rfl rfl) ?_
    refine To.rd rfl rfl rfl (Rd.assign rfl rfl) ?_
    refine To.rd rfl rfl rfl (Rd.assign rfl rfl) ?_
    refine To.nil ?_
    refine To.thenN ?_
    refine To.ret ?_
    refine To.only [0, 0] rfl ?_
    refine To.end2 (.inl rfl) Try.results23 rfl rfl ?_
    obtain rfl : kk = l.length := by omega
    rw [List.take_length] at hO hR
    subst hO hR
    exact ⟨_, _, _, _, rfl, rfl⟩
set_option maxHeartbeats 2000000 in
set_option maxRecDepth 100000 in
theorem rcancel_fn (A : Option Addr) (cap : Nat) (l : List En) (comp : Int) (hl : l.length ≤ 1000000) :
    Does Try.prog 21 [.slice A l.length cap, .int .i64 comp] [ros En.rcells A l] (fun v Γ' => ∃ A2 q2, v = .tuple #[.slice A2 (l.filter fun x => !isTimer comp x).length q2, .int .i64 ((l.filter (isTimer comp)).length : Nat)] ∧ Γ' = [rows En.rcells 30 8 A2 q2 (l.filter fun x => !isTimer comp x)]) := by
  refine Does.enter Try.func21 rfl Try.ntmps21 rfl (fun w0 => ?_)
  refine To.seq ?_
  refine To.reg ?_
  refine To.rd rfl rfl rfl (Rd.assign rfl rfl) ?_
  refine To.rd rfl rfl rfl (Rd.assign rfl rfl) ?_
  refine To.nil ?_
  refine To.thenN ?_
  refine To.seq ?_
  refine To.reg ?_
  refine To.mk rfl rfl rfl (Mk.slice0 rfl s25) ?_
  rintro _ _ ⟨A10, rfl, rfl⟩
  refine To.as [row 30 8 A10 0 0 [], ros En.rcells A l] rfl ?_
  refine To.rd rfl rfl rfl (Rd.assign rfl rfl) ?_
  refine To.nil ?_
  refine To.thenN ?_
  refine To.seq ?_
  refine To.reg ?_
  refine To.rd rfl rfl rfl (Rd.assign rfl rfl) ?_
  refine To.nil ?_
  refine To.thenN ?_
  refine To.seq ?_
  refine To.seq ?_
  refine To.reg ?_
  refine To.rd rfl rfl rfl (Rd.move rfl rfl) ?_
  refine To.rd rfl rfl rfl (Rd.len rfl rfl Try.underlying25) ?_
  refine To.rd rfl rfl rfl (Rd.move rfl rfl) ?_
  refine To.nil ?_
  refine To.thenN ?_
  refine To.block ?_
  refine To.sub [(1, .int .i64 comp), (6, .slice A10 ([] : List En).length 0), (7, .int .i64 ((0 : Nat) : Int)), (11, .slice A l.length cap), (12, .int .i64 ((l.length : Nat) : Int)), (13, .int .i64 ((0 : Nat) : Int))] ⟨rfl, rfl, rfl, rfl, rfl, rfl, trivial⟩ ?_
  refine To.only [0, 0] rfl ?_
  refine To.as [rows En.rcells 30 8 A10 0 ([] : List En), ros En.rcells A l] rfl ?_
  refine To.loop (fun m ρ Γ => ∃ (kk : Nat) (R : List En) (A6 : Option Addr) (q6 : Nat) (n : Nat), ρ = [(1, .int .i64 comp), (6, .slice A6 R.length q6), (7, .int .i64 ((n : Nat) : Int)), (11, .slice A l.length cap), (12, .int .i64 ((l.length : Nat) : Int)), (13, .int .i64 ((kk : Nat) : Int))] ∧ Γ = [rows En.rcells 30 8 A6 q6 R, ros En.rcells A l] ∧ m = l.length - kk ∧ (kk ≤ l.length) ∧ (R = (l.take kk).filter fun x => !isTimer comp x) ∧ (n = ((l.take kk).filter (isTimer comp)).length)) (l.length - 0) ⟨0, ([] : List En), A10, 0, 0, rfl, rfl, rfl, (Nat.zero_le _), rfl, rfl⟩ ?_
  rintro m _ _ ⟨kk, R, A6, q6, n, rfl, rfl, rfl, hkk, hR, hn⟩
  have hRl : R.length ≤ kk := by rw [hR]; exact Nat.le_trans (List.length_filter_le _ _) (List.length_take_le _ _)
  have hnl : n ≤ kk := by rw [hn]; exact Nat.le_trans (List.length_filter_le _ _) (List.length_take_le _ _)
  refine To.seq ?_
  refine To.reg ?_
  refine To.rd rfl rfl rfl (Rd.lss rfl rfl rfl) ?_
  refine To.nil ?_
  refine To.thenN ?_
  refine To.seq ?_
  refine To.condP rfl (fun c14 => ?_) (fun c14 => ?_)
  ·
    obtain ⟨y, hy⟩ : ∃ y, l[kk]? = some y := ⟨l[kk]'(by omega), List.getElem?_eq_getElem _⟩
    refine To.skip ?_
    refine To.thenN ?_
    refine To.seq ?_
    refine To.block ?_
    refine To.seq ?_
    refine To.reg ?_
    refine To.rd rfl rfl rfl (Rd.indexRos encR (i := 1) (j := kk) rfl rfl rfl s25 rfl hy) ?_
    refine To.rd rfl rfl rfl (Rd.loadS (i := 1) rfl rfl r30 rfl (ros_gives encR hy) (encR.len _)) ?_
    refine To.alloc rfl rfl rfl rfl z30 (fun b9 => ?_)
    refine To.up rfl rfl (Up.storeS (i := 0) rfl rfl rfl r30 rfl rfl rfl (box_takesAll rfl)) ?_
    refine To.nil ?_
    refine To.thenN ?_
    refine To.seq ?_
    refine To.reg ?_
    refine To.rd rfl rfl rfl (Rd.field rfl rfl fl30_2) ?_
    refine To.rd rfl rfl rfl (Rd.load (i := 0) rfl rfl c3 rfl (box_gives1 rfl)) ?_
    refine To.rd rfl rfl rfl (Rd.move rfl rfl) ?_
    refine To.rd rfl rfl rfl (Rd.eql rfl rfl rfl) ?_
    refine To.rdP rfl rfl rfl (Rd.move rfl rfl) (fun g21 => ?_) (fun g21 => ?_)
    ·
      refine To.rd rfl rfl rfl (Rd.field rfl rfl fl30_1) ?_
      refine To.rd rfl rfl rfl (Rd.load (i := 0) rfl rfl c3 rfl (box_gives1 rfl)) ?_
      refine To.rd rfl rfl rfl (Rd.eql rfl rfl rfl) ?_
      refine To.rd rfl rfl rfl (Rd.pickT rfl rfl rfl) ?_
      refine To.nil ?_
      refine To.thenN ?_
      refine To.condP rfl (fun c25 => ?_) (fun c25 => ?_)
      ·
        refine To.reg ?_
        refine To.rd rfl rfl rfl (Rd.move rfl rfl) ?_
        refine To.rd rfl rfl rfl (Rd.inc rfl rfl rfl (by omega)) ?_
        refine To.rd rfl rfl rfl (Rd.assign rfl rfl) ?_
        refine To.nil ?_
        refine To.blockN ?_
        refine To.thenN ?_
        refine To.reg ?_
        refine To.rd rfl rfl rfl (Rd.inc rfl rfl rfl (by omega)) ?_
        refine To.rd rfl rfl rfl (Rd.move rfl rfl) ?_
        refine To.nil ?_
        refine To.thenN ?_
        have hp : isTimer comp y = true := by simp only [isTimer]; exact decide_eq_true (by omega)
        refine To.sub [(1, .int .i64 comp), (6, .slice A6 R.length q6), (7, .int .i64 (((n + 1) : Nat) : Int)), (11, .slice A l.length cap), (12, .int .i64 ((l.length : Nat) : Int)), (13, .int .i64 (((kk + 1) : Nat) : Int))] ⟨rfl, rfl, rfl, rfl, rfl, rfl, trivial⟩ ?_
        refine To.only [1, 1] rfl ?_
        refine To.again (l.length - (kk + 1)) (by omega) ⟨kk + 1, R, A6, q6, n + 1, rfl, rfl, rfl, (by omega), (filt_no hy (p := fun x => !isTimer comp x) (by simp only [hp]; rfl) hR), (by have := hn; rw [take_of_get hy, List.filter_append]; simp [hp]; omega)⟩
      ·
        refine To.reg ?_
        refine To.rd rfl rfl rfl (Rd.move rfl rfl) ?_
        refine To.rd rfl rfl rfl (Rd.loadS (i := 0) rfl rfl r30 rfl box_whole rfl) ?_
        refine To.mk rfl rfl rfl (Mk.sliceN (us := [.int .i64 y.t, .int .i64 y.s, .int .i64 y.c, .int .i64 y.p, .int .i64 y.n, .int .i64 y.k, .int .i64 y.h, .slice y.A y.args.length y.cap]) rfl s25 rfl rfl rfl rfl rfl rfl) ?_
        rintro _ _ ⟨b30, rfl, rfl⟩
        refine To.as [row 30 8 (some ⟨b30, 0, none⟩) 1 1 [.int .i64 y.t, .int .i64 y.s, .int .i64 y.c, .int .i64 y.p, .int .i64 y.n, .int .i64 y.k, .int .i64 y.h, .slice y.A y.args.length y.cap], box b9 [.int .i64 y.t, .int .i64 y.s, .int .i64 y.c, .int .i64 y.p, .int .i64 y.n, .int .i64 y.k, .int .i64 y.h, .slice y.A y.args.length y.cap] 30, rows En.rcells 30 8 A6 q6 R, ros En.rcells A l] rfl ?_
        refine To.ge rfl rfl rfl (Ge.append1 encR (i := 2) (j := 0) (el := y) rfl s25 rfl rfl rfl rfl rfl (by first | omega | (simp only [List.length_append, List.length_cons, List.length_nil]; omega)) (by first | omega | (simp only [List.length_append, List.length_cons, List.length_nil]; omega))) ?_
        rintro _ _ ⟨A31, q31, rfl, rfl⟩
        refine To.as [row 30 8 (some ⟨b30, 0, none⟩) 1 1 [.int .i64 y.t, .int .i64 y.s, .int .i64 y.c, .int .i64 y.p, .int .i64 y.n, .int .i64 y.k, .int .i64 y.h, .slice y.A y.args.length y.cap], box b9 [.int .i64 y.t, .int .i64 y.s, .int .i64 y.c, .int .i64 y.p, .int .i64 y.n, .int .i64 y.k, .int .i64 y.h, .slice y.A y.args.length y.cap] 30, rows En.rcells 30 8 A31 q31 (R ++ [y]), ros En.rcells A l] rfl ?_
        refine To.rd rfl rfl rfl (Rd.assign rfl rfl) ?_
        refine To.nil ?_
        refine To.blockN ?_
        refine To.thenN ?_
        refine To.reg ?_
        refine To.rd rfl rfl rfl (Rd.inc rfl rfl rfl (by omega)) ?_
        refine To.rd rfl rfl rfl (Rd.move rfl rfl) ?_
        refine To.nil ?_
        refine To.thenN ?_
        have hp : isTimer comp y = false := by simp only [isTimer]; exact decide_eq_false (by omega)
        refine To.sub [(1, .int .i64 comp), (6, .slice A31 (R ++ [y]).length q31), (7, .int .i64 ((n : Nat) : Int)), (11, .slice A l.length cap), (12, .int .i64 ((l.length : Nat) : Int)), (13, .int .i64 (((kk + 1) : Nat) : Int))] ⟨rfl, rfl, rfl, rfl, rfl, rfl, trivial⟩ ?_
        refine To.only [2, 2] rfl ?_
        refine To.again (l.length - (kk + 1)) (by omega) ⟨kk + 1, R ++ [y], A31, q31, n, rfl, rfl, rfl, (by omega), (filt_yes hy (p := fun x => !isTimer comp x) (by simp only [hp]; rfl) hR), (by have := hn; rw [take_of_get hy, List.filter_append]; simp [hp]; omega)⟩
    ·
      refine To.sk rfl rfl rfl ?_
      refine To.sk rfl rfl rfl ?_
      refine To.sk rfl rfl rfl ?_
      refine To.rd rfl rfl rfl (Rd.pickF rfl rfl rfl) ?_
      refine To.nil ?_
      refine To.thenN ?_
      refine To.condF rfl ?_
      refine To.reg ?_
      refine To.rd rfl rfl rfl (Rd.move rfl rfl) ?_
      refine To.rd rfl rfl rfl (Rd.loadS (i := 0) rfl rfl r30 rfl box_whole rfl) ?_
      refine To.mk rfl rfl rfl (Mk.sliceN (us := [.int .i64 y.t, .int .i64 y.s, .int .i64 y.c, .int .i64 y.p, .int .i64 y.n, .int .i64 y.k, .int .i64 y.h, .slice y.A y.args.length y.cap]) rfl s25 rfl rfl rfl rfl rfl rfl) ?_
      rintro _ _ ⟨b30_2, rfl, rfl⟩
      refine To.as [row 30 8 (some ⟨b30_2, 0, none⟩) 1 1 [.int .i64 y.t, .int .i64 y.s, .int .i64 y.c, .int .i64 y.p, .int .i64 y.n, .int .i64 y.k, .int .i64 y.h, .slice y.A y.args.length y.cap], box b9 [.int .i64 y.t, .int .i64 y.s, .int .i64 y.c, .int .i64 y.p, .int .i64 y.n, .int .i64 y.k, .int .i64 y.h, .slice y.A y.args.length y.cap] 30, rows En.rcells 30 8 A6 q6 R, ros En.rcells A l] rfl ?_
      refine To.ge rfl rfl rfl (Ge.append1 encR (i := 2) (j := 0) (el := y) rfl s25 rfl rfl rfl rfl rfl (by first | omega | (simp only [List.length_append, List.length_cons, List.length_nil]; omega)) (by first | omega | (simp only [List.length_append, List.length_cons, List.length_nil]; omega))) ?_
      rintro _ _ ⟨A31_2, q31_2, rfl, rfl⟩
      refine To.as [row 30 8 (some ⟨b30_2, 0, none⟩) 1 1 [.int .i64 y.t, .int .i64 y.s, .int .i64 y.c, .int .i64 y.p, .int .i64 y.n, .int .i64 y.k, .int .i64 y.h, .slice y.A y.args.length y.cap], box b9 [.int .i64 y.t, .int .i64 y.s, .int .i64 y.c, .int .i64 y.p, .int .i64 y.n, .int .i64 y.k, .int .i64 y.h, .slice y.A y.args.length y.cap] 30, rows En.rcells 30 8 A31_2 q31_2 (R ++ [y]), ros En.rcells A l] rfl ?_
      refine To.rd rfl rfl rfl (Rd.assign rfl rfl) ?_
      refine To.nil ?_
      refine To.blockN ?_
      refine To.thenN ?_
      refine To.reg ?_
      refine To.rd rfl rfl rfl (Rd.inc rfl rfl rfl (by omega)) ?_
      refine To.rd rfl rfl rfl (Rd.move rfl rfl) ?_
      refine To.nil ?_
      refine To.thenN ?_
      have hp : isTimer comp y = false := by simp only [isTimer]; exact decide_eq_false (by omega)
      refine To.sub [(1, .int .i64 comp), (6, .slice A31_2 (R ++ [y]).length q31_2), (7, .int .i64 ((n : Nat) : Int)), (11, .slice A l.length cap), (12, .int .i64 ((l.length : Nat) : Int)), (13, .int .i64 (((kk + 1) : Nat) : Int))] ⟨rfl, rfl, rfl, rfl, rfl, rfl, trivial⟩ ?_
      refine To.only [2, 2] rfl ?_
      refine To.again (l.length - (kk + 1)) (by omega) ⟨kk + 1, R ++ [y], A31_2, q31_2, n, rfl, rfl, rfl, (by omega), (filt_yes hy (p := fun x => !isTimer comp x) (by simp only [hp]; rfl) hR), (by have := hn; rw [take_of_get hy, List.filter_append]; simp [hp]; omega)⟩
  ·
    refine To.exit ?_
    refine To.thenX ?_
    refine To.thenX ?_
    refine To.blockX ?_
    refine To.thenN ?_
    refine To.seq ?_
    refine To.reg ?_
    refine To.rd rfl rfl rfl (Rd.move rfl rfl) ?_
    refine To.rd rfl rfl rfl (Rd.move rfl rfl) ?_
    refine To.rd rfl rfl rfl (Rd.assign rfl rfl) ?_
    refine To.rd rfl rfl rfl (Rd.assign rfl rfl) ?_
    refine To.nil ?_
    refine To.thenN ?_
    refine To.ret ?_
    refine To.only [0] rfl ?_
    refine To.end2 (.inl rfl) Try.results21 rfl rfl ?_
    obtain rfl : kk = l.length := by omega
    rw [List.take_length] at hn hR
    subst hn hR
    exact ⟨_, _, rfl, rfl⟩
def rnext (l : List En) : Int × Bool := match l with
  | [] => (0, false)
  | e :: _ => (e.t, true)
set_option maxHeartbeats 2000000 in
set_option maxRecDepth 100000 in
theorem rnext_fn (A : Option Addr) (cap : Nat) (l : List En) :
    Does Try.prog 48 [.slice A l.length cap] [ros En.rcells A l] (fun v _ => v = .tuple #[.int .i64 (rnext l).1, .bool (rnext l).2]) := by
  refine Does.enter Try.func48 rfl Try.ntmps48 rfl (fun w0 => ?_)
  refine To.seq ?_
  refine To.reg ?_
  refine To.rd rfl rfl rfl (Rd.assign rfl rfl) ?_
  refine To.rd rfl rfl rfl (Rd.assign rfl rfl) ?_
  refine To.nil ?_
  refine To.thenN ?_
  refine To.seq ?_
  refine To.seq ?_
  refine To.reg ?_
  refine To.rd rfl rfl rfl (Rd.move rfl rfl) ?_
  refine To.rd rfl rfl rfl (Rd.len rfl rfl Try.underlying25) ?_
  refine To.rd rfl rfl rfl (Rd.eql rfl rfl rfl) ?_
  refine To.nil ?_
  refine To.thenN ?_
  refine To.condP rfl (fun c6 => ?_) (fun c6 => ?_)
  ·
    refine To.seq ?_
    refine To.reg ?_
    refine To.rd rfl rfl rfl (Rd.assign rfl rfl) ?_
    refine To.rd rfl rfl rfl (Rd.assign rfl rfl) ?_
    refine To.nil ?_
    refine To.thenN ?_
    refine To.ret ?_
    refine To.thenR ?_
    refine To.end2 (.inl rfl) Try.results48 rfl rfl ?_
    have : l = [] := List.length_eq_zero_iff.1 (by omega)
    subst this
    rfl
  ·
    obtain ⟨y, hy⟩ : ∃ y, l[0]? = some y := ⟨l[0]'(by omega), List.getElem?_eq_getElem _⟩
    refine To.skip ?_
    refine To.thenN ?_
    refine To.seq ?_
    refine To.reg ?_
    refine To.rd rfl rfl rfl (Rd.move rfl rfl) ?_
    refine To.rd rfl rfl rfl (Rd.indexRos encR (i := 0) (j := 0) rfl rfl rfl s25 rfl hy) ?_
    refine To.rd rfl rfl rfl (Rd.field rfl rfl fl30_0) ?_
    refine To.rd rfl rfl rfl (Rd.load (i := 0) rfl rfl c3 rfl (gives_at (f := 0) (ros_gives encR hy) rfl)) ?_
    refine To.rd rfl rfl rfl (Rd.assign rfl rfl) ?_
    refine To.rd rfl rfl rfl (Rd.assign rfl rfl) ?_
    refine To.nil ?_
    refine To.thenN ?_
    refine To.ret ?_
    refine To.end2 (.inl rfl) Try.results48 rfl rfl ?_
    cases l with
    | nil => simp at hy
    | cons z l => simp at hy; subst hy; rfl
set_option maxHeartbeats 2000000 in
set_option maxRecDepth 100000 in
theorem valid_fn (x : En) :
    Does Try.prog 28 [.agg (En.rcells x).toArray] [] (fun v _ => v = .bool (validE x.t x.s x.c x.p x.n x.k x.h)) := by
  refine Does.enter Try.func28 rfl Try.ntmps28 rfl (fun w0 => ?_)
  refine To.seq ?_
  refine To.reg ?_
  refine To.boxed rfl rfl rfl rfl rfl rfl (fun b1 => ?_)
  refine To.rd rfl rfl rfl (Rd.assign rfl rfl) ?_
  refine To.nil ?_
  refine To.thenN ?_
  refine To.seq ?_
  refine To.seq ?_
  refine To.reg ?_
  refine To.rd rfl rfl rfl (Rd.field rfl rfl fl30_0) ?_
  refine To.rd rfl rfl rfl (Rd.load (i := 0) rfl rfl c3 rfl (box_gives1 rfl)) ?_
  refine To.rd rfl rfl rfl (Rd.lss rfl rfl rfl) ?_
  refine To.rdP rfl rfl rfl (Rd.move rfl rfl) (fun g6 => ?_) (fun g6 => ?_)
  ·
    refine To.sk rfl rfl rfl ?_
    refine To.sk rfl rfl rfl ?_
    refine To.sk rfl rfl rfl ?_
    refine To.rd rfl rfl rfl (Rd.pickT rfl rfl rfl) ?_
    refine To.rd rfl rfl rfl (Rd.move rfl rfl) ?_
    refine To.sk rfl rfl rfl ?_
    refine To.sk rfl rfl rfl ?_
    refine To.sk rfl rfl rfl ?_
    refine To.rd rfl rfl rfl (Rd.pickT rfl rfl rfl) ?_
    refine To.rd rfl rfl rfl (Rd.move rfl rfl) ?_
    refine To.sk rfl rfl rfl ?_
    refine To.sk rfl rfl rfl ?_
    refine To.sk rfl rfl rfl ?_
    refine To.rd rfl rfl rfl (Rd.pickT rfl rfl rfl) ?_
    refine To.rd rfl rfl rfl (Rd.move rfl rfl) ?_
    refine To.sk rfl rfl rfl ?_
    refine To.sk rfl rfl rfl ?_
    refine To.sk rfl rfl rfl ?_
    refine To.rd rfl rfl rfl (Rd.pickT rfl rfl rfl) ?_
    refine To.rd rfl rfl rfl (Rd.move rfl rfl) ?_
    refine To.sk rfl rfl rfl ?_
    refine To.sk rfl rfl rfl ?_
    refine To.sk rfl rfl rfl ?_
    refine To.rd rfl rfl rfl (Rd.pickT rfl rfl rfl) ?_
    refine To.nil ?_
    refine To.sub [(0, .agg (En.rcells x).toArray), (1, .pointer (some ⟨b1, 0, none⟩)), (2, .bool false), (30, .bool true)] ⟨rfl, rfl, rfl, rfl, trivial⟩ ?_
    refine To.thenN ?_
    refine To.condT rfl ?_
    refine To.seq ?_
    refine To.reg ?_
    refine To.rd rfl rfl rfl (Rd.assign rfl rfl) ?_
    refine To.nil ?_
    refine To.thenN ?_
    refine To.ret ?_
    refine To.thenR ?_
    refine To.end1 (.inl rfl) Try.results28 rfl ?_
    refine congrArg Value.bool ?_
    unfold validE
    first
      | exact (decide_eq_true (by omega)).symm
      | exact (decide_eq_false (by omega)).symm
      | exact decide_eq_decide.2 (by constructor <;> intro _ <;> omega)
  ·
    refine To.rd rfl rfl rfl (Rd.field rfl rfl fl30_2) ?_
    refine To.rd rfl rfl rfl (Rd.load (i := 0) rfl rfl c3 rfl (box_gives1 rfl)) ?_
    refine To.rd rfl rfl rfl (Rd.lss rfl rfl rfl) ?_
    refine To.rd rfl rfl rfl (Rd.pickF rfl rfl rfl) ?_
    refine To.rdP rfl rfl rfl (Rd.move rfl rfl) (fun g11 => ?_) (fun g11 => ?_)
    ·
      refine To.sk rfl rfl rfl ?_
      refine To.sk rfl rfl rfl ?_
      refine To.sk rfl rfl rfl ?_
      refine To.rd rfl rfl rfl (Rd.pickT rfl rfl rfl) ?_
      refine To.rd rfl rfl rfl (Rd.move rfl rfl) ?_
      refine To.sk rfl rfl rfl ?_
      refine To.sk rfl rfl rfl ?_
      refine To.sk rfl rfl rfl ?_
      refine To.rd rfl rfl rfl (Rd.pickT rfl rfl rfl) ?_
      refine To.rd rfl rfl rfl (Rd.move rfl rfl) ?_
      refine To.sk rfl rfl rfl ?_
      refine To.sk rfl rfl rfl ?_
      refine To.sk rfl rfl rfl ?_
      refine To.rd rfl rfl rfl (Rd.pickT rfl rfl rfl) ?_
      refine To.rd rfl rfl rfl (Rd.move rfl rfl) ?_
      refine To.sk rfl rfl rfl ?_
      refine To.sk rfl rfl rfl ?_
      refine To.sk rfl rfl rfl ?_
      refine To.rd rfl rfl rfl (Rd.pickT rfl rfl rfl) ?_
      refine To.nil ?_
      refine To.sub [(0, .agg (En.rcells x).toArray), (1, .pointer (some ⟨b1, 0, none⟩)), (2, .bool false), (30, .bool true)] ⟨rfl, rfl, rfl, rfl, trivial⟩ ?_
      refine To.thenN ?_
      refine To.condT rfl ?_
      refine To.seq ?_
      refine To.reg ?_
      refine To.rd rfl rfl rfl (Rd.assign rfl rfl) ?_
      refine To.nil ?_
      refine To.thenN ?_
      refine To.ret ?_
      refine To.thenR ?_
      refine To.end1 (.inl rfl) Try.results28 rfl ?_
      refine congrArg Value.bool ?_
      unfold validE
      first
        | exact (decide_eq_true (by omega)).symm
        | exact (decide_eq_false (by omega)).symm
        | exact decide_eq_decide.2 (by constructor <;> intro _ <;> omega)
    ·
      refine To.rd rfl rfl rfl (Rd.field rfl rfl fl30_3) ?_
      refine To.rd rfl rfl rfl (Rd.load (i := 0) rfl rfl c3 rfl (box_gives1 rfl)) ?_
      refine To.rd rfl rfl rfl (Rd.lss rfl rfl rfl) ?_
      refine To.rd rfl rfl rfl (Rd.pickF rfl rfl rfl) ?_
      refine To.rdP rfl rfl rfl (Rd.move rfl rfl) (fun g16 => ?_) (fun g16 => ?_)
      ·
        refine To.sk rfl rfl rfl ?_
        refine To.sk rfl rfl rfl ?_
        refine To.sk rfl rfl rfl ?_
        refine To.rd rfl rfl rfl (Rd.pickT rfl rfl rfl) ?_
        refine To.rd rfl rfl rfl (Rd.move rfl rfl) ?_
        refine To.sk rfl rfl rfl ?_
        refine To.sk rfl rfl rfl ?_
        refine To.sk rfl rfl rfl ?_
        refine To.rd rfl rfl rfl (Rd.pickT rfl rfl rfl) ?_
        refine To.rd rfl rfl rfl (Rd.move rfl rfl) ?_
        refine To.sk rfl rfl rfl ?_
        refine To.sk rfl rfl rfl ?_
        refine To.sk rfl rfl rfl ?_
        refine To.rd rfl rfl rfl (Rd.pickT rfl rfl rfl) ?_
        refine To.nil ?_
        refine To.sub [(0, .agg (En.rcells x).toArray), (1, .pointer (some ⟨b1, 0, none⟩)), (2, .bool false), (30, .bool true)] ⟨rfl, rfl, rfl, rfl, trivial⟩ ?_
        refine To.thenN ?_
        refine To.condT rfl ?_
        refine To.seq ?_
        refine To.reg ?_
        refine To.rd rfl rfl rfl (Rd.assign rfl rfl) ?_
        refine To.nil ?_
        refine To.thenN ?_
        refine To.ret ?_
        refine To.thenR ?_
        refine To.end1 (.inl rfl) Try.results28 rfl ?_
        refine congrArg Value.bool ?_
        unfold validE
        first
          | exact (decide_eq_true (by omega)).symm
          | exact (decide_eq_false (by omega)).symm
          | exact decide_eq_decide.2 (by constructor <;> intro _ <;> omega)
      ·
        refine To.rd rfl rfl rfl (Rd.field rfl rfl fl30_4) ?_
        refine To.rd rfl rfl rfl (Rd.load (i := 0) rfl rfl c3 rfl (box_gives1 rfl)) ?_
        refine To.rd rfl rfl rfl (Rd.lss rfl rfl rfl) ?_
        refine To.rd rfl rfl rfl (Rd.pickF rfl rfl rfl) ?_
        refine To.rdP rfl rfl rfl (Rd.move rfl rfl) (fun g21 => ?_) (fun g21 => ?_)
        ·
          refine To.sk rfl rfl rfl ?_
          refine To.sk rfl rfl rfl ?_
          refine To.sk rfl rfl rfl ?_
          refine To.rd rfl rfl rfl (Rd.pickT rfl rfl rfl) ?_
          refine To.rd rfl rfl rfl (Rd.move rfl rfl) ?_
          refine To.sk rfl rfl rfl ?_
          refine To.sk rfl rfl rfl ?_
          refine To.sk rfl rfl rfl ?_
          refine To.rd rfl rfl rfl (Rd.pickT rfl rfl rfl) ?_
          refine To.nil ?_
          refine To.sub [(0, .agg (En.rcells x).toArray), (1, .pointer (some ⟨b1, 0, none⟩)), (2, .bool false), (30, .bool true)] ⟨rfl, rfl, rfl, rfl, trivial⟩ ?_
          refine To.thenN ?_
          refine To.condT rfl ?_
          refine To.seq ?_
          refine To.reg ?_
          refine To.rd rfl rfl rfl (Rd.assign rfl rfl) ?_
          refine To.nil ?_
          refine To.thenN ?_
          refine To.ret ?_
          refine To.thenR ?_
          refine To.end1 (.inl rfl) Try.results28 rfl ?_
          refine congrArg Value.bool ?_
          unfold validE
          first
            | exact (decide_eq_true (by omega)).symm
            | exact (decide_eq_false (by omega)).symm
            | exact decide_eq_decide.2 (by constructor <;> intro _ <;> omega)
        ·
          refine To.rd rfl rfl rfl (Rd.field rfl rfl fl30_5) ?_
          refine To.rd rfl rfl rfl (Rd.load (i := 0) rfl rfl c3 rfl (box_gives1 rfl)) ?_
          refine To.rd rfl rfl rfl (Rd.lss rfl rfl rfl) ?_
          refine To.rd rfl rfl rfl (Rd.pickF rfl rfl rfl) ?_
          refine To.rdP rfl rfl rfl (Rd.move rfl rfl) (fun g26 => ?_) (fun g26 => ?_)
          ·
            refine To.sk rfl rfl rfl ?_
            refine To.sk rfl rfl rfl ?_
            refine To.sk rfl rfl rfl ?_
            refine To.rd rfl rfl rfl (Rd.pickT rfl rfl rfl) ?_
            refine To.nil ?_
            refine To.sub [(0, .agg (En.rcells x).toArray), (1, .pointer (some ⟨b1, 0, none⟩)), (2, .bool false), (30, .bool true)] ⟨rfl, rfl, rfl, rfl, trivial⟩ ?_
            refine To.thenN ?_
            refine To.condT rfl ?_
            refine To.seq ?_
            refine To.reg ?_
            refine To.rd rfl rfl rfl (Rd.assign rfl rfl) ?_
            refine To.nil ?_
            refine To.thenN ?_
            refine To.ret ?_
            refine To.thenR ?_
            refine To.end1 (.inl rfl) Try.results28 rfl ?_
            refine congrArg Value.bool ?_
            unfold validE
            first
              | exact (decide_eq_true (by omega)).symm
              | exact (decide_eq_false (by omega)).symm
              | exact decide_eq_decide.2 (by constructor <;> intro _ <;> omega)
          ·
            refine To.rd rfl rfl rfl (Rd.field rfl rfl fl30_6) ?_
            refine To.rd rfl rfl rfl (Rd.load (i := 0) rfl rfl c3 rfl (box_gives1 rfl)) ?_
            refine To.rd rfl rfl rfl (Rd.lss rfl rfl rfl) ?_
            refine To.rd rfl rfl rfl (Rd.pickF rfl rfl rfl) ?_
            refine To.nil ?_
            refine To.sub [(0, .agg (En.rcells x).toArray), (1, .pointer (some ⟨b1, 0, none⟩)), (2, .bool false), (30, .bool (decide (x.h < 0)))] ⟨rfl, rfl, rfl, rfl, trivial⟩ ?_
            refine To.thenN ?_
            refine To.condP rfl (fun c30 => ?_) (fun c30 => ?_)
            ·
              refine To.seq ?_
              refine To.reg ?_
              refine To.rd rfl rfl rfl (Rd.assign rfl rfl) ?_
              refine To.nil ?_
              refine To.thenN ?_
              refine To.ret ?_
              refine To.thenR ?_
              refine To.end1 (.inl rfl) Try.results28 rfl ?_
              refine congrArg Value.bool ?_
              unfold validE
              first
                | exact (decide_eq_true (by omega)).symm
                | exact (decide_eq_false (by omega)).symm
                | exact decide_eq_decide.2 (by constructor <;> intro _ <;> omega)
            ·
              refine To.skip ?_
              refine To.thenN ?_
              refine To.seq ?_
              refine To.seq ?_
              refine To.reg ?_
              refine To.rd rfl rfl rfl (Rd.field rfl rfl fl30_1) ?_
              refine To.rd rfl rfl rfl (Rd.load (i := 0) rfl rfl c3 rfl (box_gives1 rfl)) ?_
              refine To.rd rfl rfl rfl (Rd.eql rfl rfl rfl) ?_
              refine To.nil ?_
              refine To.thenN ?_
              refine To.condP rfl (fun c33 => ?_) (fun c33 => ?_)
              ·
                refine To.seq ?_
                refine To.reg ?_
                refine To.rd rfl rfl rfl (Rd.assign rfl rfl) ?_
                refine To.nil ?_
                refine To.thenN ?_
                refine To.ret ?_
                refine To.thenR ?_
                refine To.end1 (.inl rfl) Try.results28 rfl ?_
                refine congrArg Value.bool ?_
                unfold validE
                first
                  | exact (decide_eq_true (by omega)).symm
                  | exact (decide_eq_false (by omega)).symm
                  | exact decide_eq_decide.2 (by constructor <;> intro _ <;> omega)
              ·
                refine To.skip ?_
                refine To.thenN ?_
                refine To.seq ?_
                refine To.reg ?_
                refine To.rd rfl rfl rfl (Rd.field rfl rfl fl30_1) ?_
                refine To.rd rfl rfl rfl (Rd.load (i := 0) rfl rfl c3 rfl (box_gives1 rfl)) ?_
                refine To.rd rfl rfl rfl (Rd.eql rfl rfl rfl) ?_
                refine To.rdP rfl rfl rfl (Rd.move rfl rfl) (fun g37 => ?_) (fun g37 => ?_)
                ·
                  refine To.sk rfl rfl rfl ?_
                  refine To.sk rfl rfl rfl ?_
                  refine To.sk rfl rfl rfl ?_
                  refine To.rd rfl rfl rfl (Rd.pickT rfl rfl rfl) ?_
                  refine To.rd rfl rfl rfl (Rd.move rfl rfl) ?_
                  refine To.rd rfl rfl rfl (Rd.field rfl rfl fl30_3) ?_
                  refine To.rd rfl rfl rfl (Rd.load (i := 0) rfl rfl c3 rfl (box_gives1 rfl)) ?_
                  refine To.rd rfl rfl rfl (Rd.eql rfl rfl rfl) ?_
                  refine To.rd rfl rfl rfl (Rd.pickT rfl rfl rfl) ?_
                  refine To.rdP rfl rfl rfl (Rd.move rfl rfl) (fun g47 => ?_) (fun g47 => ?_)
                  ·
                    refine To.rd rfl rfl rfl (Rd.field rfl rfl fl30_5) ?_
                    refine To.rd rfl rfl rfl (Rd.load (i := 0) rfl rfl c3 rfl (box_gives1 rfl)) ?_
                    refine To.rd rfl rfl rfl (Rd.eql rfl rfl rfl) ?_
                    refine To.rd rfl rfl rfl (Rd.pickT rfl rfl rfl) ?_
                    refine To.rd rfl rfl rfl (Rd.assign rfl rfl) ?_
                    refine To.nil ?_
                    refine To.sub [(0, .agg (En.rcells x).toArray), (1, .pointer (some ⟨b1, 0, none⟩)), (2, .bool (decide (x.k = 0))), (30, .bool (decide (x.h < 0))), (31, .pointer (some ⟨b1, 1, none⟩)), (32, .int .i64 x.s), (33, .bool (decide (x.s = 5)))] ⟨rfl, rfl, rfl, rfl, rfl, rfl, rfl, trivial⟩ ?_
                    refine To.thenN ?_
                    refine To.ret ?_
                    refine To.end1 (.inl rfl) Try.results28 rfl ?_
                    refine congrArg Value.bool ?_
                    unfold validE
                    first
                      | exact (decide_eq_true (by omega)).symm
                      | exact (decide_eq_false (by omega)).symm
                      | exact decide_eq_decide.2 (by constructor <;> intro _ <;> omega)
                  ·
                    refine To.sk rfl rfl rfl ?_
                    refine To.sk rfl rfl rfl ?_
                    refine To.sk rfl rfl rfl ?_
                    refine To.rd rfl rfl rfl (Rd.pickF rfl rfl rfl) ?_
                    refine To.rd rfl rfl rfl (Rd.assign rfl rfl) ?_
                    refine To.nil ?_
                    refine To.sub [(0, .agg (En.rcells x).toArray), (1, .pointer (some ⟨b1, 0, none⟩)), (2, .bool false), (30, .bool (decide (x.h < 0))), (31, .pointer (some ⟨b1, 1, none⟩)), (32, .int .i64 x.s), (33, .bool (decide (x.s = 5)))] ⟨rfl, rfl, rfl, rfl, rfl, rfl, rfl, trivial⟩ ?_
                    refine To.thenN ?_
                    refine To.ret ?_
                    refine To.end1 (.inl rfl) Try.results28 rfl ?_
                    refine congrArg Value.bool ?_
                    unfold validE
                    first
                      | exact (decide_eq_true (by omega)).symm
                      | exact (decide_eq_false (by omega)).symm
                      | exact decide_eq_decide.2 (by constructor <;> intro _ <;> omega)
                ·
                  refine To.rd rfl rfl rfl (Rd.field rfl rfl fl30_1) ?_
                  refine To.rd rfl rfl rfl (Rd.load (i := 0) rfl rfl c3 rfl (box_gives1 rfl)) ?_
                  refine To.rd rfl rfl rfl (Rd.eql rfl rfl rfl) ?_
                  refine To.rd rfl rfl rfl (Rd.pickF rfl rfl rfl) ?_
                  refine To.rdP rfl rfl rfl (Rd.move rfl rfl) (fun g42 => ?_) (fun g42 => ?_)
                  ·
                    refine To.rd rfl rfl rfl (Rd.field rfl rfl fl30_3) ?_
                    refine To.rd rfl rfl rfl (Rd.load (i := 0) rfl rfl c3 rfl (box_gives1 rfl)) ?_
                    refine To.rd rfl rfl rfl (Rd.eql rfl rfl rfl) ?_
                    refine To.rd rfl rfl rfl (Rd.pickT rfl rfl rfl) ?_
                    refine To.rdP rfl rfl rfl (Rd.move rfl rfl) (fun g47 => ?_) (fun g47 => ?_)
                    ·
                      refine To.rd rfl rfl rfl (Rd.field rfl rfl fl30_5) ?_
                      refine To.rd rfl rfl rfl (Rd.load (i := 0) rfl rfl c3 rfl (box_gives1 rfl)) ?_
                      refine To.rd rfl rfl rfl (Rd.eql rfl rfl rfl) ?_
                      refine To.rd rfl rfl rfl (Rd.pickT rfl rfl rfl) ?_
                      refine To.rd rfl rfl rfl (Rd.assign rfl rfl) ?_
                      refine To.nil ?_
                      refine To.sub [(0, .agg (En.rcells x).toArray), (1, .pointer (some ⟨b1, 0, none⟩)), (2, .bool (decide (x.k = 0))), (30, .bool (decide (x.h < 0))), (31, .pointer (some ⟨b1, 1, none⟩)), (32, .int .i64 x.s), (33, .bool (decide (x.s = 5)))] ⟨rfl, rfl, rfl, rfl, rfl, rfl, rfl, trivial⟩ ?_
                      refine To.thenN ?_
                      refine To.ret ?_
                      refine To.end1 (.inl rfl) Try.results28 rfl ?_
                      refine congrArg Value.bool ?_
                      unfold validE
                      first
                        | exact (decide_eq_true (by omega)).symm
                        | exact (decide_eq_false (by omega)).symm
                        | exact decide_eq_decide.2 (by constructor <;> intro _ <;> omega)
                    ·
                      refine To.sk rfl rfl rfl ?_
                      refine To.sk rfl rfl rfl ?_
                      refine To.sk rfl rfl rfl ?_
                      refine To.rd rfl rfl rfl (Rd.pickF rfl rfl rfl) ?_
                      refine To.rd rfl rfl rfl (Rd.assign rfl rfl) ?_
                      refine To.nil ?_
                      refine To.sub [(0, .agg (En.rcells x).toArray), (1, .pointer (some ⟨b1, 0, none⟩)), (2, .bool false), (30, .bool (decide (x.h < 0))), (31, .pointer (some ⟨b1, 1, none⟩)), (32, .int .i64 x.s), (33, .bool (decide (x.s = 5)))] ⟨rfl, rfl, rfl, rfl, rfl, rfl, rfl, trivial⟩ ?_
                      refine To.thenN ?_
                      refine To.ret ?_
                      refine To.end1 (.inl rfl) Try.results28 rfl ?_
                      refine congrArg Value.bool ?_
                      unfold validE
                      first
                        | exact (decide_eq_true (by omega)).symm
                        | exact (decide_eq_false (by omega)).symm
                        | exact decide_eq_decide.2 (by constructor <;> intro _ <;> omega)
                  ·
                    refine To.sk rfl rfl rfl ?_
                    refine To.sk rfl rfl rfl ?_
                    refine To.sk rfl rfl rfl ?_
                    refine To.rd rfl rfl rfl (Rd.pickF rfl rfl rfl) ?_
                    refine To.rd rfl rfl rfl (Rd.move rfl rfl) ?_
                    refine To.sk rfl rfl rfl ?_
                    refine To.sk rfl rfl rfl ?_
                    refine To.sk rfl rfl rfl ?_
                    refine To.rd rfl rfl rfl (Rd.pickF rfl rfl rfl) ?_
                    refine To.rd rfl rfl rfl (Rd.assign rfl rfl) ?_
                    refine To.nil ?_
                    refine To.sub [(0, .agg (En.rcells x).toArray), (1, .pointer (some ⟨b1, 0, none⟩)), (2, .bool false), (30, .bool (decide (x.h < 0))), (31, .pointer (some ⟨b1, 1, none⟩)), (32, .int .i64 x.s), (33, .bool (decide (x.s = 5)))] ⟨rfl, rfl, rfl, rfl, rfl, rfl, rfl, trivial⟩ ?_
                    refine To.thenN ?_
                    refine To.ret ?_
                    refine To.end1 (.inl rfl) Try.results28 rfl ?_
                    refine congrArg Value.bool ?_
                    unfold validE
                    first
                      | exact (decide_eq_true (by omega)).symm
                      | exact (decide_eq_false (by omega)).symm
                      | exact decide_eq_decide.2 (by constructor <;> intro _ <;> omega)
theorem copy_fn (a : Nat) (v : Value) (L : List En) (hlen : L.length ≤ 100000000) (hal : ∀ e ∈ L, e.args.length ≤ 1000000000000) :
    Does Try.prog 19 [.pointer (some ⟨a, 0, none⟩)] [agc a v L] (fun u Γ' => ∃ a' v' L', u = .pointer (some ⟨a', 0, none⟩) ∧ Γ' = [agc a' v' L', agc a v L] ∧ L'.map En.bare = L.map En.bare) := fun w hs => by
  have hA : Ag w 0 a v L := hs.each (agc a v L) (by simp)
  refine (copy_any 0 a v L w hA hlen hal).mono ?_
  rintro e w' ⟨a', v', L', rfl, h2, h3, h4⟩
  refine ⟨_, _, rfl, ⟨a', v', L', rfl, rfl, h3⟩, ?_⟩
  have hn := agc_nodup h2.up
  have hlow : ∀ g, g ∈ (agc a' v' L').owns ∨ g ∈ (agc a' v' L').reads → w.heap.size ≤ g := fun g hg => by
    rcases hg with hg | hg
    · rcases List.mem_cons.1 hg with rfl | h
      · exact h2.low
      · exact (h2.row.lt g (by simpa using h)).1
    · obtain ⟨e, he, hg⟩ := List.mem_flatMap.1 hg
      exact ((h2.args e he).lt g (ownBlock_blks.2 hg)).1
  have hp : Post [] [agc a' v' L'] w w' := post_one h2.up hn.1 hn.2 (Keeps.of_ext h4) (fun g hg hl => by have := hlow g (.inl hg); omega) (fun g hg hl => by have := hlow g (.inr hg); omega)
  exact hp.add hs
end Go.Proofs.Ytnamppkicefbjaa
