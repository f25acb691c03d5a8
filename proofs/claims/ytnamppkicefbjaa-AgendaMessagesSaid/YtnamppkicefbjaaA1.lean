/- The reference's Add and Before, in the logic of slots and chunks. Own text (walk printed by sx.py). -/
import Derived.Test.YtnamppkicefbjaaR2
import Derived.Test.YtnamppkicefbjaaT
namespace Go.Proofs.Ytnamppkicefbjaa
open Go.RowKit Go.Flow Go.Mem Go.Sep
theorem encR : Enc En.rcells 8 := ⟨fun _ => rfl, fun e => rcells_one e⟩
theorem before_fn (x y : En) : Does Try.prog 15 [.agg x.rcells.toArray, .agg y.rcells.toArray] [] (fun v' _ => v' = .bool (bef x y)) := Does.pure fun w => before_any _ _ _ _ _ _ _ _ _ _ _ _ _ _ _ _ _ _ _ _ w
theorem drop_of_get {α : Type} {l : List α} {k : Nat} {y : α} (hy : l[k]? = some y) : l.drop k = y :: l.drop (k + 1) := by
  obtain ⟨h1, h2⟩ := List.getElem?_eq_some_iff.1 hy
  rw [← h2]; exact List.drop_eq_getElem_cons h1
theorem take_of_get {α : Type} {l : List α} {k : Nat} {y : α} (hy : l[k]? = some y) : l.take (k + 1) = l.take k ++ [y] := by
  obtain ⟨h1, h2⟩ := List.getElem?_eq_some_iff.1 hy
  rw [← h2]; exact List.take_succ_eq_append_getElem h1
theorem radd_step {l O : List En} {x y : En} {k : Nat} (hy : l[k]? = some y) (h : O ++ l.drop k = insW x l) : O ++ [y] ++ l.drop (k + 1) = insW x l := by
  rw [← h, drop_of_get hy]; simp
theorem radd_keep {l O : List En} {x y : En} {k : Nat} (hy : l[k]? = some y) (h : O = l.take k ∧ ∀ z ∈ l.take k, bef x z = false) (hb : bef x y = false) : O ++ [y] = l.take (k + 1) ∧ ∀ z ∈ l.take (k + 1), bef x z = false := by
  rw [take_of_get hy, h.1]
  refine ⟨rfl, fun z hz => ?_⟩
  rcases List.mem_append.1 hz with h1 | h1
  · exact h.2 z h1
  · rw [List.mem_singleton.1 h1]; exact hb
theorem radd_in {l O : List En} {x y : En} {k : Nat} (hy : l[k]? = some y) (h : O = l.take k ∧ ∀ z ∈ l.take k, bef x z = false) (hb : bef x y = true) : O ++ [x] ++ [y] ++ l.drop (k + 1) = insW x l := by
  conv => rhs; rw [← List.take_append_drop k l, insW_split x _ _ h.2, drop_of_get hy]
  have : insW x (y :: l.drop (k + 1)) = x :: y :: l.drop (k + 1) := by simp [insW, hb]
  rw [this, h.1]; simp
theorem radd_out {l O : List En} {x : En} (h : O = l.take l.length ∧ ∀ z ∈ l.take l.length, bef x z = false) : O ++ [x] = insW x l := by
  rw [List.take_length] at h
  have := insW_split x l [] h.2
  rw [List.append_nil] at this
  rw [this, h.1]; rfl
set_option maxHeartbeats 2000000 in
set_option maxRecDepth 100000 in
theorem radd_fn (A : Option Addr) (cap : Nat) (l : List En) (x : En) (hl : l.length ≤ 1000000) :
    Does Try.prog 32 [.slice A l.length cap, .agg (En.rcells x).toArray] [ros En.rcells A l] (fun v Γ' => ∃ A' cap', v = .slice A' (insW x l).length cap' ∧ Γ' = [rows En.rcells 30 8 A' cap' (insW x l)]) := by
  refine Does.enter Try.func32 rfl Try.ntmps32 rfl (fun w0 => ?_)
  refine To.seq ?_
  refine To.reg ?_
  refine To.boxed rfl rfl rfl rfl rfl rfl (fun b3 => ?_)
  refine To.rd rfl rfl rfl (Rd.assign rfl rfl) ?_
  refine To.nil ?_
  refine To.thenN ?_
  refine To.seq ?_
  refine To.reg ?_
  refine To.mk rfl rfl rfl (Mk.slice0 rfl s25) ?_
  rintro _ _ ⟨A9, rfl, rfl⟩
  refine To.as [row 30 8 A9 0 0 [], box b3 [.int .i64 x.t, .int .i64 x.s, .int .i64 x.c, .int .i64 x.p, .int .i64 x.n, .int .i64 x.k, .int .i64 x.h, .slice x.A x.args.length x.cap] 30, ros En.rcells A l] rfl ?_
  refine To.rd rfl rfl rfl (Rd.assign rfl rfl) ?_
  refine To.nil ?_
  refine To.thenN ?_
  refine To.seq ?_
  refine To.reg ?_
  refine To.rd rfl rfl rfl (Rd.assign rfl rfl) ?_
  refine To.nil ?_
  refine To.thenN ?_
  refine To.seq ?_
  refine To.seq ?_
  refine To.reg ?_
  refine To.rd rfl rfl rfl (Rd.move rfl rfl) ?_
  refine To.rd rfl rfl rfl (Rd.len rfl rfl Try.underlying25) ?_
  refine To.rd rfl rfl rfl (Rd.move rfl rfl) ?_
  refine To.nil ?_
  refine To.thenN ?_
  refine To.block ?_
  refine To.sub [(3, .pointer (some ⟨b3, 0, none⟩)), (5, .slice A9 ([] : List En).length 0), (6, .bool false), (10, .slice A l.length cap), (11, .int .i64 ((l.length : Nat) : Int)), (12, .int .i64 ((0 : Nat) : Int))] ⟨rfl, rfl, rfl, rfl, rfl, rfl, trivial⟩ ?_
  refine To.only [0, 0, 0] rfl ?_
  refine To.as [rows En.rcells 30 8 A9 0 ([] : List En), box b3 [.int .i64 x.t, .int .i64 x.s, .int .i64 x.c, .int .i64 x.p, .int .i64 x.n, .int .i64 x.k, .int .i64 x.h, .slice x.A x.args.length x.cap] 30, ros En.rcells A l] rfl ?_
  refine To.loop (fun mz ρ Γ => ∃ (kk : Nat) (O : List En) (d : Bool) (A5 : Option Addr) (q5 : Nat), ρ = [(3, .pointer (some ⟨b3, 0, none⟩)), (5, .slice A5 O.length q5), (6, .bool d), (10, .slice A l.length cap), (11, .int .i64 ((l.length : Nat) : Int)), (12, .int .i64 ((kk : Nat) : Int))] ∧ Γ = [rows En.rcells 30 8 A5 q5 O, box b3 [.int .i64 x.t, .int .i64 x.s, .int .i64 x.c, .int .i64 x.p, .int .i64 x.n, .int .i64 x.k, .int .i64 x.h, .slice x.A x.args.length x.cap] 30, ros En.rcells A l] ∧ mz = l.length - kk ∧ (kk ≤ l.length) ∧ (O.length ≤ kk + 1) ∧ (d = false → O = l.take kk ∧ ∀ z ∈ l.take kk, bef x z = false) ∧ (d = true → O ++ l.drop kk = insW x l)) (l.length - 0) ⟨0, ([] : List En), false, A9, 0, rfl, rfl, rfl, (Nat.zero_le _), (by simp), (fun _ => ⟨rfl, by simp⟩), (fun h => by cases h)⟩ ?_
  rintro mz _ _ ⟨kk, O, d, A5, q5, rfl, rfl, rfl, hkk, hO, hF, hT⟩
  refine To.seq ?_
  refine To.reg ?_
  refine To.rd rfl rfl rfl (Rd.lss rfl rfl rfl) ?_
  refine To.nil ?_
  refine To.thenN ?_
  refine To.seq ?_
  refine To.condP rfl (fun c13 => ?_) (fun c13 => ?_)
  ·
    obtain ⟨y, hy⟩ : ∃ y, l[kk]? = some y := ⟨l[kk]'(by omega), List.getElem?_eq_getElem _⟩
    refine To.skip ?_
    refine To.thenN ?_
    refine To.seq ?_
    refine To.block ?_
    refine To.seq ?_
    refine To.reg ?_
    refine To.rd rfl rfl rfl (Rd.indexRos encR (i := 2) (j := kk) rfl rfl rfl s25 rfl hy) ?_
    refine To.rd rfl rfl rfl (Rd.loadS (i := 2) rfl rfl r30 rfl (ros_gives encR hy) (encR.len _)) ?_
    refine To.alloc rfl rfl rfl rfl z30 (fun b8 => ?_)
    refine To.up rfl rfl (Up.storeS (i := 0) rfl rfl rfl r30 rfl rfl rfl (box_takesAll rfl)) ?_
    refine To.nil ?_
    refine To.thenN ?_
    refine To.seq ?_
    refine To.seq ?_
    refine To.reg ?_
    refine To.rd rfl rfl rfl (Rd.move rfl rfl) ?_
    refine To.rd rfl rfl rfl (Rd.not rfl rfl) ?_
    refine To.rdB rfl rfl rfl (Rd.move rfl rfl) (fun g18 => ?_) (fun g18 => ?_)
    ·
      refine To.rd rfl rfl rfl (Rd.loadS (i := 2) rfl rfl r30 rfl box_whole rfl) ?_
      refine To.rd rfl rfl rfl (Rd.loadS (i := 0) rfl rfl r30 rfl box_whole rfl) ?_
      refine To.callV rfl rfl rfl (Ent.fn rfl rfl ca15) (before_fn x y) rfl (oks_nil _) ?_
      refine To.rd rfl rfl rfl (Rd.pickT rfl rfl rfl) ?_
      refine To.nil ?_
      refine To.thenN ?_
      refine To.cond rfl (fun c22 => ?_) (fun c22 => ?_)
      ·
        refine To.seq ?_
        refine To.reg ?_
        refine To.rd rfl rfl rfl (Rd.move rfl rfl) ?_
        refine To.rd rfl rfl rfl (Rd.loadS (i := 2) rfl rfl r30 rfl box_whole rfl) ?_
        refine To.mk rfl rfl rfl (Mk.sliceN (us := [.int .i64 x.t, .int .i64 x.s, .int .i64 x.c, .int .i64 x.p, .int .i64 x.n, .int .i64 x.k, .int .i64 x.h, .slice x.A x.args.length x.cap]) rfl s25 rfl rfl rfl rfl rfl rfl) ?_
        rintro _ _ ⟨b25, rfl, rfl⟩
        refine To.as [row 30 8 (some ⟨b25, 0, none⟩) 1 1 [.int .i64 x.t, .int .i64 x.s, .int .i64 x.c, .int .i64 x.p, .int .i64 x.n, .int .i64 x.k, .int .i64 x.h, .slice x.A x.args.length x.cap], box b8 [.int .i64 y.t, .int .i64 y.s, .int .i64 y.c, .int .i64 y.p, .int .i64 y.n, .int .i64 y.k, .int .i64 y.h, .slice y.A y.args.length y.cap] 30, rows En.rcells 30 8 A5 q5 O, box b3 [.int .i64 x.t, .int .i64 x.s, .int .i64 x.c, .int .i64 x.p, .int .i64 x.n, .int .i64 x.k, .int .i64 x.h, .slice x.A x.args.length x.cap] 30, ros En.rcells A l] rfl ?_
        refine To.ge rfl rfl rfl (Ge.append1 encR (i := 2) (j := 0) (el := x) rfl s25 rfl rfl rfl rfl rfl (by first | omega | (simp only [List.length_append, List.length_cons, List.length_nil]; omega)) (by first | omega | (simp only [List.length_append, List.length_cons, List.length_nil]; omega))) ?_
        rintro _ _ ⟨A26, q26, rfl, rfl⟩
        refine To.as [row 30 8 (some ⟨b25, 0, none⟩) 1 1 [.int .i64 x.t, .int .i64 x.s, .int .i64 x.c, .int .i64 x.p, .int .i64 x.n, .int .i64 x.k, .int .i64 x.h, .slice x.A x.args.length x.cap], box b8 [.int .i64 y.t, .int .i64 y.s, .int .i64 y.c, .int .i64 y.p, .int .i64 y.n, .int .i64 y.k, .int .i64 y.h, .slice y.A y.args.length y.cap] 30, rows En.rcells 30 8 A26 q26 (O ++ [x]), box b3 [.int .i64 x.t, .int .i64 x.s, .int .i64 x.c, .int .i64 x.p, .int .i64 x.n, .int .i64 x.k, .int .i64 x.h, .slice x.A x.args.length x.cap] 30, ros En.rcells A l] rfl ?_
        refine To.rd rfl rfl rfl (Rd.assign rfl rfl) ?_
        refine To.nil ?_
        refine To.thenN ?_
        refine To.reg ?_
        refine To.rd rfl rfl rfl (Rd.assign rfl rfl) ?_
        refine To.nil ?_
        refine To.thenN ?_
        refine To.reg ?_
        refine To.rd rfl rfl rfl (Rd.move rfl rfl) ?_
        refine To.rd rfl rfl rfl (Rd.loadS (i := 1) rfl rfl r30 rfl box_whole rfl) ?_
        refine To.mk rfl rfl rfl (Mk.sliceN (us := [.int .i64 y.t, .int .i64 y.s, .int .i64 y.c, .int .i64 y.p, .int .i64 y.n, .int .i64 y.k, .int .i64 y.h, .slice y.A y.args.length y.cap]) rfl s25 rfl rfl rfl rfl rfl rfl) ?_
        rintro _ _ ⟨b29, rfl, rfl⟩
        refine To.as [row 30 8 (some ⟨b29, 0, none⟩) 1 1 [.int .i64 y.t, .int .i64 y.s, .int .i64 y.c, .int .i64 y.p, .int .i64 y.n, .int .i64 y.k, .int .i64 y.h, .slice y.A y.args.length y.cap], row 30 8 (some ⟨b25, 0, none⟩) 1 1 [.int .i64 x.t, .int .i64 x.s, .int .i64 x.c, .int .i64 x.p, .int .i64 x.n, .int .i64 x.k, .int .i64 x.h, .slice x.A x.args.length x.cap], box b8 [.int .i64 y.t, .int .i64 y.s, .int .i64 y.c, .int .i64 y.p, .int .i64 y.n, .int .i64 y.k, .int .i64 y.h, .slice y.A y.args.length y.cap] 30, rows En.rcells 30 8 A26 q26 (O ++ [x]), box b3 [.int .i64 x.t, .int .i64 x.s, .int .i64 x.c, .int .i64 x.p, .int .i64 x.n, .int .i64 x.k, .int .i64 x.h, .slice x.A x.args.length x.cap] 30, ros En.rcells A l] rfl ?_
        refine To.ge rfl rfl rfl (Ge.append1 encR (i := 3) (j := 0) (el := y) rfl s25 rfl rfl rfl rfl rfl (by first | omega | (simp only [List.length_append, List.length_cons, List.length_nil]; omega)) (by first | omega | (simp only [List.length_append, List.length_cons, List.length_nil]; omega))) ?_
        rintro _ _ ⟨A30, q30, rfl, rfl⟩
        refine To.as [row 30 8 (some ⟨b29, 0, none⟩) 1 1 [.int .i64 y.t, .int .i64 y.s, .int .i64 y.c, .int .i64 y.p, .int .i64 y.n, .int .i64 y.k, .int .i64 y.h, .slice y.A y.args.length y.cap], row 30 8 (some ⟨b25, 0, none⟩) 1 1 [.int .i64 x.t, .int .i64 x.s, .int .i64 x.c, .int .i64 x.p, .int .i64 x.n, .int .i64 x.k, .int .i64 x.h, .slice x.A x.args.length x.cap], box b8 [.int .i64 y.t, .int .i64 y.s, .int .i64 y.c, .int .i64 y.p, .int .i64 y.n, .int .i64 y.k, .int .i64 y.h, .slice y.A y.args.length y.cap] 30, rows En.rcells 30 8 A30 q30 (O ++ [x] ++ [y]), box b3 [.int .i64 x.t, .int .i64 x.s, .int .i64 x.c, .int .i64 x.p, .int .i64 x.n, .int .i64 x.k, .int .i64 x.h, .slice x.A x.args.length x.cap] 30, ros En.rcells A l] rfl ?_
        refine To.rd rfl rfl rfl (Rd.assign rfl rfl) ?_
        refine To.nil ?_
        refine To.blockN ?_
        refine To.thenN ?_
        refine To.reg ?_
        refine To.rd rfl rfl rfl (Rd.inc rfl rfl rfl (by omega)) ?_
        refine To.rd rfl rfl rfl (Rd.move rfl rfl) ?_
        refine To.nil ?_
        refine To.thenN ?_
        have hOk : O.length ≤ kk := by rw [(hF (by simpa using g18)).1]; exact List.length_take_le _ _
        refine To.sub [(3, .pointer (some ⟨b3, 0, none⟩)), (5, .slice A30 (O ++ [x] ++ [y]).length q30), (6, .bool true), (10, .slice A l.length cap), (11, .int .i64 ((l.length : Nat) : Int)), (12, .int .i64 (((kk + 1) : Nat) : Int))] ⟨rfl, rfl, rfl, rfl, rfl, rfl, trivial⟩ ?_
        refine To.only [3, 3, 3] rfl ?_
        refine To.again (l.length - (kk + 1)) (by omega) ⟨kk + 1, O ++ [x] ++ [y], true, A30, q30, rfl, rfl, rfl, (by omega), (by first | omega | (simp only [List.length_append, List.length_cons, List.length_nil]; omega)), (fun e => by cases e), (fun _ => radd_in hy (hF (by simpa using g18)) c22)⟩
      ·
        refine To.skip ?_
        refine To.thenN ?_
        refine To.reg ?_
        refine To.rd rfl rfl rfl (Rd.move rfl rfl) ?_
        refine To.rd rfl rfl rfl (Rd.loadS (i := 0) rfl rfl r30 rfl box_whole rfl) ?_
        refine To.mk rfl rfl rfl (Mk.sliceN (us := [.int .i64 y.t, .int .i64 y.s, .int .i64 y.c, .int .i64 y.p, .int .i64 y.n, .int .i64 y.k, .int .i64 y.h, .slice y.A y.args.length y.cap]) rfl s25 rfl rfl rfl rfl rfl rfl) ?_
        rintro _ _ ⟨b29_2, rfl, rfl⟩
        refine To.as [row 30 8 (some ⟨b29_2, 0, none⟩) 1 1 [.int .i64 y.t, .int .i64 y.s, .int .i64 y.c, .int .i64 y.p, .int .i64 y.n, .int .i64 y.k, .int .i64 y.h, .slice y.A y.args.length y.cap], box b8 [.int .i64 y.t, .int .i64 y.s, .int .i64 y.c, .int .i64 y.p, .int .i64 y.n, .int .i64 y.k, .int .i64 y.h, .slice y.A y.args.length y.cap] 30, rows En.rcells 30 8 A5 q5 O, box b3 [.int .i64 x.t, .int .i64 x.s, .int .i64 x.c, .int .i64 x.p, .int .i64 x.n, .int .i64 x.k, .int .i64 x.h, .slice x.A x.args.length x.cap] 30, ros En.rcells A l] rfl ?_
        refine To.ge rfl rfl rfl (Ge.append1 encR (i := 2) (j := 0) (el := y) rfl s25 rfl rfl rfl rfl rfl (by first | omega | (simp only [List.length_append, List.length_cons, List.length_nil]; omega)) (by first | omega | (simp only [List.length_append, List.length_cons, List.length_nil]; omega))) ?_
        rintro _ _ ⟨A30_2, q30_2, rfl, rfl⟩
        refine To.as [row 30 8 (some ⟨b29_2, 0, none⟩) 1 1 [.int .i64 y.t, .int .i64 y.s, .int .i64 y.c, .int .i64 y.p, .int .i64 y.n, .int .i64 y.k, .int .i64 y.h, .slice y.A y.args.length y.cap], box b8 [.int .i64 y.t, .int .i64 y.s, .int .i64 y.c, .int .i64 y.p, .int .i64 y.n, .int .i64 y.k, .int .i64 y.h, .slice y.A y.args.length y.cap] 30, rows En.rcells 30 8 A30_2 q30_2 (O ++ [y]), box b3 [.int .i64 x.t, .int .i64 x.s, .int .i64 x.c, .int .i64 x.p, .int .i64 x.n, .int .i64 x.k, .int .i64 x.h, .slice x.A x.args.length x.cap] 30, ros En.rcells A l] rfl ?_
        refine To.rd rfl rfl rfl (Rd.assign rfl rfl) ?_
        refine To.nil ?_
        refine To.blockN ?_
        refine To.thenN ?_
        refine To.reg ?_
        refine To.rd rfl rfl rfl (Rd.inc rfl rfl rfl (by omega)) ?_
        refine To.rd rfl rfl rfl (Rd.move rfl rfl) ?_
        refine To.nil ?_
        refine To.thenN ?_
        refine To.sub [(3, .pointer (some ⟨b3, 0, none⟩)), (5, .slice A30_2 (O ++ [y]).length q30_2), (6, .bool d), (10, .slice A l.length cap), (11, .int .i64 ((l.length : Nat) : Int)), (12, .int .i64 (((kk + 1) : Nat) : Int))] ⟨rfl, rfl, rfl, rfl, rfl, rfl, trivial⟩ ?_
        refine To.only [2, 2, 2] rfl ?_
        refine To.again (l.length - (kk + 1)) (by omega) ⟨kk + 1, O ++ [y], d, A30_2, q30_2, rfl, rfl, rfl, (by omega), (by first | omega | (simp only [List.length_append, List.length_cons, List.length_nil]; omega)), (fun e => radd_keep hy (hF e) c22), (fun e => by rw [e] at g18; cases g18)⟩
    ·
      refine To.sk rfl rfl rfl ?_
      refine To.sk rfl rfl rfl ?_
      refine To.sk rfl rfl rfl ?_
      refine To.rd rfl rfl rfl (Rd.pickF rfl rfl rfl) ?_
      refine To.nil ?_
      refine To.thenN ?_
      refine To.condF rfl ?_
      refine To.skip ?_
      refine To.thenN ?_
      refine To.reg ?_
      refine To.rd rfl rfl rfl (Rd.move rfl rfl) ?_
      refine To.rd rfl rfl rfl (Rd.loadS (i := 0) rfl rfl r30 rfl box_whole rfl) ?_
      refine To.mk rfl rfl rfl (Mk.sliceN (us := [.int .i64 y.t, .int .i64 y.s, .int .i64 y.c, .int .i64 y.p, .int .i64 y.n, .int .i64 y.k, .int .i64 y.h, .slice y.A y.args.length y.cap]) rfl s25 rfl rfl rfl rfl rfl rfl) ?_
      rintro _ _ ⟨b29_3, rfl, rfl⟩
      refine To.as [row 30 8 (some ⟨b29_3, 0, none⟩) 1 1 [.int .i64 y.t, .int .i64 y.s, .int .i64 y.c, .int .i64 y.p, .int .i64 y.n, .int .i64 y.k, .int .i64 y.h, .slice y.A y.args.length y.cap], box b8 [.int .i64 y.t, .int .i64 y.s, .int .i64 y.c, .int .i64 y.p, .int .i64 y.n, .int .i64 y.k, .int .i64 y.h, .slice y.A y.args.length y.cap] 30, rows En.rcells 30 8 A5 q5 O, box b3 [.int .i64 x.t, .int .i64 x.s, .int .i64 x.c, .int .i64 x.p, .int .i64 x.n, .int .i64 x.k, .int .i64 x.h, .slice x.A x.args.length x.cap] 30, ros En.rcells A l] rfl ?_
      refine To.ge rfl rfl rfl (Ge.append1 encR (i := 2) (j := 0) (el := y) rfl s25 rfl rfl rfl rfl rfl (by first | omega | (simp only [List.length_append, List.length_cons, List.length_nil]; omega)) (by first | omega | (simp only [List.length_append, List.length_cons, List.length_nil]; omega))) ?_
      rintro _ _ ⟨A30_3, q30_3, rfl, rfl⟩
      refine To.as [row 30 8 (some ⟨b29_3, 0, none⟩) 1 1 [.int .i64 y.t, .int .i64 y.s, .int .i64 y.c, .int .i64 y.p, .int .i64 y.n, .int .i64 y.k, .int .i64 y.h, .slice y.A y.args.length y.cap], box b8 [.int .i64 y.t, .int .i64 y.s, .int .i64 y.c, .int .i64 y.p, .int .i64 y.n, .int .i64 y.k, .int .i64 y.h, .slice y.A y.args.length y.cap] 30, rows En.rcells 30 8 A30_3 q30_3 (O ++ [y]), box b3 [.int .i64 x.t, .int .i64 x.s, .int .i64 x.c, .int .i64 x.p, .int .i64 x.n, .int .i64 x.k, .int .i64 x.h, .slice x.A x.args.length x.cap] 30, ros En.rcells A l] rfl ?_
      refine To.rd rfl rfl rfl (Rd.assign rfl rfl) ?_
      refine To.nil ?_
      refine To.blockN ?_
      refine To.thenN ?_
      refine To.reg ?_
      refine To.rd rfl rfl rfl (Rd.inc rfl rfl rfl (by omega)) ?_
      refine To.rd rfl rfl rfl (Rd.move rfl rfl) ?_
      refine To.nil ?_
      refine To.thenN ?_
      refine To.sub [(3, .pointer (some ⟨b3, 0, none⟩)), (5, .slice A30_3 (O ++ [y]).length q30_3), (6, .bool d), (10, .slice A l.length cap), (11, .int .i64 ((l.length : Nat) : Int)), (12, .int .i64 (((kk + 1) : Nat) : Int))] ⟨rfl, rfl, rfl, rfl, rfl, rfl, trivial⟩ ?_
      refine To.only [2, 2, 2] rfl ?_
      refine To.again (l.length - (kk + 1)) (by omega) ⟨kk + 1, O ++ [y], d, A30_3, q30_3, rfl, rfl, rfl, (by omega), (by first | omega | (simp only [List.length_append, List.length_cons, List.length_nil]; omega)), (fun e => by rw [e] at g18; cases g18), (fun e => radd_step hy (hT e))⟩
  ·
    refine To.exit ?_
    refine To.thenX ?_
    refine To.thenX ?_
    refine To.blockX ?_
    refine To.thenN ?_
    refine To.seq ?_
    refine To.seq ?_
    refine To.reg ?_
    refine To.rd rfl rfl rfl (Rd.move rfl rfl) ?_
    refine To.rd rfl rfl rfl (Rd.not rfl rfl) ?_
    refine To.nil ?_
    refine To.thenN ?_
    refine To.cond rfl (fun c33 => ?_) (fun c33 => ?_)
    ·
      refine To.reg ?_
      refine To.rd rfl rfl rfl (Rd.move rfl rfl) ?_
      refine To.rd rfl rfl rfl (Rd.loadS (i := 1) rfl rfl r30 rfl box_whole rfl) ?_
      refine To.mk rfl rfl rfl (Mk.sliceN (us := [.int .i64 x.t, .int .i64 x.s, .int .i64 x.c, .int .i64 x.p, .int .i64 x.n, .int .i64 x.k, .int .i64 x.h, .slice x.A x.args.length x.cap]) rfl s25 rfl rfl rfl rfl rfl rfl) ?_
      rintro _ _ ⟨b36, rfl, rfl⟩
      refine To.as [row 30 8 (some ⟨b36, 0, none⟩) 1 1 [.int .i64 x.t, .int .i64 x.s, .int .i64 x.c, .int .i64 x.p, .int .i64 x.n, .int .i64 x.k, .int .i64 x.h, .slice x.A x.args.length x.cap], rows En.rcells 30 8 A5 q5 O, box b3 [.int .i64 x.t, .int .i64 x.s, .int .i64 x.c, .int .i64 x.p, .int .i64 x.n, .int .i64 x.k, .int .i64 x.h, .slice x.A x.args.length x.cap] 30, ros En.rcells A l] rfl ?_
      refine To.ge rfl rfl rfl (Ge.append1 encR (i := 1) (j := 0) (el := x) rfl s25 rfl rfl rfl rfl rfl (by first | omega | (simp only [List.length_append, List.length_cons, List.length_nil]; omega)) (by first | omega | (simp only [List.length_append, List.length_cons, List.length_nil]; omega))) ?_
      rintro _ _ ⟨A37, q37, rfl, rfl⟩
      refine To.as [row 30 8 (some ⟨b36, 0, none⟩) 1 1 [.int .i64 x.t, .int .i64 x.s, .int .i64 x.c, .int .i64 x.p, .int .i64 x.n, .int .i64 x.k, .int .i64 x.h, .slice x.A x.args.length x.cap], rows En.rcells 30 8 A37 q37 (O ++ [x]), box b3 [.int .i64 x.t, .int .i64 x.s, .int .i64 x.c, .int .i64 x.p, .int .i64 x.n, .int .i64 x.k, .int .i64 x.h, .slice x.A x.args.length x.cap] 30, ros En.rcells A l] rfl ?_
      refine To.rd rfl rfl rfl (Rd.assign rfl rfl) ?_
      refine To.nil ?_
      refine To.thenN ?_
      refine To.seq ?_
      refine To.reg ?_
      refine To.rd rfl rfl rfl (Rd.move rfl rfl) ?_
      refine To.rd rfl rfl rfl (Rd.assign rfl rfl) ?_
      refine To.nil ?_
      refine To.thenN ?_
      refine To.ret ?_
      refine To.only [1] rfl ?_
      refine To.end1 (.inl rfl) Try.results32 rfl ?_
      obtain rfl : kk = l.length := by omega
      rw [← radd_out (hF (by simpa using c33))]
      exact ⟨_, _, rfl, rfl⟩
    ·
      refine To.skip ?_
      refine To.thenN ?_
      refine To.seq ?_
      refine To.reg ?_
      refine To.rd rfl rfl rfl (Rd.move rfl rfl) ?_
      refine To.rd rfl rfl rfl (Rd.assign rfl rfl) ?_
      refine To.nil ?_
      refine To.thenN ?_
      refine To.ret ?_
      refine To.only [0] rfl ?_
      refine To.end1 (.inl rfl) Try.results32 rfl ?_
      obtain rfl : kk = l.length := by omega
      rw [← hT (by simpa using c33), List.drop_length, List.append_nil]
      exact ⟨_, _, rfl, rfl⟩
end Go.Proofs.Ytnamppkicefbjaa
