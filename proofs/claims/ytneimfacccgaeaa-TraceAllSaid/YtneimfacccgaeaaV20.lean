/- The reference: insert, Normal and Same. Own text (walks printed by sx.py). -/
import Derived.Test.YtneimfacccgaeaaV19
import Derived.Test.YtneimfacccgaeaaL5
namespace Go.Proofs.Ytneimfacccgaeaa
open Go.RowKit Go.Flow Go.Mem Go.Sep
def insE (e : Ev) : List Ev → List Ev
  | [] => [e]
  | x :: l => if e.cmp x < 0 then e :: x :: l else x :: insE e l
theorem insE_val (e : Ev) : ∀ l, (insE e l).map Ev.val = insV e.val (l.map Ev.val)
  | [] => rfl
  | x :: l => by
    unfold insE
    simp only [List.map_cons, insV, cmp_val]
    split
    · rfl
    · rw [List.map_cons, insE_val e l]
theorem insE_len (e : Ev) : ∀ l, (insE e l).length = l.length + 1
  | [] => rfl
  | x :: l => by unfold insE; split <;> simp [insE_len e l]
theorem insE_mem (e : Ev) : ∀ l x, x ∈ insE e l → x = e ∨ x ∈ l
  | [], x, h => by simp [insE] at h; exact .inl h
  | y :: l, x, h => by
    unfold insE at h
    split at h
    · exact List.mem_cons.1 h
    · rcases List.mem_cons.1 h with h | h
      · exact .inr (by rw [h]; exact List.mem_cons_self ..)
      · rcases insE_mem e l x h with h | h
        · exact .inl h
        · exact .inr (List.mem_cons_of_mem _ h)
/-- The rest of a row. -/
theorem ros_drop {α : Type} {enc : α → List Value} {size : Nat} (E : Enc enc size) {A : Option Addr} {cap k : Nat} {l : List α} (hk : k ≤ l.length) (hc : l.length ≤ cap) : (∀ g ∈ (ros enc (slAt A cap k size) (l.drop k)).reads, g ∈ (ros enc A l).reads) ∧ ∀ w, (ros enc A l).holds w → (ros enc (slAt A cap k size) (l.drop k)).holds w := by
  have hf : (l.drop k).flatMap enc = (l.flatMap enc).drop (k * size) := by
    have h1 : l.flatMap enc = (l.take k).flatMap enc ++ (l.drop k).flatMap enc := by rw [← List.flatMap_append, List.take_append_drop]
    have h2 : ((l.take k).flatMap enc).length = k * size := by rw [E.flat_len, List.length_take, Nat.min_eq_left hk]
    conv => rhs; rw [h1, ← h2, List.drop_left]
  by_cases he : cap = k
  · have h0 : l.drop k = [] := List.drop_eq_nil_of_le (by omega)
    rw [h0]
    exact ⟨fun g hg => by simp [ros, ro, rblks] at hg, fun w _ => .inl rfl⟩
  · unfold slAt
    rw [if_neg he]
    refine ⟨fun g hg => ?_, fun w hw => ?_⟩
    · have h1 : g ∈ rblks (A.map (·.add (k * size))) ((l.drop k).flatMap enc) := hg
      show g ∈ rblks A (l.flatMap enc)
      cases hx : l.flatMap enc with
      | nil => rw [hf, hx] at h1; simp [rblks] at h1
      | cons y ys =>
        cases hd : (l.drop k).flatMap enc with
        | nil => rw [hd] at h1; simp [rblks] at h1
        | cons z zs =>
          rw [hd] at h1
          cases A with
          | none => exact h1
          | some a => obtain ⟨b, o, sp⟩ := a; simp only [rblks, blks, Option.map_some, Addr.add] at h1; split at h1 <;> simpa [rblks, blks] using h1
    · show Src w _ ((l.drop k).flatMap enc)
      rw [hf]
      rcases (show Src w A (l.flatMap enc) from hw) with h | ⟨g, off, rfl, h2⟩
      · exact .inl (by rw [h]; simp)
      · refine .inr ⟨g, off + k * size, by simp [Addr.add_mid], fun j v hv => ?_⟩
        rw [List.getElem?_drop] at hv
        have := h2 _ v hv
        rw [← Nat.add_assoc] at this
        exact this
theorem der_drop {Γ : List Chunk} {α : Type} {enc : α → List Value} {size : Nat} (E : Enc enc size) {A : Option Addr} {cap k : Nat} {l : List α} (i : Nat) (hi : Γ[i]? = some (ros enc A l)) (hk : k ≤ l.length) (hc : l.length ≤ cap) : (∀ g ∈ (ros enc (slAt A cap k size) (l.drop k)).reads, g ∈ reads Γ) ∧ ∀ w, oks Γ w → (ros enc (slAt A cap k size) (l.drop k)).holds w :=
  ⟨fun g hg => reads_at i hi ((ros_drop E hk hc).1 g hg), fun w hw => (ros_drop E hk hc).2 w (hw _ (List.mem_of_getElem? hi))⟩
set_option maxHeartbeats 2000000 in
set_option maxRecDepth 100000 in
theorem insert_fn0 (Al : Option Addr) (cl : Nat) (l : List Ev) (e : Ev) (M : List (Option Addr × List Int)) (hM : ∀ x ∈ l, x.ar ∈ M) (hke : 0 ≤ e.k ∧ e.k < 256) (hkl : ∀ x ∈ l, 0 ≤ x.k ∧ x.k < 256) (hle : e.args.length ≤ 1000000000000) (hll : l.length ≤ 1000000) (hcl : l.length ≤ cl) (h00 : ∀ x, l[0]? = some x → e.cmp x < 0) :
    Does Try.prog 37 [.slice Al l.length cl, .agg (Ev.cells e).toArray] [ros Ev.cells Al l, argsS M, ros encI e.A e.args] (fun v Γ' => ∃ A q, v = .slice A (insE e l).length q ∧ Γ' = [rows Ev.cells 37 9 A q (insE e l)]) := by
  refine Does.enter Try.func37 rfl Try.ntmps37 rfl (fun w0 => ?_)
  refine To.seq ?_
  refine To.reg ?_
  refine To.boxed rfl rfl rfl rfl rfl rfl (fun b3 => ?_)
  refine To.rd rfl rfl rfl (Rd.assign rfl rfl) ?_
  refine To.nil ?_
  refine To.thenN ?_
  refine To.seq ?_
  refine To.reg ?_
  refine To.rd rfl rfl rfl (Rd.assign rfl rfl) ?_
  refine To.nil ?_
  refine To.thenN ?_
  refine To.seq ?_
  refine To.block ?_
  refine To.sub [(0, .slice Al l.length cl), (3, .pointer (some ⟨b3, 0, none⟩)), (5, .int .i64 ((0 : Nat) : Int))] ⟨rfl, rfl, rfl, trivial⟩ ?_
  refine To.only [0, 0, 0, 0] rfl ?_
  refine To.loop (fun mz ρ Γ => ∃ (i : Nat), ρ = [(0, .slice Al l.length cl), (3, .pointer (some ⟨b3, 0, none⟩)), (5, .int .i64 ((i : Nat) : Int))] ∧ Γ = [box b3 e.cells 37, ros Ev.cells Al l, argsS M, ros encI e.A e.args] ∧ mz = l.length - i ∧ (i ≤ l.length) ∧ (insE e l = l.take i ++ insE e (l.drop i)) ∧ (0 < i → ¬ ∀ x, l[0]? = some x → e.cmp x < 0)) (l.length - 0) ⟨0, rfl, rfl, rfl, (Nat.zero_le _), rfl, (fun h => absurd h (by omega))⟩ ?_
  rintro mz _ _ ⟨i, rfl, rfl, rfl, hi, hI, hJ⟩
  refine To.seq ?_
  refine To.seq ?_
  refine To.flow [box b3 e.cells 37, ros Ev.cells Al l, argsS M, ros encI e.A e.args] [⟨0, [], 0⟩, ⟨1, [], 0⟩, ⟨2, [], 0⟩, ⟨3, [], 0⟩, ⟨4, [], 0⟩, ⟨5, [], 0⟩, ⟨6, [], 0⟩, ⟨7, [], 0⟩, ⟨8, [], 0⟩, ⟨9, [], 0⟩, ⟨10, [], 3⟩, ⟨11, [], 0⟩, ⟨12, [], 0⟩] mixed (by kernel_rfl) (oks_cons (oks_at 0 rfl) (oks_cons (oks_at 1 rfl) (oks_cons (oks_at 2 rfl) (oks_cons (oks_at 3 rfl) (oks_nil _))))) ?_
  refine FlowS.free rfl rfl rfl rfl (Rd.move rfl rfl) ?_
  refine FlowS.free rfl rfl rfl rfl (Rd.move rfl rfl) ?_
  refine FlowS.free rfl rfl rfl rfl (Rd.len rfl rfl Try.underlying22) ?_
  refine FlowS.free rfl rfl rfl rfl (Rd.lss rfl rfl rfl) ?_
  refine FlowS.rdP rfl rfl rfl rfl (Rd.move rfl rfl) (fun g10 => ?_) (fun g10 => ?_)
  ·
    obtain ⟨x, hx⟩ : ∃ z0, l[i]? = some z0 := ⟨l[i]'(by omega), List.getElem?_eq_getElem _⟩
    refine FlowS.free rfl rfl rfl rfl (Rd.loadS (i := 0) rfl rfl r37 rfl box_whole rfl) ?_
    refine FlowS.free rfl rfl rfl rfl (Rd.move rfl rfl) ?_
    refine FlowS.free rfl rfl rfl rfl (Rd.move rfl rfl) ?_
    refine FlowS.free rfl rfl rfl rfl (Rd.indexRos encE (i := 1) (j := i) rfl rfl rfl s22 rfl hx) ?_
    refine FlowS.free rfl rfl rfl rfl (Rd.loadS (i := 1) rfl rfl r37 rfl (ros_gives encE hx) (encE.len _)) ?_
    refine FlowS.callQ rfl rfl rfl rfl (Ent.fn rfl rfl ca21) (rless_fn e x hke (hkl x (List.mem_of_getElem? hx)) hle) rfl (oks_cons (oks_at 3 rfl) (oks_cons (oks_S 2 rfl (hM x (List.mem_of_getElem? hx))) (oks_nil _))) ?_
    refine FlowS.free rfl rfl rfl rfl (Rd.not rfl rfl) ?_
    refine FlowS.free rfl rfl rfl rfl (Rd.pickT rfl rfl rfl) ?_
    refine FlowS.fin ?_
    refine To.as [box b3 e.cells 37, ros Ev.cells Al l, argsS M, ros encI e.A e.args] rfl ?_
    refine To.thenN ?_
    refine To.cond rfl (fun c18 => ?_) (fun c18 => ?_)
    ·
      refine To.skip ?_
      refine To.thenN ?_
      refine To.block ?_
      refine To.reg ?_
      refine To.rd rfl rfl rfl (Rd.move rfl rfl) ?_
      refine To.rd rfl rfl rfl (Rd.inc rfl rfl rfl (by omega)) ?_
      refine To.rd rfl rfl rfl (Rd.assign rfl rfl) ?_
      refine To.nil ?_
      refine To.sub [(0, .slice Al l.length cl), (3, .pointer (some ⟨b3, 0, none⟩)), (5, .int .i64 ((i + 1 : Nat) : Int)), (18, .bool (!(decide (e.cmp x < 0))))] ⟨rfl, rfl, rfl, rfl, trivial⟩ ?_
      refine To.blockN ?_
      refine To.thenN ?_
      refine To.sub [(0, .slice Al l.length cl), (3, .pointer (some ⟨b3, 0, none⟩)), (5, .int .i64 (((i + 1) : Nat) : Int))] ⟨rfl, rfl, rfl, trivial⟩ ?_
      refine To.only [0, 0, 0, 0] rfl ?_
      refine To.again (l.length - (i + 1)) (by omega) ⟨i + 1, rfl, rfl, rfl, (by omega), (by rw [hI, drop_of_get hx, take_of_get hx, insE, if_neg (by simpa using c18)]; simp), (fun _ hh => by
          by_cases h0 : 0 < i
          · exact hJ h0 hh
          · obtain rfl : i = 0 := by omega
            exact absurd (hh x hx) (by simpa using c18))⟩
    ·
      refine To.exit ?_
      refine To.thenX ?_
      refine To.thenX ?_
      refine To.blockX ?_
      refine To.thenN ?_
      refine To.seq ?_
      have hE : insE e l = l.take i ++ [e] ++ l.drop i := by
        rw [hI, drop_of_get hx, insE, if_pos (by simpa using c18)]; simp
      have hi0 : i = 0 := Nat.eq_zero_of_not_pos fun h => hJ h h00
      have hi2 : i ≤ l.length := by omega
      refine To.take i 1 rfl ?_
      refine To.derive (ros Ev.cells (slAt Al cl i 9) (l.drop i)) rfl (der_drop encE 2 rfl hi2 hcl).1 (der_drop encE 2 rfl hi2 hcl).2 ?_
      have hti : i = (l.take i).length := by rw [List.length_take]; omega
      have htl : (l.take i).length + (l.drop i).length = l.length := by simp; omega
      have hdl : l.length - (l.take i).length = (l.drop i).length := by omega
      have hch : ros Ev.cells (slAt Al cl i 9) (l.drop i) = ros Ev.cells (slAt Al cl (l.take i).length 9) (l.drop i) := by rw [← hti]
      rw [hch]
      clear hch
      refine To.sub [(0, .slice Al l.length cl), (3, .pointer (some ⟨b3, 0, none⟩)), (5, .int .i64 (((l.take i).length : Nat) : Int))] ⟨rfl, rfl, congrArg (fun z : Nat => some (Value.int .i64 (z : Int))) hti, trivial⟩ ?_
      refine To.flow [box b3 e.cells 37] [⟨1, [], 0⟩, ⟨2, [], 0⟩, ⟨3, [], 0⟩, ⟨5, [], 0⟩, ⟨8, [], 0⟩, ⟨9, [], 0⟩, ⟨10, [], 0⟩, ⟨0, [], 2⟩, ⟨4, [0], 0⟩, ⟨6, [], 2⟩, ⟨7, [0, 6], 5⟩, ⟨11, [], 5⟩, ⟨12, [], 0⟩] mixed (by kernel_rfl) (oks_cons (oks_at 2 rfl) (oks_nil _)) ?_
      refine FlowS.free rfl rfl rfl rfl (Rd.move rfl rfl) ?_
      refine FlowS.free rfl rfl rfl rfl (Rd.move rfl rfl) ?_
      refine FlowS.free rfl rfl rfl rfl (Rd.sliceHi (hi := ((l.take i).length)) rfl s22 rfl rfl (by omega)) ?_
      refine FlowS.free rfl rfl rfl rfl (Rd.loadS (i := 0) rfl rfl r37 rfl box_whole rfl) ?_
      refine FlowS.free rfl rfl rfl rfl (Rd.move rfl rfl) ?_
      refine FlowS.free rfl rfl rfl rfl (Rd.move rfl rfl) ?_
      refine FlowS.free rfl rfl rfl rfl (Rd.as (v' := .slice (slAt Al cl (l.take i).length 9) (l.drop i).length (cl - (l.take i).length)) (congrArg (fun z => Value.slice _ z _) hdl) (Rd.sliceLo (lo := (l.take i).length) rfl s22 rfl rfl (by omega))) ?_
      refine FlowS.mk rfl rfl rfl rfl rfl (Mk.slice0R (enc := Ev.cells) rfl s22) ?_
      rintro _ _ ⟨A21, rfl, rfl⟩
      refine FlowS.free rfl rfl rfl rfl (Rd.append0 rfl s22 rfl rfl (by omega) (by decide)) ?_
      refine FlowS.mk rfl rfl rfl rfl rfl (Mk.sliceN (us := [.int .i64 e.t, .int .i64 e.c, .int .u8 e.k, .int .i64 e.p, .int .i64 e.n, .int .i64 e.cp, .int .i64 e.h, .int .i64 e.d, .slice e.A e.args.length e.cap]) rfl s22 rfl rfl rfl rfl rfl rfl) ?_
      rintro _ _ ⟨b27, rfl, rfl⟩
      refine FlowS.ge rfl rfl rfl rfl (Ge.append1 encE (i := 1) (j := 0) (el := e) rfl s22 rfl rfl rfl rfl rfl (by first | omega | (simp only [List.length_append, List.length_cons, List.length_nil]; omega)) (by first | omega | (simp only [List.length_append, List.length_cons, List.length_nil]; omega))) ?_
      rintro _ _ ⟨A28, q28, rfl, rfl⟩
      refine ⟨oks_cons (oks_at 4 rfl) (oks_nil _), ?_⟩
      refine FlowS.ge rfl rfl rfl rfl (Ge.appendL encE (i := 1) (m := (l.drop i)) rfl s22 rfl rfl rfl (src_ro (i := 2) rfl) (by first | omega | (simp only [List.length_append, List.length_cons, List.length_nil]; omega)) (by first | omega | (simp only [List.length_append, List.length_cons, List.length_nil]; omega))) ?_
      rintro _ _ ⟨A32, q32, rfl, rfl⟩
      refine ⟨oks_cons (oks_at 4 rfl) (oks_nil _), ?_⟩
      refine FlowS.free rfl rfl rfl rfl (Rd.assign rfl rfl) ?_
      refine FlowS.fin ?_
      refine To.as [row 37 9 (some ⟨b27, 0, none⟩) 1 1 [.int .i64 e.t, .int .i64 e.c, .int .u8 e.k, .int .i64 e.p, .int .i64 e.n, .int .i64 e.cp, .int .i64 e.h, .int .i64 e.d, .slice e.A e.args.length e.cap], rows Ev.cells 37 9 A32 q32 (([] : List Ev) ++ [e] ++ (l.drop i)), ros Ev.cells (slAt Al cl (l.take i).length 9) (l.drop i), ros Ev.cells Al (l.take i), box b3 e.cells 37, ros Ev.cells Al l, argsS M, ros encI e.A e.args] rfl ?_
      refine To.thenN ?_
      refine To.ret ?_
      refine To.only [1] rfl ?_
      refine To.end1 (.inl rfl) Try.results37 rfl ?_
      have hE2 := hE
      rw [show l.take i = [] by rw [hi0]; rfl] at hE2
      rw [hE2]
      exact ⟨_, _, rfl, rfl⟩
  ·
    refine FlowS.skip (by decide) rfl rfl rfl rfl ?_
    refine FlowS.skip (by decide) rfl rfl rfl rfl ?_
    refine FlowS.skip (by decide) rfl rfl rfl rfl ?_
    refine FlowS.skip (by decide) rfl rfl rfl rfl ?_
    refine FlowS.skip (by decide) rfl rfl rfl rfl ?_
    refine FlowS.skip (by decide) rfl rfl rfl rfl ?_
    refine FlowS.skip (by decide) rfl rfl rfl rfl ?_
    refine FlowS.free rfl rfl rfl rfl (Rd.pickF rfl rfl rfl) ?_
    refine FlowS.fin ?_
    refine To.as [box b3 e.cells 37, ros Ev.cells Al l, argsS M, ros encI e.A e.args] rfl ?_
    refine To.thenN ?_
    refine To.condF rfl ?_
    refine To.exit ?_
    refine To.thenX ?_
    refine To.thenX ?_
    refine To.blockX ?_
    refine To.thenN ?_
    refine To.seq ?_
    have hE : insE e l = l.take i ++ [e] ++ l.drop i := by
      rw [hI, List.drop_eq_nil_of_le (by omega)]; simp [insE]
    have hi0 : i = 0 := Nat.eq_zero_of_not_pos fun h => hJ h h00
    have hi2 : i ≤ l.length := by omega
    refine To.take i 1 rfl ?_
    refine To.derive (ros Ev.cells (slAt Al cl i 9) (l.drop i)) rfl (der_drop encE 2 rfl hi2 hcl).1 (der_drop encE 2 rfl hi2 hcl).2 ?_
    have hti : i = (l.take i).length := by rw [List.length_take]; omega
    have htl : (l.take i).length + (l.drop i).length = l.length := by simp; omega
    have hdl : l.length - (l.take i).length = (l.drop i).length := by omega
    have hch : ros Ev.cells (slAt Al cl i 9) (l.drop i) = ros Ev.cells (slAt Al cl (l.take i).length 9) (l.drop i) := by rw [← hti]
    rw [hch]
    clear hch
    refine To.sub [(0, .slice Al l.length cl), (3, .pointer (some ⟨b3, 0, none⟩)), (5, .int .i64 (((l.take i).length : Nat) : Int))] ⟨rfl, rfl, congrArg (fun z : Nat => some (Value.int .i64 (z : Int))) hti, trivial⟩ ?_
    refine To.flow [box b3 e.cells 37] [⟨1, [], 0⟩, ⟨2, [], 0⟩, ⟨3, [], 0⟩, ⟨5, [], 0⟩, ⟨8, [], 0⟩, ⟨9, [], 0⟩, ⟨10, [], 0⟩, ⟨0, [], 2⟩, ⟨4, [0], 0⟩, ⟨6, [], 2⟩, ⟨7, [0, 6], 5⟩, ⟨11, [], 5⟩, ⟨12, [], 0⟩] mixed (by kernel_rfl) (oks_cons (oks_at 2 rfl) (oks_nil _)) ?_
    refine FlowS.free rfl rfl rfl rfl (Rd.move rfl rfl) ?_
    refine FlowS.free rfl rfl rfl rfl (Rd.move rfl rfl) ?_
    refine FlowS.free rfl rfl rfl rfl (Rd.sliceHi (hi := ((l.take i).length)) rfl s22 rfl rfl (by omega)) ?_
    refine FlowS.free rfl rfl rfl rfl (Rd.loadS (i := 0) rfl rfl r37 rfl box_whole rfl) ?_
    refine FlowS.free rfl rfl rfl rfl (Rd.move rfl rfl) ?_
    refine FlowS.free rfl rfl rfl rfl (Rd.move rfl rfl) ?_
    refine FlowS.free rfl rfl rfl rfl (Rd.as (v' := .slice (slAt Al cl (l.take i).length 9) (l.drop i).length (cl - (l.take i).length)) (congrArg (fun z => Value.slice _ z _) hdl) (Rd.sliceLo (lo := (l.take i).length) rfl s22 rfl rfl (by omega))) ?_
    refine FlowS.mk rfl rfl rfl rfl rfl (Mk.slice0R (enc := Ev.cells) rfl s22) ?_
    rintro _ _ ⟨A21, rfl, rfl⟩
    refine FlowS.free rfl rfl rfl rfl (Rd.append0 rfl s22 rfl rfl (by omega) (by decide)) ?_
    refine FlowS.mk rfl rfl rfl rfl rfl (Mk.sliceN (us := [.int .i64 e.t, .int .i64 e.c, .int .u8 e.k, .int .i64 e.p, .int .i64 e.n, .int .i64 e.cp, .int .i64 e.h, .int .i64 e.d, .slice e.A e.args.length e.cap]) rfl s22 rfl rfl rfl rfl rfl rfl) ?_
    rintro _ _ ⟨b27_2, rfl, rfl⟩
    refine FlowS.ge rfl rfl rfl rfl (Ge.append1 encE (i := 1) (j := 0) (el := e) rfl s22 rfl rfl rfl rfl rfl (by first | omega | (simp only [List.length_append, List.length_cons, List.length_nil]; omega)) (by first | omega | (simp only [List.length_append, List.length_cons, List.length_nil]; omega))) ?_
    rintro _ _ ⟨A28_2, q28_2, rfl, rfl⟩
    refine ⟨oks_cons (oks_at 4 rfl) (oks_nil _), ?_⟩
    refine FlowS.ge rfl rfl rfl rfl (Ge.appendL encE (i := 1) (m := (l.drop i)) rfl s22 rfl rfl rfl (src_ro (i := 2) rfl) (by first | omega | (simp only [List.length_append, List.length_cons, List.length_nil]; omega)) (by first | omega | (simp only [List.length_append, List.length_cons, List.length_nil]; omega))) ?_
    rintro _ _ ⟨A32_2, q32_2, rfl, rfl⟩
    refine ⟨oks_cons (oks_at 4 rfl) (oks_nil _), ?_⟩
    refine FlowS.free rfl rfl rfl rfl (Rd.assign rfl rfl) ?_
    refine FlowS.fin ?_
    refine To.as [row 37 9 (some ⟨b27_2, 0, none⟩) 1 1 [.int .i64 e.t, .int .i64 e.c, .int .u8 e.k, .int .i64 e.p, .int .i64 e.n, .int .i64 e.cp, .int .i64 e.h, .int .i64 e.d, .slice e.A e.args.length e.cap], rows Ev.cells 37 9 A32_2 q32_2 (([] : List Ev) ++ [e] ++ (l.drop i)), ros Ev.cells (slAt Al cl (l.take i).length 9) (l.drop i), ros Ev.cells Al (l.take i), box b3 e.cells 37, ros Ev.cells Al l, argsS M, ros encI e.A e.args] rfl ?_
    refine To.thenN ?_
    refine To.ret ?_
    refine To.only [1] rfl ?_
    refine To.end1 (.inl rfl) Try.results37 rfl ?_
    have hE2 := hE
    rw [show l.take i = [] by rw [hi0]; rfl] at hE2
    rw [hE2]
    exact ⟨_, _, rfl, rfl⟩
set_option maxHeartbeats 2000000 in
set_option maxRecDepth 100000 in
theorem insert_fn1 (Al : Option Addr) (cl : Nat) (l : List Ev) (e : Ev) (M : List (Option Addr × List Int)) (hM : ∀ x ∈ l, x.ar ∈ M) (hke : 0 ≤ e.k ∧ e.k < 256) (hkl : ∀ x ∈ l, 0 ≤ x.k ∧ x.k < 256) (hle : e.args.length ≤ 1000000000000) (hll : l.length ≤ 1000000) (hcl : l.length ≤ cl) (h00 : ∃ x, l[0]? = some x ∧ ¬ e.cmp x < 0) :
    Does Try.prog 37 [.slice Al l.length cl, .agg (Ev.cells e).toArray] [ros Ev.cells Al l, argsS M, ros encI e.A e.args] (fun v Γ' => ∃ A q, v = .slice A (insE e l).length q ∧ Γ' = [rows Ev.cells 37 9 A q (insE e l)]) := by
  refine Does.enter Try.func37 rfl Try.ntmps37 rfl (fun w0 => ?_)
  refine To.seq ?_
  refine To.reg ?_
  refine To.boxed rfl rfl rfl rfl rfl rfl (fun b3 => ?_)
  refine To.rd rfl rfl rfl (Rd.assign rfl rfl) ?_
  refine To.nil ?_
  refine To.thenN ?_
  refine To.seq ?_
  refine To.reg ?_
  refine To.rd rfl rfl rfl (Rd.assign rfl rfl) ?_
  refine To.nil ?_
  refine To.thenN ?_
  refine To.seq ?_
  refine To.block ?_
  refine To.sub [(0, .slice Al l.length cl), (3, .pointer (some ⟨b3, 0, none⟩)), (5, .int .i64 ((0 : Nat) : Int))] ⟨rfl, rfl, rfl, trivial⟩ ?_
  refine To.only [0, 0, 0, 0] rfl ?_
  refine To.loop (fun mz ρ Γ => ∃ (i : Nat), ρ = [(0, .slice Al l.length cl), (3, .pointer (some ⟨b3, 0, none⟩)), (5, .int .i64 ((i : Nat) : Int))] ∧ Γ = [box b3 e.cells 37, ros Ev.cells Al l, argsS M, ros encI e.A e.args] ∧ mz = l.length - i ∧ (i ≤ l.length) ∧ (insE e l = l.take i ++ insE e (l.drop i))) (l.length - 0) ⟨0, rfl, rfl, rfl, (Nat.zero_le _), rfl⟩ ?_
  rintro mz _ _ ⟨i, rfl, rfl, rfl, hi, hI⟩
  refine To.seq ?_
  refine To.seq ?_
  refine To.flow [box b3 e.cells 37, ros Ev.cells Al l, argsS M, ros encI e.A e.args] [⟨0, [], 0⟩, ⟨1, [], 0⟩, ⟨2, [], 0⟩, ⟨3, [], 0⟩, ⟨4, [], 0⟩, ⟨5, [], 0⟩, ⟨6, [], 0⟩, ⟨7, [], 0⟩, ⟨8, [], 0⟩, ⟨9, [], 0⟩, ⟨10, [], 3⟩, ⟨11, [], 0⟩, ⟨12, [], 0⟩] mixed (by kernel_rfl) (oks_cons (oks_at 0 rfl) (oks_cons (oks_at 1 rfl) (oks_cons (oks_at 2 rfl) (oks_cons (oks_at 3 rfl) (oks_nil _))))) ?_
  refine FlowS.free rfl rfl rfl rfl (Rd.move rfl rfl) ?_
  refine FlowS.free rfl rfl rfl rfl (Rd.move rfl rfl) ?_
  refine FlowS.free rfl rfl rfl rfl (Rd.len rfl rfl Try.underlying22) ?_
  refine FlowS.free rfl rfl rfl rfl (Rd.lss rfl rfl rfl) ?_
  refine FlowS.rdP rfl rfl rfl rfl (Rd.move rfl rfl) (fun g10 => ?_) (fun g10 => ?_)
  ·
    obtain ⟨x, hx⟩ : ∃ z0, l[i]? = some z0 := ⟨l[i]'(by omega), List.getElem?_eq_getElem _⟩
    refine FlowS.free rfl rfl rfl rfl (Rd.loadS (i := 0) rfl rfl r37 rfl box_whole rfl) ?_
    refine FlowS.free rfl rfl rfl rfl (Rd.move rfl rfl) ?_
    refine FlowS.free rfl rfl rfl rfl (Rd.move rfl rfl) ?_
    refine FlowS.free rfl rfl rfl rfl (Rd.indexRos encE (i := 1) (j := i) rfl rfl rfl s22 rfl hx) ?_
    refine FlowS.free rfl rfl rfl rfl (Rd.loadS (i := 1) rfl rfl r37 rfl (ros_gives encE hx) (encE.len _)) ?_
    refine FlowS.callQ rfl rfl rfl rfl (Ent.fn rfl rfl ca21) (rless_fn e x hke (hkl x (List.mem_of_getElem? hx)) hle) rfl (oks_cons (oks_at 3 rfl) (oks_cons (oks_S 2 rfl (hM x (List.mem_of_getElem? hx))) (oks_nil _))) ?_
    refine FlowS.free rfl rfl rfl rfl (Rd.not rfl rfl) ?_
    refine FlowS.free rfl rfl rfl rfl (Rd.pickT rfl rfl rfl) ?_
    refine FlowS.fin ?_
    refine To.as [box b3 e.cells 37, ros Ev.cells Al l, argsS M, ros encI e.A e.args] rfl ?_
    refine To.thenN ?_
    refine To.cond rfl (fun c18 => ?_) (fun c18 => ?_)
    ·
      refine To.skip ?_
      refine To.thenN ?_
      refine To.block ?_
      refine To.reg ?_
      refine To.rd rfl rfl rfl (Rd.move rfl rfl) ?_
      refine To.rd rfl rfl rfl (Rd.inc rfl rfl rfl (by omega)) ?_
      refine To.rd rfl rfl rfl (Rd.assign rfl rfl) ?_
      refine To.nil ?_
      refine To.sub [(0, .slice Al l.length cl), (3, .pointer (some ⟨b3, 0, none⟩)), (5, .int .i64 ((i + 1 : Nat) : Int)), (18, .bool (!(decide (e.cmp x < 0))))] ⟨rfl, rfl, rfl, rfl, trivial⟩ ?_
      refine To.blockN ?_
      refine To.thenN ?_
      refine To.sub [(0, .slice Al l.length cl), (3, .pointer (some ⟨b3, 0, none⟩)), (5, .int .i64 (((i + 1) : Nat) : Int))] ⟨rfl, rfl, rfl, trivial⟩ ?_
      refine To.only [0, 0, 0, 0] rfl ?_
      refine To.again (l.length - (i + 1)) (by omega) ⟨i + 1, rfl, rfl, rfl, (by omega), (by rw [hI, drop_of_get hx, take_of_get hx, insE, if_neg (by simpa using c18)]; simp)⟩
    ·
      refine To.exit ?_
      refine To.thenX ?_
      refine To.thenX ?_
      refine To.blockX ?_
      refine To.thenN ?_
      refine To.seq ?_
      have hE : insE e l = l.take i ++ [e] ++ l.drop i := by
        rw [hI, drop_of_get hx, insE, if_pos (by simpa using c18)]; simp
      have hi0 : 0 < i := Nat.pos_of_ne_zero fun h => by
        obtain ⟨x2, hx2, hn⟩ := h00
        subst h
        rw [hx] at hx2
        obtain rfl := Option.some.inj hx2
        exact hn (by simpa using c18)
      have hi2 : i ≤ l.length := by omega
      refine To.take i 1 rfl ?_
      refine To.derive (ros Ev.cells (slAt Al cl i 9) (l.drop i)) rfl (der_drop encE 2 rfl hi2 hcl).1 (der_drop encE 2 rfl hi2 hcl).2 ?_
      have hti : i = (l.take i).length := by rw [List.length_take]; omega
      have htl : (l.take i).length + (l.drop i).length = l.length := by simp; omega
      have hdl : l.length - (l.take i).length = (l.drop i).length := by omega
      have hch : ros Ev.cells (slAt Al cl i 9) (l.drop i) = ros Ev.cells (slAt Al cl (l.take i).length 9) (l.drop i) := by rw [← hti]
      rw [hch]
      clear hch
      refine To.sub [(0, .slice Al l.length cl), (3, .pointer (some ⟨b3, 0, none⟩)), (5, .int .i64 (((l.take i).length : Nat) : Int))] ⟨rfl, rfl, congrArg (fun z : Nat => some (Value.int .i64 (z : Int))) hti, trivial⟩ ?_
      refine To.flow [box b3 e.cells 37] [⟨1, [], 0⟩, ⟨2, [], 0⟩, ⟨3, [], 0⟩, ⟨5, [], 0⟩, ⟨8, [], 0⟩, ⟨9, [], 0⟩, ⟨10, [], 0⟩, ⟨0, [], 2⟩, ⟨4, [0], 2⟩, ⟨6, [], 2⟩, ⟨7, [0, 4, 6], 5⟩, ⟨11, [], 5⟩, ⟨12, [], 0⟩] mixed (by kernel_rfl) (oks_cons (oks_at 2 rfl) (oks_nil _)) ?_
      refine FlowS.free rfl rfl rfl rfl (Rd.move rfl rfl) ?_
      refine FlowS.free rfl rfl rfl rfl (Rd.move rfl rfl) ?_
      refine FlowS.free rfl rfl rfl rfl (Rd.sliceHi (hi := ((l.take i).length)) rfl s22 rfl rfl (by omega)) ?_
      refine FlowS.free rfl rfl rfl rfl (Rd.loadS (i := 0) rfl rfl r37 rfl box_whole rfl) ?_
      refine FlowS.free rfl rfl rfl rfl (Rd.move rfl rfl) ?_
      refine FlowS.free rfl rfl rfl rfl (Rd.move rfl rfl) ?_
      refine FlowS.free rfl rfl rfl rfl (Rd.as (v' := .slice (slAt Al cl (l.take i).length 9) (l.drop i).length (cl - (l.take i).length)) (congrArg (fun z => Value.slice _ z _) hdl) (Rd.sliceLo (lo := (l.take i).length) rfl s22 rfl rfl (by omega))) ?_
      refine FlowS.mk rfl rfl rfl rfl rfl (Mk.slice0R (enc := Ev.cells) rfl s22) ?_
      rintro _ _ ⟨A21, rfl, rfl⟩
      refine FlowS.mk rfl rfl rfl rfl rfl (Mk.appendNew encE (m := l.take i) rfl s22 rfl rfl (oks_at (c := ros Ev.cells Al (l.take i)) 2 rfl) (by omega) (by omega) (by omega)) ?_
      rintro _ _ ⟨A25, q25, rfl, rfl⟩
      refine FlowS.mk rfl rfl rfl rfl rfl (Mk.sliceN (us := [.int .i64 e.t, .int .i64 e.c, .int .u8 e.k, .int .i64 e.p, .int .i64 e.n, .int .i64 e.cp, .int .i64 e.h, .int .i64 e.d, .slice e.A e.args.length e.cap]) rfl s22 rfl rfl rfl rfl rfl rfl) ?_
      rintro _ _ ⟨b27, rfl, rfl⟩
      refine FlowS.ge rfl rfl rfl rfl (Ge.append1 encE (i := 1) (j := 0) (el := e) rfl s22 rfl rfl rfl rfl rfl (by first | omega | (simp only [List.length_append, List.length_cons, List.length_nil]; omega)) (by first | omega | (simp only [List.length_append, List.length_cons, List.length_nil]; omega))) ?_
      rintro _ _ ⟨A28, q28, rfl, rfl⟩
      refine ⟨oks_cons (oks_at 5 rfl) (oks_nil _), ?_⟩
      refine FlowS.ge rfl rfl rfl rfl (Ge.appendL encE (i := 1) (m := (l.drop i)) rfl s22 rfl rfl rfl (src_ro (i := 3) rfl) (by first | omega | (simp only [List.length_append, List.length_cons, List.length_nil]; omega)) (by first | omega | (simp only [List.length_append, List.length_cons, List.length_nil]; omega))) ?_
      rintro _ _ ⟨A32, q32, rfl, rfl⟩
      refine ⟨oks_cons (oks_at 5 rfl) (oks_nil _), ?_⟩
      refine FlowS.free rfl rfl rfl rfl (Rd.assign rfl rfl) ?_
      refine FlowS.fin ?_
      refine To.as [row 37 9 (some ⟨b27, 0, none⟩) 1 1 [.int .i64 e.t, .int .i64 e.c, .int .u8 e.k, .int .i64 e.p, .int .i64 e.n, .int .i64 e.cp, .int .i64 e.h, .int .i64 e.d, .slice e.A e.args.length e.cap], rows Ev.cells 37 9 A32 q32 ((l.take i) ++ [e] ++ (l.drop i)), rows Ev.cells 37 9 A21 0 ([] : List Ev), ros Ev.cells (slAt Al cl (l.take i).length 9) (l.drop i), ros Ev.cells Al (l.take i), box b3 e.cells 37, ros Ev.cells Al l, argsS M, ros encI e.A e.args] rfl ?_
      refine To.thenN ?_
      refine To.ret ?_
      refine To.only [1] rfl ?_
      refine To.end1 (.inl rfl) Try.results37 rfl ?_
      have hE2 := hE
      skip
      rw [hE2]
      exact ⟨_, _, rfl, rfl⟩
  ·
    refine FlowS.skip (by decide) rfl rfl rfl rfl ?_
    refine FlowS.skip (by decide) rfl rfl rfl rfl ?_
    refine FlowS.skip (by decide) rfl rfl rfl rfl ?_
    refine FlowS.skip (by decide) rfl rfl rfl rfl ?_
    refine FlowS.skip (by decide) rfl rfl rfl rfl ?_
    refine FlowS.skip (by decide) rfl rfl rfl rfl ?_
    refine FlowS.skip (by decide) rfl rfl rfl rfl ?_
    refine FlowS.free rfl rfl rfl rfl (Rd.pickF rfl rfl rfl) ?_
    refine FlowS.fin ?_
    refine To.as [box b3 e.cells 37, ros Ev.cells Al l, argsS M, ros encI e.A e.args] rfl ?_
    refine To.thenN ?_
    refine To.condF rfl ?_
    refine To.exit ?_
    refine To.thenX ?_
    refine To.thenX ?_
    refine To.blockX ?_
    refine To.thenN ?_
    refine To.seq ?_
    have hE : insE e l = l.take i ++ [e] ++ l.drop i := by
      rw [hI, List.drop_eq_nil_of_le (by omega)]; simp [insE]
    have hi0 : 0 < i := Nat.pos_of_ne_zero fun h => by
      obtain ⟨x, hx, _⟩ := h00
      have := (List.getElem?_eq_some_iff.1 hx).1
      omega
    have hi2 : i ≤ l.length := by omega
    refine To.take i 1 rfl ?_
    refine To.derive (ros Ev.cells (slAt Al cl i 9) (l.drop i)) rfl (der_drop encE 2 rfl hi2 hcl).1 (der_drop encE 2 rfl hi2 hcl).2 ?_
    have hti : i = (l.take i).length := by rw [List.length_take]; omega
    have htl : (l.take i).length + (l.drop i).length = l.length := by simp; omega
    have hdl : l.length - (l.take i).length = (l.drop i).length := by omega
    have hch : ros Ev.cells (slAt Al cl i 9) (l.drop i) = ros Ev.cells (slAt Al cl (l.take i).length 9) (l.drop i) := by rw [← hti]
    rw [hch]
    clear hch
    refine To.sub [(0, .slice Al l.length cl), (3, .pointer (some ⟨b3, 0, none⟩)), (5, .int .i64 (((l.take i).length : Nat) : Int))] ⟨rfl, rfl, congrArg (fun z : Nat => some (Value.int .i64 (z : Int))) hti, trivial⟩ ?_
    refine To.flow [box b3 e.cells 37] [⟨1, [], 0⟩, ⟨2, [], 0⟩, ⟨3, [], 0⟩, ⟨5, [], 0⟩, ⟨8, [], 0⟩, ⟨9, [], 0⟩, ⟨10, [], 0⟩, ⟨0, [], 2⟩, ⟨4, [0], 2⟩, ⟨6, [], 2⟩, ⟨7, [0, 4, 6], 5⟩, ⟨11, [], 5⟩, ⟨12, [], 0⟩] mixed (by kernel_rfl) (oks_cons (oks_at 2 rfl) (oks_nil _)) ?_
    refine FlowS.free rfl rfl rfl rfl (Rd.move rfl rfl) ?_
    refine FlowS.free rfl rfl rfl rfl (Rd.move rfl rfl) ?_
    refine FlowS.free rfl rfl rfl rfl (Rd.sliceHi (hi := ((l.take i).length)) rfl s22 rfl rfl (by omega)) ?_
    refine FlowS.free rfl rfl rfl rfl (Rd.loadS (i := 0) rfl rfl r37 rfl box_whole rfl) ?_
    refine FlowS.free rfl rfl rfl rfl (Rd.move rfl rfl) ?_
    refine FlowS.free rfl rfl rfl rfl (Rd.move rfl rfl) ?_
    refine FlowS.free rfl rfl rfl rfl (Rd.as (v' := .slice (slAt Al cl (l.take i).length 9) (l.drop i).length (cl - (l.take i).length)) (congrArg (fun z => Value.slice _ z _) hdl) (Rd.sliceLo (lo := (l.take i).length) rfl s22 rfl rfl (by omega))) ?_
    refine FlowS.mk rfl rfl rfl rfl rfl (Mk.slice0R (enc := Ev.cells) rfl s22) ?_
    rintro _ _ ⟨A21, rfl, rfl⟩
    refine FlowS.mk rfl rfl rfl rfl rfl (Mk.appendNew encE (m := l.take i) rfl s22 rfl rfl (oks_at (c := ros Ev.cells Al (l.take i)) 2 rfl) (by omega) (by omega) (by omega)) ?_
    rintro _ _ ⟨A25, q25, rfl, rfl⟩
    refine FlowS.mk rfl rfl rfl rfl rfl (Mk.sliceN (us := [.int .i64 e.t, .int .i64 e.c, .int .u8 e.k, .int .i64 e.p, .int .i64 e.n, .int .i64 e.cp, .int .i64 e.h, .int .i64 e.d, .slice e.A e.args.length e.cap]) rfl s22 rfl rfl rfl rfl rfl rfl) ?_
    rintro _ _ ⟨b27_2, rfl, rfl⟩
    refine FlowS.ge rfl rfl rfl rfl (Ge.append1 encE (i := 1) (j := 0) (el := e) rfl s22 rfl rfl rfl rfl rfl (by first | omega | (simp only [List.length_append, List.length_cons, List.length_nil]; omega)) (by first | omega | (simp only [List.length_append, List.length_cons, List.length_nil]; omega))) ?_
    rintro _ _ ⟨A28_2, q28_2, rfl, rfl⟩
    refine ⟨oks_cons (oks_at 5 rfl) (oks_nil _), ?_⟩
    refine FlowS.ge rfl rfl rfl rfl (Ge.appendL encE (i := 1) (m := (l.drop i)) rfl s22 rfl rfl rfl (src_ro (i := 3) rfl) (by first | omega | (simp only [List.length_append, List.length_cons, List.length_nil]; omega)) (by first | omega | (simp only [List.length_append, List.length_cons, List.length_nil]; omega))) ?_
    rintro _ _ ⟨A32_2, q32_2, rfl, rfl⟩
    refine ⟨oks_cons (oks_at 5 rfl) (oks_nil _), ?_⟩
    refine FlowS.free rfl rfl rfl rfl (Rd.assign rfl rfl) ?_
    refine FlowS.fin ?_
    refine To.as [row 37 9 (some ⟨b27_2, 0, none⟩) 1 1 [.int .i64 e.t, .int .i64 e.c, .int .u8 e.k, .int .i64 e.p, .int .i64 e.n, .int .i64 e.cp, .int .i64 e.h, .int .i64 e.d, .slice e.A e.args.length e.cap], rows Ev.cells 37 9 A32_2 q32_2 ((l.take i) ++ [e] ++ (l.drop i)), rows Ev.cells 37 9 A21 0 ([] : List Ev), ros Ev.cells (slAt Al cl (l.take i).length 9) (l.drop i), ros Ev.cells Al (l.take i), box b3 e.cells 37, ros Ev.cells Al l, argsS M, ros encI e.A e.args] rfl ?_
    refine To.thenN ?_
    refine To.ret ?_
    refine To.only [1] rfl ?_
    refine To.end1 (.inl rfl) Try.results37 rfl ?_
    have hE2 := hE
    skip
    rw [hE2]
    exact ⟨_, _, rfl, rfl⟩
end Go.Proofs.Ytneimfacccgaeaa
