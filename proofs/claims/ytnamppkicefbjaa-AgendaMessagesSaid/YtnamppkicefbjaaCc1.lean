/- The walk of AgendaCancels. Own text (walks printed by sx.py). -/
import Derived.Test.YtnamppkicefbjaaC2
import Derived.Test.YtnamppkicefbjaaSt1
namespace Go.Proofs.Ytnamppkicefbjaa
open Go.RowKit Go.Flow Go.Mem Go.Sep
theorem timer_bare (c : Int) (e : En) : isTimer c e.bare = isTimer c e := rfl
theorem timer_count {L l : List En} (h : Same L l) (c : Int) : (L.filter (isTimer c)).length = (l.filter (isTimer c)).length := by
  have h1 : ((L.map En.bare).filter (isTimer c)).Perm ((l.map En.bare).filter (isTimer c)) := h.perm.filter _
  rw [← bare_filter _ (timer_bare c), ← bare_filter _ (timer_bare c)] at h1
  simpa using h1.length_eq
theorem timer_none (L : List En) (c : Int) : ((L.filter fun x => !isTimer c x).filter (isTimer c)).length = 0 := by
  rw [List.filter_filter]; simp
theorem timer_idem (L : List En) (c : Int) : ((L.filter fun x => !isTimer c x).filter fun x => !isTimer c x) = L.filter fun x => !isTimer c x := by
  rw [List.filter_filter]; simp
theorem itm_of_bare {M W : List En} (h : M.map En.bare = W.map En.bare) : M.map En.itm = W.map En.itm := by
  have e : ∀ x : En, x.bare.itm = x.itm := fun _ => rfl
  have := congrArg (List.map En.itm) h
  simpa [List.map_map, Function.comp_def, e] using this
/-- What the agenda holds of the components from k on is what the list of the reference holds. -/
structure Rest (L r : List En) (k : Nat) : Prop where
  eq : ∀ c : Int, (k : Int) ≤ c → (L.filter (inTake c 1000)).map En.bare = (r.filter (inTake c 1000)).map En.bare
  len : L.length ≤ 1000
  args : ∀ e ∈ L, e.args.length ≤ 4
theorem Rest.start {L r : List En} (h : Same L r) (hl : L.length ≤ 1000) (ha : ∀ e ∈ L, e.args.length ≤ 4) : Rest L r 0 := ⟨fun c _ => h.take c 1000, hl, ha⟩
theorem Rest.next {L r : List En} {k : Nat} (h : Rest L r k) : Rest (L.filter fun x => !inTake ((k : Nat) : Int) 1000 x) r (k + 1) := by
  refine ⟨fun c hc => ?_, Nat.le_trans (List.length_filter_le _ _) h.len, fun e he => h.args e (List.mem_filter.1 he).1⟩
  rw [← h.eq c (by omega), List.filter_filter]
  congr 1
  refine List.filter_congr fun x _ => ?_
  cases hx : inTake c 1000 x with
  | false => simp
  | true =>
    have : inTake ((k : Nat) : Int) 1000 x = false := by
      simp only [inTake, decide_eq_true_eq, decide_eq_false_iff_not] at hx ⊢; omega
    simp [this]
set_option maxHeartbeats 2000000 in
set_option maxRecDepth 100000 in
theorem cancels_fn (A : Option Addr) (cap : Nat) (ops : List Opr) (component : Int) (hok : ∀ o ∈ ops, o.ok) (hlo : ops.length ≤ 9223372036854775807) (hcm : 0 ≤ component ∧ component < 256) :
    Does Try.prog 6 [.slice A ops.length cap, .int .u8 component] [ros Opr.cells A ops, argsS (ops.map Opr.ar)] (fun v _ => v = .bool true) := by
  refine Does.enter Try.func6 rfl Try.ntmps6 rfl (fun w0 => ?_)
  refine To.seq ?_
  refine To.reg ?_
  refine To.rd rfl rfl rfl (Rd.assign rfl rfl) ?_
  refine To.nil ?_
  refine To.thenN ?_
  refine To.seq ?_
  refine To.seq ?_
  refine To.reg ?_
  refine To.callV rfl rfl rfl (Ent.fn rfl rfl ca11) (awake_fn) rfl (oks_nil _) ?_
  refine To.rd rfl rfl rfl (Rd.not rfl rfl) ?_
  refine To.nil ?_
  refine To.thenN ?_
  refine To.condF rfl ?_
  refine To.skip ?_
  refine To.thenN ?_
  refine To.seq ?_
  refine To.reg ?_
  refine To.rd rfl rfl rfl (Rd.move rfl rfl) ?_
  refine To.call [0, 0] rfl rfl rfl (Ent.fn rfl rfl ca12) rfl (fill_fn A cap ops hok hlo) ?_
  rintro _ _ ⟨a, v0, L0, l, A5, q5, rfl, rfl, hF⟩
  refine To.as [agc a v0 L0, rows En.rcells 30 8 A5 q5 l, argsS (l.map En.ar)] rfl ?_
  refine To.rd rfl rfl rfl (Rd.move rfl rfl) ?_
  refine To.rd rfl rfl rfl (Rd.extract rfl rfl rfl) ?_
  refine To.rd rfl rfl rfl (Rd.extract rfl rfl rfl) ?_
  refine To.rd rfl rfl rfl (Rd.assign rfl rfl) ?_
  refine To.rd rfl rfl rfl (Rd.assign rfl rfl) ?_
  refine To.nil ?_
  refine To.thenN ?_
  refine To.seq ?_
  have hll := hF.len
  have hLL := hF.lenL
  have hf1 := List.length_filter_le (fun x => !isTimer (component % 3) x) L0
  have hf2 := List.length_filter_le (fun x => !isTimer (component % 3) x) l
  refine To.reg ?_
  refine To.rd rfl rfl rfl (Rd.move rfl rfl) ?_
  refine To.rd rfl rfl rfl (Rd.rem rfl rfl rfl (by omega) (by omega)) ?_
  refine To.rd rfl rfl rfl (Rd.conv rfl rfl Try.underlying5 Try.underlying3 (IntWalk.i64_in _ (by omega))) ?_
  refine To.rd rfl rfl rfl (Rd.assign rfl rfl) ?_
  refine To.nil ?_
  refine To.thenN ?_
  refine To.seq ?_
  refine To.reg ?_
  refine To.rd rfl rfl rfl (Rd.move rfl rfl) ?_
  refine To.rd rfl rfl rfl (Rd.move rfl rfl) ?_
  refine To.callQ rfl rfl rfl (Ent.fn rfl rfl ca21) (rcancel_fn A5 q5 l (component % 3) (by omega)) rfl (oks_cons (oks_row 1 rfl) (oks_nil _)) ?_
  rintro _ _ ⟨A8, q8, rfl, rfl⟩
  refine ⟨rfl, ?_⟩
  refine To.as [rows En.rcells 30 8 A8 q8 (l.filter fun x => !isTimer (component % 3) x), agc a v0 L0, rows En.rcells 30 8 A5 q5 l, argsS (l.map En.ar)] rfl ?_
  refine To.rd rfl rfl rfl (Rd.move rfl rfl) ?_
  refine To.rd rfl rfl rfl (Rd.extract rfl rfl rfl) ?_
  refine To.rd rfl rfl rfl (Rd.extract rfl rfl rfl) ?_
  refine To.rd rfl rfl rfl (Rd.assign rfl rfl) ?_
  refine To.rd rfl rfl rfl (Rd.assign rfl rfl) ?_
  refine To.nil ?_
  refine To.thenN ?_
  refine To.seq ?_
  refine To.seq ?_
  refine To.reg ?_
  refine To.rd rfl rfl rfl (Rd.move rfl rfl) ?_
  refine To.rd rfl rfl rfl (Rd.move rfl rfl) ?_
  refine To.call [1] rfl rfl rfl (Ent.fn rfl rfl ca22) rfl (cancel_fn a v0 L0 (component % 3) (by have := hF.lenL; omega)) ?_
  rintro _ _ ⟨v1, rfl, rfl⟩
  refine To.as [agc a v1 (L0.filter fun x => !isTimer (component % 3) x), rows En.rcells 30 8 A8 q8 (l.filter fun x => !isTimer (component % 3) x), rows En.rcells 30 8 A5 q5 l, argsS (l.map En.ar)] rfl ?_
  refine To.rd rfl rfl rfl (Rd.move rfl rfl) ?_
  refine To.rd rfl rfl rfl (Rd.neq rfl rfl rfl) ?_
  refine To.rdP rfl rfl rfl (Rd.move rfl rfl) (fun g34 => ?_) (fun g34 => ?_)
  ·
    exact absurd (by rw [timer_count hF.same]) g34
  ·
    refine To.rd rfl rfl rfl (Rd.move rfl rfl) ?_
    refine To.rd rfl rfl rfl (Rd.move rfl rfl) ?_
    refine To.call [0] rfl rfl rfl (Ent.fn rfl rfl ca22) rfl (cancel_fn a v1 (L0.filter fun x => !isTimer (component % 3) x) (component % 3) (by omega)) ?_
    rintro _ _ ⟨v2, rfl, rfl⟩
    refine To.as [agc a v2 ((L0.filter fun x => !isTimer (component % 3) x).filter fun x => !isTimer (component % 3) x), rows En.rcells 30 8 A8 q8 (l.filter fun x => !isTimer (component % 3) x), rows En.rcells 30 8 A5 q5 l, argsS (l.map En.ar)] rfl ?_
    refine To.as [agc a v2 (L0.filter fun x => !isTimer (component % 3) x), rows En.rcells 30 8 A8 q8 (l.filter fun x => !isTimer (component % 3) x), rows En.rcells 30 8 A5 q5 l, argsS (l.map En.ar)] (by rw [timer_idem]) ?_
    refine To.rd rfl rfl rfl (Rd.neq rfl rfl rfl) ?_
    refine To.rd rfl rfl rfl (Rd.pickF rfl rfl rfl) ?_
    refine To.rdP rfl rfl rfl (Rd.move rfl rfl) (fun g40 => ?_) (fun g40 => ?_)
    ·
      exact absurd (by rw [timer_none]; rfl) g40
    ·
      refine To.rd rfl rfl rfl (Rd.move rfl rfl) ?_
      refine To.call [0] rfl rfl rfl (Ent.fn rfl rfl ca16) rfl (len_fn a v2 (L0.filter fun x => !isTimer (component % 3) x)) ?_
      rintro _ _ ⟨rfl, rfl⟩
      refine To.as [agc a v2 (L0.filter fun x => !isTimer (component % 3) x), rows En.rcells 30 8 A8 q8 (l.filter fun x => !isTimer (component % 3) x), rows En.rcells 30 8 A5 q5 l, argsS (l.map En.ar)] rfl ?_
      refine To.rd rfl rfl rfl (Rd.move rfl rfl) ?_
      refine To.rd rfl rfl rfl (Rd.len rfl rfl Try.underlying25) ?_
      refine To.rd rfl rfl rfl (Rd.neq rfl rfl rfl) ?_
      refine To.rd rfl rfl rfl (Rd.pickF rfl rfl rfl) ?_
      refine To.nil ?_
      refine To.sub [(0, .slice A ops.length cap), (1, .int .u8 component), (4, .bool false), (13, .bool true), (14, .bool false), (16, .slice A ops.length cap), (17, .tuple #[.pointer (some ⟨a, 0, none⟩), .slice A5 l.length q5]), (15, .tuple #[.pointer (some ⟨a, 0, none⟩), .slice A5 l.length q5]), (18, .pointer (some ⟨a, 0, none⟩)), (19, .slice A5 l.length q5), (5, .pointer (some ⟨a, 0, none⟩)), (6, .slice A5 l.length q5), (20, .int .u8 component), (21, .int .u8 (component % 3)), (22, .int .i64 (component % 3)), (7, .int .i64 (component % 3)), (24, .slice A5 l.length q5), (25, .int .i64 (component % 3)), (26, .tuple #[.slice A8 ((l.filter fun x => !isTimer (component % 3) x).length) q8, .int .i64 (((l.filter (isTimer (component % 3))).length : Nat) : Int)]), (23, .tuple #[.slice A8 ((l.filter fun x => !isTimer (component % 3) x).length) q8, .int .i64 (((l.filter (isTimer (component % 3))).length : Nat) : Int)]), (27, .slice A8 ((l.filter fun x => !isTimer (component % 3) x).length) q8), (28, .int .i64 (((l.filter (isTimer (component % 3))).length : Nat) : Int)), (8, .slice A8 ((l.filter fun x => !isTimer (component % 3) x).length) q8), (46, .bool (decide ((((L0.filter fun x => !isTimer (component % 3) x).length : Nat) : Int) ≠ (((l.filter fun x => !isTimer (component % 3) x).length : Nat) : Int))))] ⟨rfl, rfl, rfl, rfl, rfl, rfl, rfl, rfl, rfl, rfl, rfl, rfl, rfl, rfl, rfl, rfl, rfl, rfl, rfl, rfl, rfl, rfl, rfl, rfl, trivial⟩ ?_
      refine To.thenN ?_
      refine To.condP rfl (fun c46 => ?_) (fun c46 => ?_)
      ·
        exfalso
        have := (hF.same.filter (fun x => !isTimer (component % 3) x) (fun _ => rfl)).len
        omega
      ·
        refine To.skip ?_
        refine To.thenN ?_
        refine To.seq ?_
        refine To.seq ?_
        refine To.reg ?_
        refine To.rd rfl rfl rfl (Rd.move rfl rfl) ?_
        refine To.nil ?_
        refine To.thenN ?_
        refine To.block ?_
        refine To.sub [(5, .pointer (some ⟨a, 0, none⟩)), (8, .slice A8 ((l.filter fun x => !isTimer (component % 3) x).length) q8), (47, .int .i64 ((0 : Nat) : Int))] ⟨rfl, rfl, rfl, trivial⟩ ?_
        refine To.only [0, 0, 1] rfl ?_
        refine To.loop (fun mz ρ Γ => ∃ (k : Nat) (v : Value) (L : List En), ρ = [(5, .pointer (some ⟨a, 0, none⟩)), (8, .slice A8 ((l.filter fun x => !isTimer (component % 3) x).length) q8), (47, .int .i64 ((k : Nat) : Int))] ∧ Γ = [agc a v L, rows En.rcells 30 8 A8 q8 (l.filter fun x => !isTimer (component % 3) x), argsS (l.map En.ar)] ∧ mz = 3 - k ∧ (k ≤ 3) ∧ (Rest L (l.filter fun x => !isTimer (component % 3) x) k)) (3 - 0) ⟨0, v2, (L0.filter fun x => !isTimer (component % 3) x), rfl, rfl, rfl, (by omega), (Rest.start (hF.same.filter _ (fun _ => rfl)) (by omega) (fun e he => hF.argsL e (List.mem_filter.1 he).1))⟩ ?_
        rintro mz _ _ ⟨k, v, L, rfl, rfl, rfl, hk, hR⟩
        refine To.seq ?_
        refine To.reg ?_
        refine To.rd rfl rfl rfl (Rd.lss rfl rfl rfl) ?_
        refine To.nil ?_
        refine To.thenN ?_
        refine To.seq ?_
        refine To.condP rfl (fun c48 => ?_) (fun c48 => ?_)
        ·
          refine To.skip ?_
          refine To.thenN ?_
          refine To.seq ?_
          refine To.block ?_
          refine To.seq ?_
          refine To.reg ?_
          refine To.rd rfl rfl rfl (Rd.move rfl rfl) ?_
          refine To.rd rfl rfl rfl (Rd.assign rfl rfl) ?_
          refine To.nil ?_
          refine To.thenN ?_
          refine To.seq ?_
          refine To.reg ?_
          refine To.rd rfl rfl rfl (Rd.move rfl rfl) ?_
          refine To.rd rfl rfl rfl (Rd.move rfl rfl) ?_
          refine To.callQ rfl rfl rfl (Ent.fn rfl rfl ca23) (rtake_fn A8 q8 (l.filter fun x => !isTimer (component % 3) x) 1000 ((k : Nat) : Int) (by omega)) rfl (oks_cons (oks_row 1 rfl) (oks_nil _)) ?_
          rintro _ _ ⟨Aw, qw, Ax, qx, rfl, rfl⟩
          refine ⟨rfl, ?_⟩
          refine To.as [rows En.rcells 30 8 Aw qw ((l.filter fun x => !isTimer (component % 3) x).filter (inTake ((k : Nat) : Int) 1000)), rows En.rcells 30 8 Ax qx ((l.filter fun x => !isTimer (component % 3) x).filter fun x => !inTake ((k : Nat) : Int) 1000 x), agc a v L, rows En.rcells 30 8 A8 q8 (l.filter fun x => !isTimer (component % 3) x), argsS (l.map En.ar)] rfl ?_
          refine To.rd rfl rfl rfl (Rd.move rfl rfl) ?_
          refine To.rd rfl rfl rfl (Rd.extract rfl rfl rfl) ?_
          refine To.rd rfl rfl rfl (Rd.extract rfl rfl rfl) ?_
          refine To.rd rfl rfl rfl (Rd.assign rfl rfl) ?_
          refine To.rd rfl rfl rfl (Rd.assign rfl rfl) ?_
          refine To.nil ?_
          refine To.thenN ?_
          refine To.seq ?_
          refine To.reg ?_
          refine To.rd rfl rfl rfl (Rd.move rfl rfl) ?_
          refine To.rd rfl rfl rfl (Rd.move rfl rfl) ?_
          refine To.call [2] rfl rfl rfl (Ent.fn rfl rfl ca13) rfl (take_fn a v L 1000 ((k : Nat) : Int) (by have := hR.len; omega) (fun e he => by have := hR.args e he; omega)) ?_
          rintro _ _ ⟨Am, qm, M, v3, rfl, rfl, hM⟩
          refine To.as [agc a v3 (L.filter fun x => !inTake ((k : Nat) : Int) 1000 x), rows En.icells 35 7 Am qm M, argsO M, rows En.rcells 30 8 Aw qw ((l.filter fun x => !isTimer (component % 3) x).filter (inTake ((k : Nat) : Int) 1000)), rows En.rcells 30 8 Ax qx ((l.filter fun x => !isTimer (component % 3) x).filter fun x => !inTake ((k : Nat) : Int) 1000 x), rows En.rcells 30 8 A8 q8 (l.filter fun x => !isTimer (component % 3) x), argsS (l.map En.ar)] rfl ?_
          refine To.rd rfl rfl rfl (Rd.move rfl rfl) ?_
          refine To.callV rfl rfl rfl (Ent.fn rfl rfl ca14) (same_fn Am Aw qm qw M ((l.filter fun x => !isTimer (component % 3) x).filter (inTake ((k : Nat) : Int) 1000)) (fun e he => by have := good_s (hF.same.gl e (List.mem_filter.1 (List.mem_filter.1 he).1).1); omega) (fun e he => by have := list_args hM hR.args e he; omega) (by have := list_len hM; have := hR.len; omega) (by have := List.length_filter_le (inTake ((k : Nat) : Int) 1000) (l.filter fun x => !isTimer (component % 3) x); omega)) rfl (oks_cons (oks_row 1 rfl) (oks_cons (oks_row 3 rfl) (oks_cons (oks_OS 2 rfl) (oks_cons (oks_SS 6 rfl (fun e he => (List.mem_filter.1 (List.mem_filter.1 he).1).1)) (oks_nil _))))) ?_
          refine To.rd rfl rfl rfl (Rd.not rfl rfl) ?_
          refine To.nil ?_
          refine To.thenN ?_
          refine To.cond rfl (fun c61 => ?_) (fun c61 => ?_)
          ·
            exfalso
            rw [decide_eq_true (itm_of_bare (hM.trans (hR.eq _ (Int.le_refl _))))] at c61
            exact absurd c61 (by decide)
          ·
            refine To.skip ?_
            refine To.blockN ?_
            refine To.thenN ?_
            refine To.reg ?_
            refine To.rd rfl rfl rfl (Rd.inc rfl rfl rfl (by omega)) ?_
            refine To.rd rfl rfl rfl (Rd.move rfl rfl) ?_
            refine To.nil ?_
            refine To.thenN ?_
            refine To.sub [(5, .pointer (some ⟨a, 0, none⟩)), (8, .slice A8 ((l.filter fun x => !isTimer (component % 3) x).length) q8), (47, .int .i64 (((k + 1) : Nat) : Int))] ⟨rfl, rfl, rfl, trivial⟩ ?_
            refine To.only [0, 4, 4] rfl ?_
            refine To.again (3 - (k + 1)) (by omega) ⟨k + 1, v3, L.filter fun x => !inTake ((k : Nat) : Int) 1000 x, rfl, rfl, rfl, (by omega), hR.next⟩
        ·
          refine To.exit ?_
          refine To.thenX ?_
          refine To.thenX ?_
          refine To.blockX ?_
          refine To.thenN ?_
          refine To.seq ?_
          refine To.reg ?_
          refine To.rd rfl rfl rfl (Rd.assign rfl rfl) ?_
          refine To.nil ?_
          refine To.thenN ?_
          refine To.ret ?_
          refine To.end1 (.inl rfl) Try.results6 rfl ?_
          rfl
end Go.Proofs.Ytnamppkicefbjaa
