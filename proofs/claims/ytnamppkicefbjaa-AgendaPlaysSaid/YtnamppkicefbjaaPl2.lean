/- The walk of AgendaPlays. Own text (walks printed by sx.py). -/
import Derived.Test.YtnamppkicefbjaaPl1
namespace Go.Proofs.Ytnamppkicefbjaa
open Go.RowKit Go.Flow Go.Mem Go.Sep
theorem op_args {Γ : List Chunk} {l : List Opr} {o : Opr} (i : Nat) (hi : Γ[i]? = some (argsS (l.map Opr.ar))) (h : o ∈ l) : (∀ w, oks Γ w → (ros encI o.A o.args).holds w) ∧ ∀ g ∈ (ros encI o.A o.args).reads, g ∈ reads Γ :=
  ⟨oks_Sr i hi (List.mem_map.2 ⟨o, h, rfl⟩), fun g hg => by
    have h1 : g ∈ rblks o.A (ints o.args) := by rw [← ints_flat]; exact hg
    exact reads_at i hi (List.mem_flatMap.2 ⟨_, List.mem_map.2 ⟨o, h, rfl⟩, h1⟩)⟩
def Behind (L : List En) (k : Nat) : Prop := ∀ e ∈ L, (k : Int) ≤ e.c ∧ e.c ≤ 2 ∧ e.t ≤ 11
theorem Behind.start {L l : List En} {n : Nat} (h : Filled L l n) : Behind L 0 := fun e he => by have := h.rng e he; simp; omega
theorem Behind.next {L : List En} {k : Nat} (h : Behind L k) : Behind (L.filter fun x => !inTake ((k : Nat) : Int) 1000 x) (k + 1) := fun e he => by
  obtain ⟨h1, h2⟩ := List.mem_filter.1 he
  have h3 := h e h1
  simp [inTake] at h2
  omega
theorem Behind.done {L : List En} (h : Behind L 3) : L = [] := List.eq_nil_iff_forall_not_mem.2 fun e he => by have := h e he; omega
set_option maxHeartbeats 2000000 in
set_option maxRecDepth 100000 in
theorem plays_fn (A : Option Addr) (cap : Nat) (ops : List Opr) (hok : ∀ o ∈ ops, o.ok) (hlo : ops.length ≤ 9223372036854775807) :
    Does Try.prog 8 [.slice A ops.length cap] [ros Opr.cells A ops, argsS (ops.map Opr.ar)] (fun v _ => v = .bool true) := by
  refine Does.enter Try.func8 rfl Try.ntmps8 rfl (fun w0 => ?_)
  refine To.seq ?_
  refine To.reg ?_
  refine To.rd rfl rfl rfl (Rd.assign rfl rfl) ?_
  refine To.nil ?_
  refine To.thenN ?_
  refine To.seq ?_
  refine To.seq ?_
  refine To.reg ?_
  refine To.callV rfl rfl rfl (Ent.fn rfl rfl ca11) (awake_fn) rfl (oks_nil _) ?_
  refine To.rd rfl rfl rfl (Rd.not rfl rfl) ?_
  refine To.nil ?_
  refine To.thenN ?_
  refine To.condF rfl ?_
  refine To.skip ?_
  refine To.thenN ?_
  refine To.seq ?_
  refine To.reg ?_
  refine To.callQ rfl rfl rfl (Ent.fn rfl rfl ca17) (new_fn) rfl (oks_nil _) ?_
  rintro _ _ ⟨a0, rfl, rfl⟩
  refine ⟨rfl, ?_⟩
  refine To.as [agc a0 (.slice none 0 0) [], ros Opr.cells A ops, argsS (ops.map Opr.ar)] rfl ?_
  refine To.alloc rfl rfl rfl rfl z24 (fun b3 => ?_)
  refine To.up rfl rfl (Up.store (i := 0) rfl rfl rfl c24 rfl rfl (box_takesAll rfl)) ?_
  refine To.nil ?_
  refine To.thenN ?_
  refine To.seq ?_
  refine To.reg ?_
  refine To.alloc rfl rfl rfl rfl z25 (fun b4 => ?_)
  refine To.nil ?_
  refine To.thenN ?_
  refine To.seq ?_
  refine To.seq ?_
  refine To.reg ?_
  refine To.rd rfl rfl rfl (Rd.move rfl rfl) ?_
  refine To.rd rfl rfl rfl (Rd.len rfl rfl Try.underlying22) ?_
  refine To.rd rfl rfl rfl (Rd.move rfl rfl) ?_
  refine To.nil ?_
  refine To.thenN ?_
  refine To.block ?_
  refine To.nilRow En.rcells 30 8 ?_
  refine To.free (c := argsS (([] : List En).map En.ar)) rfl rfl (fun w p hp => by simp at hp) ?_
  refine To.sub [(3, .pointer (some ⟨b3, 0, none⟩)), (4, .pointer (some ⟨b4, 0, none⟩)), (15, .slice A ops.length cap), (16, .int .i64 ((ops.length : Nat) : Int)), (17, .int .i64 ((0 : Nat) : Int))] ⟨rfl, rfl, rfl, rfl, rfl, trivial⟩ ?_
  refine To.only [3, 2, 2, 1, 0, 0, 0] rfl ?_
  refine To.as [box b3 [.pointer (some ⟨a0, 0, none⟩)] 24, box b4 [.slice none ([] : List En).length 0] 25, agc a0 (.slice none ([] : List En).length 0) ([] : List En), rows En.rcells 30 8 none 0 ([] : List En), argsS (([] : List En).map En.ar), ros Opr.cells A ops, argsS (ops.map Opr.ar)] rfl ?_
  refine To.loop (fun mz ρ Γ => ∃ (i : Nat) (a : Nat) (Av : Option Addr) (cv : Nat) (L : List En) (l : List En) (A5 : Option Addr) (q5 : Nat), ρ = [(3, .pointer (some ⟨b3, 0, none⟩)), (4, .pointer (some ⟨b4, 0, none⟩)), (15, .slice A ops.length cap), (16, .int .i64 ((ops.length : Nat) : Int)), (17, .int .i64 ((i : Nat) : Int))] ∧ Γ = [box b3 [.pointer (some ⟨a, 0, none⟩)] 24, box b4 [.slice A5 l.length q5] 25, agc a (.slice Av L.length cv) L, rows En.rcells 30 8 A5 q5 l, argsS (l.map En.ar), ros Opr.cells A ops, argsS (ops.map Opr.ar)] ∧ mz = ops.length - i ∧ (i ≤ ops.length) ∧ (i ≤ 60) ∧ (Filled L l i)) (ops.length - 0) ⟨0, a0, none, 0, ([] : List En), ([] : List En), none, 0, rfl, rfl, rfl, (Nat.zero_le _), (Nat.zero_le _), ⟨Same.nil, by simp, by simp, by simp, by simp⟩⟩ ?_
  rintro mz _ _ ⟨i, a, Av, cv, L, l, A5, q5, rfl, rfl, rfl, hi, h60, hF⟩
  have hll := hF.len
  have hLL := hF.lenL
  refine To.seq ?_
  refine To.reg ?_
  refine To.rd rfl rfl rfl (Rd.lss rfl rfl rfl) ?_
  refine To.nil ?_
  refine To.thenN ?_
  refine To.seq ?_
  refine To.condP rfl (fun c18 => ?_) (fun c18 => ?_)
  ·
    obtain ⟨o, hy⟩ : ∃ y, ops[i]? = some y := ⟨ops[i]'(by omega), List.getElem?_eq_getElem _⟩
    refine To.skip ?_
    refine To.thenN ?_
    refine To.seq ?_
    refine To.block ?_
    refine To.seq ?_
    refine To.reg ?_
    refine To.rd rfl rfl rfl (Rd.move rfl rfl) ?_
    refine To.rd rfl rfl rfl (Rd.indexRos encO (i := 5) (j := i) rfl rfl rfl s22 rfl hy) ?_
    refine To.rd rfl rfl rfl (Rd.loadS (i := 5) rfl rfl r56 rfl (ros_gives encO hy) (encO.len _)) ?_
    refine To.alloc rfl rfl rfl rfl z56 (fun b6 => ?_)
    refine To.rd rfl rfl rfl (Rd.assign rfl rfl) ?_
    refine To.up rfl rfl (Up.storeS (i := 0) rfl rfl rfl r56 rfl rfl rfl (box_takesAll rfl)) ?_
    refine To.nil ?_
    refine To.thenN ?_
    refine To.seq ?_
    refine To.seq ?_
    refine To.reg ?_
    refine To.rd rfl rfl rfl (Rd.move rfl rfl) ?_
    refine To.rd rfl rfl rfl (Rd.eql rfl rfl rfl) ?_
    refine To.nil ?_
    refine To.thenN ?_
    refine To.condP rfl (fun c23 => ?_) (fun c23 => ?_)
    ·
      refine To.exit ?_
      refine To.thenX ?_
      refine To.blockY rfl ?_
      refine To.thenX ?_
      refine To.thenX ?_
      refine To.blockX ?_
      refine To.thenN ?_
      refine To.seq ?_
      refine To.seq ?_
      refine To.reg ?_
      refine To.rd rfl rfl rfl (Rd.move rfl rfl) ?_
      refine To.nil ?_
      refine To.thenN ?_
      refine To.block ?_
      refine To.sub [(3, .pointer (some ⟨b3, 0, none⟩)), (4, .pointer (some ⟨b4, 0, none⟩)), (35, .int .i64 ((0 : Nat) : Int))] ⟨rfl, rfl, rfl, trivial⟩ ?_
      refine To.only [1, 1, 1, 1, 1] rfl ?_
      refine To.loop (fun mz ρ Γ => ∃ (k : Nat) (v : Value) (M0 : List En), ρ = [(3, .pointer (some ⟨b3, 0, none⟩)), (4, .pointer (some ⟨b4, 0, none⟩)), (35, .int .i64 ((k : Nat) : Int))] ∧ Γ = [box b3 [.pointer (some ⟨a, 0, none⟩)] 24, box b4 [.slice A5 l.length q5] 25, agc a v M0, rows En.rcells 30 8 A5 q5 l, argsS (l.map En.ar)] ∧ mz = 3 - k ∧ (k ≤ 3) ∧ (Rest M0 l k) ∧ (Behind M0 k)) (3 - 0) ⟨0, (.slice Av L.length cv), L, rfl, rfl, rfl, (by omega), (Rest.start hF.same (by omega) hF.argsL), (Behind.start hF)⟩ ?_
      rintro mz _ _ ⟨k, v, M0, rfl, rfl, rfl, hk, hR, hBh⟩
      refine To.seq ?_
      refine To.reg ?_
      refine To.rd rfl rfl rfl (Rd.lss rfl rfl rfl) ?_
      refine To.nil ?_
      refine To.thenN ?_
      refine To.seq ?_
      refine To.condP rfl (fun c36 => ?_) (fun c36 => ?_)
      ·
        refine To.skip ?_
        refine To.thenN ?_
        refine To.seq ?_
        refine To.block ?_
        refine To.seq ?_
        refine To.reg ?_
        refine To.rd rfl rfl rfl (Rd.move rfl rfl) ?_
        refine To.rd rfl rfl rfl (Rd.assign rfl rfl) ?_
        refine To.nil ?_
        refine To.thenN ?_
        refine To.seq ?_
        refine To.reg ?_
        refine To.rd rfl rfl rfl (Rd.load (i := 1) rfl rfl c25 rfl (box_gives1 rfl)) ?_
        refine To.rd rfl rfl rfl (Rd.move rfl rfl) ?_
        refine To.callQ rfl rfl rfl (Ent.fn rfl rfl ca23) (rtake_fn A5 q5 l 1000 ((k : Nat) : Int) (by omega)) rfl (oks_cons (oks_row 3 rfl) (oks_nil _)) ?_
        rintro _ _ ⟨Aw, qw, Ax, qx, rfl, rfl⟩
        refine ⟨rfl, ?_⟩
        refine To.as [rows En.rcells 30 8 Aw qw (l.filter (inTake ((k : Nat) : Int) 1000)), rows En.rcells 30 8 Ax qx (l.filter fun x => !inTake ((k : Nat) : Int) 1000 x), box b3 [.pointer (some ⟨a, 0, none⟩)] 24, box b4 [.slice A5 l.length q5] 25, agc a v M0, rows En.rcells 30 8 A5 q5 l, argsS (l.map En.ar)] rfl ?_
        refine To.rd rfl rfl rfl (Rd.move rfl rfl) ?_
        refine To.rd rfl rfl rfl (Rd.extract rfl rfl rfl) ?_
        refine To.rd rfl rfl rfl (Rd.extract rfl rfl rfl) ?_
        refine To.rd rfl rfl rfl (Rd.assign rfl rfl) ?_
        refine To.rd rfl rfl rfl (Rd.assign rfl rfl) ?_
        refine To.nil ?_
        refine To.thenN ?_
        refine To.seq ?_
        refine To.reg ?_
        refine To.rd rfl rfl rfl (Rd.load (i := 2) rfl rfl c24 rfl (box_gives1 rfl)) ?_
        refine To.rd rfl rfl rfl (Rd.move rfl rfl) ?_
        refine To.call [4] rfl rfl rfl (Ent.fn rfl rfl ca13) rfl (take_fn a v M0 1000 ((k : Nat) : Int) (by have := hR.len; omega) (fun e he => by have := hR.args e he; omega)) ?_
        rintro _ _ ⟨Am, qm, M, v3, rfl, rfl, hM⟩
        refine To.as [agc a v3 (M0.filter fun x => !inTake ((k : Nat) : Int) 1000 x), rows En.icells 35 7 Am qm M, argsO M, rows En.rcells 30 8 Aw qw (l.filter (inTake ((k : Nat) : Int) 1000)), rows En.rcells 30 8 Ax qx (l.filter fun x => !inTake ((k : Nat) : Int) 1000 x), box b3 [.pointer (some ⟨a, 0, none⟩)] 24, box b4 [.slice A5 l.length q5] 25, rows En.rcells 30 8 A5 q5 l, argsS (l.map En.ar)] rfl ?_
        refine To.rd rfl rfl rfl (Rd.move rfl rfl) ?_
        refine To.callV rfl rfl rfl (Ent.fn rfl rfl ca14) (same_fn Am Aw qm qw M (l.filter (inTake ((k : Nat) : Int) 1000)) (fun e he => by have := good_s (hF.same.gl e (List.mem_filter.1 he).1); omega) (fun e he => by have := list_args hM hR.args e he; omega) (by have := list_len hM; have := hR.len; omega) (by have := List.length_filter_le (inTake ((k : Nat) : Int) 1000) l; omega)) rfl (oks_cons (oks_row 1 rfl) (oks_cons (oks_row 3 rfl) (oks_cons (oks_OS 2 rfl) (oks_cons (oks_SS 8 rfl (fun e he => (List.mem_filter.1 he).1)) (oks_nil _))))) ?_
        refine To.rd rfl rfl rfl (Rd.not rfl rfl) ?_
        refine To.nil ?_
        refine To.thenN ?_
        refine To.cond rfl (fun c49 => ?_) (fun c49 => ?_)
        ·
          exfalso
          rw [decide_eq_true (itm_of_bare (hM.trans (hR.eq _ (Int.le_refl _))))] at c49
          exact absurd c49 (by decide)
        ·
          refine To.skip ?_
          refine To.blockN ?_
          refine To.thenN ?_
          refine To.reg ?_
          refine To.rd rfl rfl rfl (Rd.inc rfl rfl rfl (by omega)) ?_
          refine To.rd rfl rfl rfl (Rd.move rfl rfl) ?_
          refine To.nil ?_
          refine To.thenN ?_
          refine To.sub [(3, .pointer (some ⟨b3, 0, none⟩)), (4, .pointer (some ⟨b4, 0, none⟩)), (35, .int .i64 (((k + 1) : Nat) : Int))] ⟨rfl, rfl, rfl, trivial⟩ ?_
          refine To.only [5, 5, 0, 4, 4] rfl ?_
          refine To.again (3 - (k + 1)) (by omega) ⟨k + 1, v3, M0.filter fun x => !inTake ((k : Nat) : Int) 1000 x, rfl, rfl, rfl, (by omega), hR.next, hBh.next⟩
      ·
        obtain rfl : k = 3 := by omega
        obtain rfl := hBh.done
        refine To.exit ?_
        refine To.thenX ?_
        refine To.thenX ?_
        refine To.blockX ?_
        refine To.thenN ?_
        refine To.seq ?_
        refine To.reg ?_
        refine To.rd rfl rfl rfl (Rd.load (i := 0) rfl rfl c24 rfl (box_gives1 rfl)) ?_
        refine To.call [2] rfl rfl rfl (Ent.fn rfl rfl ca27) rfl (next_fn a v [] (by simp)) ?_
        rintro _ _ ⟨rfl, rfl⟩
        refine To.as [agc a v ([] : List En), box b3 [.pointer (some ⟨a, 0, none⟩)] 24, box b4 [.slice A5 l.length q5] 25, rows En.rcells 30 8 A5 q5 l, argsS (l.map En.ar)] rfl ?_
        refine To.rd rfl rfl rfl (Rd.move rfl rfl) ?_
        refine To.rd rfl rfl rfl (Rd.extract rfl rfl rfl) ?_
        refine To.rd rfl rfl rfl (Rd.extract rfl rfl rfl) ?_
        refine To.rd rfl rfl rfl (Rd.assign rfl rfl) ?_
        refine To.rd rfl rfl rfl (Rd.assign rfl rfl) ?_
        refine To.nil ?_
        refine To.thenN ?_
        refine To.seq ?_
        refine To.reg ?_
        refine To.rd rfl rfl rfl (Rd.load (i := 1) rfl rfl c24 rfl (box_gives1 rfl)) ?_
        refine To.call [0] rfl rfl rfl (Ent.fn rfl rfl ca16) rfl (len_fn a v ([] : List En)) ?_
        rintro _ _ ⟨rfl, rfl⟩
        refine To.as [agc a v ([] : List En), box b3 [.pointer (some ⟨a, 0, none⟩)] 24, box b4 [.slice A5 l.length q5] 25, rows En.rcells 30 8 A5 q5 l, argsS (l.map En.ar)] rfl ?_
        refine To.rd rfl rfl rfl (Rd.eql rfl rfl rfl) ?_
        refine To.rd rfl rfl rfl (Rd.move rfl rfl) ?_
        refine To.rd rfl rfl rfl (Rd.move rfl rfl) ?_
        refine To.rd rfl rfl rfl (Rd.not rfl rfl) ?_
        refine To.rd rfl rfl rfl (Rd.pickT rfl rfl rfl) ?_
        refine To.rd rfl rfl rfl (Rd.assign rfl rfl) ?_
        refine To.nil ?_
        refine To.thenN ?_
        refine To.ret ?_
        refine To.end1 (.inl rfl) Try.results8 rfl ?_
        rfl
    ·
      refine To.skip ?_
      refine To.thenN ?_
      refine To.seq ?_
      refine To.derive (ros encI o.A o.args) rfl (op_args 7 rfl (List.mem_of_getElem? hy)).2 (op_args 7 rfl (List.mem_of_getElem? hy)).1 ?_
      refine To.flow [] [⟨0, [], 1⟩, ⟨1, [], 5⟩, ⟨2, [], 0⟩, ⟨3, [], 0⟩, ⟨4, [], 1⟩, ⟨5, [], 3⟩, ⟨6, [], 1⟩, ⟨7, [], 0⟩, ⟨8, [], 0⟩, ⟨9, [], 0⟩] mixed (by kernel_rfl) (oks_nil _) ?_
      refine FlowS.rd rfl rfl rfl rfl (Rd.loadS (i := 1) rfl rfl r56 rfl box_whole rfl) ?_
      refine FlowS.call [2, 2, 2, 2, 2, 0] rfl rfl rfl rfl (Ent.fn rfl rfl ca26) rfl (step_fn b3 b4 a (.slice Av L.length cv) L l A5 q5 i o (hok o (List.mem_of_getElem? hy)) hF (by omega)) ?_
      rintro _ _ ⟨a2, Av2, cv2, L2, l2, A6, q6, rfl, rfl, hF2⟩
      refine ⟨oks_nil _, ?_⟩
      refine FlowS.free rfl rfl rfl rfl (Rd.not rfl rfl) ?_
      refine FlowS.free rfl rfl rfl rfl (Rd.move rfl rfl) ?_
      refine FlowS.rd rfl rfl rfl rfl (Rd.load (i := 0) rfl rfl c24 rfl (box_gives1 rfl)) ?_
      refine FlowS.callQ rfl rfl rfl rfl (Ent.fn rfl rfl ca16) (lenR_fn a2 Av2 L2.length cv2) rfl (oks_cons (oks_agl 2 rfl) (oks_nil _)) ?_
      refine FlowS.rd rfl rfl rfl rfl (Rd.load (i := 1) rfl rfl c25 rfl (box_gives1 rfl)) ?_
      refine FlowS.free rfl rfl rfl rfl (Rd.len rfl rfl Try.underlying25) ?_
      refine FlowS.free rfl rfl rfl rfl (Rd.neq rfl rfl rfl) ?_
      refine FlowS.free rfl rfl rfl rfl (Rd.pickF rfl rfl rfl) ?_
      refine FlowS.fin ?_
      refine To.as [box b3 [.pointer (some ⟨a2, 0, none⟩)] 24, box b4 [.slice A6 l2.length q6] 25, agc a2 (.slice Av2 L2.length cv2) L2, rows En.rcells 30 8 A6 q6 l2, argsS (l2.map En.ar), box b6 [.int .u8 o.dd, .int .u8 o.src, .int .u8 o.tick, .int .u8 o.cm, .int .i8 o.p, .int .i8 o.n, .int .i8 o.k, .int .i8 o.h, .slice o.A o.args.length o.cap] 56, ros Opr.cells A ops, argsS (ops.map Opr.ar)] rfl ?_
      refine To.thenN ?_
      refine To.condP rfl (fun c33 => ?_) (fun c33 => ?_)
      ·
        exact absurd (by rw [hF2.same.len]) c33
      ·
        refine To.skip ?_
        refine To.blockN ?_
        refine To.thenN ?_
        refine To.reg ?_
        refine To.rd rfl rfl rfl (Rd.inc rfl rfl rfl (by omega)) ?_
        refine To.rd rfl rfl rfl (Rd.move rfl rfl) ?_
        refine To.nil ?_
        refine To.thenN ?_
        refine To.sub [(3, .pointer (some ⟨b3, 0, none⟩)), (4, .pointer (some ⟨b4, 0, none⟩)), (15, .slice A ops.length cap), (16, .int .i64 ((ops.length : Nat) : Int)), (17, .int .i64 (((i + 1) : Nat) : Int))] ⟨rfl, rfl, rfl, rfl, rfl, trivial⟩ ?_
        refine To.only [0, 0, 0, 0, 0, 1, 1] rfl ?_
        refine To.again (ops.length - (i + 1)) (by omega) ⟨i + 1, a2, Av2, cv2, L2, l2, A6, q6, rfl, rfl, rfl, (by omega), (by omega), hF2⟩
  ·
    refine To.exit ?_
    refine To.thenX ?_
    refine To.thenX ?_
    refine To.blockX ?_
    refine To.thenN ?_
    refine To.seq ?_
    refine To.seq ?_
    refine To.reg ?_
    refine To.rd rfl rfl rfl (Rd.move rfl rfl) ?_
    refine To.nil ?_
    refine To.thenN ?_
    refine To.block ?_
    refine To.sub [(3, .pointer (some ⟨b3, 0, none⟩)), (4, .pointer (some ⟨b4, 0, none⟩)), (35, .int .i64 ((0 : Nat) : Int))] ⟨rfl, rfl, rfl, trivial⟩ ?_
    refine To.only [0, 0, 0, 0, 0] rfl ?_
    refine To.loop (fun mz ρ Γ => ∃ (k : Nat) (v : Value) (M0 : List En), ρ = [(3, .pointer (some ⟨b3, 0, none⟩)), (4, .pointer (some ⟨b4, 0, none⟩)), (35, .int .i64 ((k : Nat) : Int))] ∧ Γ = [box b3 [.pointer (some ⟨a, 0, none⟩)] 24, box b4 [.slice A5 l.length q5] 25, agc a v M0, rows En.rcells 30 8 A5 q5 l, argsS (l.map En.ar)] ∧ mz = 3 - k ∧ (k ≤ 3) ∧ (Rest M0 l k) ∧ (Behind M0 k)) (3 - 0) ⟨0, (.slice Av L.length cv), L, rfl, rfl, rfl, (by omega), (Rest.start hF.same (by omega) hF.argsL), (Behind.start hF)⟩ ?_
    rintro mz _ _ ⟨k, v, M0, rfl, rfl, rfl, hk, hR, hBh⟩
    refine To.seq ?_
    refine To.reg ?_
    refine To.rd rfl rfl rfl (Rd.lss rfl rfl rfl) ?_
    refine To.nil ?_
    refine To.thenN ?_
    refine To.seq ?_
    refine To.condP rfl (fun c36 => ?_) (fun c36 => ?_)
    ·
      refine To.skip ?_
      refine To.thenN ?_
      refine To.seq ?_
      refine To.block ?_
      refine To.seq ?_
      refine To.reg ?_
      refine To.rd rfl rfl rfl (Rd.move rfl rfl) ?_
      refine To.rd rfl rfl rfl (Rd.assign rfl rfl) ?_
      refine To.nil ?_
      refine To.thenN ?_
      refine To.seq ?_
      refine To.reg ?_
      refine To.rd rfl rfl rfl (Rd.load (i := 1) rfl rfl c25 rfl (box_gives1 rfl)) ?_
      refine To.rd rfl rfl rfl (Rd.move rfl rfl) ?_
      refine To.callQ rfl rfl rfl (Ent.fn rfl rfl ca23) (rtake_fn A5 q5 l 1000 ((k : Nat) : Int) (by omega)) rfl (oks_cons (oks_row 3 rfl) (oks_nil _)) ?_
      rintro _ _ ⟨Aw, qw, Ax, qx, rfl, rfl⟩
      refine ⟨rfl, ?_⟩
      refine To.as [rows En.rcells 30 8 Aw qw (l.filter (inTake ((k : Nat) : Int) 1000)), rows En.rcells 30 8 Ax qx (l.filter fun x => !inTake ((k : Nat) : Int) 1000 x), box b3 [.pointer (some ⟨a, 0, none⟩)] 24, box b4 [.slice A5 l.length q5] 25, agc a v M0, rows En.rcells 30 8 A5 q5 l, argsS (l.map En.ar)] rfl ?_
      refine To.rd rfl rfl rfl (Rd.move rfl rfl) ?_
      refine To.rd rfl rfl rfl (Rd.extract rfl rfl rfl) ?_
      refine To.rd rfl rfl rfl (Rd.extract rfl rfl rfl) ?_
      refine To.rd rfl rfl rfl (Rd.assign rfl rfl) ?_
      refine To.rd rfl rfl rfl (Rd.assign rfl rfl) ?_
      refine To.nil ?_
      refine To.thenN ?_
      refine To.seq ?_
      refine To.reg ?_
      refine To.rd rfl rfl rfl (Rd.load (i := 2) rfl rfl c24 rfl (box_gives1 rfl)) ?_
      refine To.rd rfl rfl rfl (Rd.move rfl rfl) ?_
      refine To.call [4] rfl rfl rfl (Ent.fn rfl rfl ca13) rfl (take_fn a v M0 1000 ((k : Nat) : Int) (by have := hR.len; omega) (fun e he => by have := hR.args e he; omega)) ?_
      rintro _ _ ⟨Am, qm, M, v3, rfl, rfl, hM⟩
      refine To.as [agc a v3 (M0.filter fun x => !inTake ((k : Nat) : Int) 1000 x), rows En.icells 35 7 Am qm M, argsO M, rows En.rcells 30 8 Aw qw (l.filter (inTake ((k : Nat) : Int) 1000)), rows En.rcells 30 8 Ax qx (l.filter fun x => !inTake ((k : Nat) : Int) 1000 x), box b3 [.pointer (some ⟨a, 0, none⟩)] 24, box b4 [.slice A5 l.length q5] 25, rows En.rcells 30 8 A5 q5 l, argsS (l.map En.ar)] rfl ?_
      refine To.rd rfl rfl rfl (Rd.move rfl rfl) ?_
      refine To.callV rfl rfl rfl (Ent.fn rfl rfl ca14) (same_fn Am Aw qm qw M (l.filter (inTake ((k : Nat) : Int) 1000)) (fun e he => by have := good_s (hF.same.gl e (List.mem_filter.1 he).1); omega) (fun e he => by have := list_args hM hR.args e he; omega) (by have := list_len hM; have := hR.len; omega) (by have := List.length_filter_le (inTake ((k : Nat) : Int) 1000) l; omega)) rfl (oks_cons (oks_row 1 rfl) (oks_cons (oks_row 3 rfl) (oks_cons (oks_OS 2 rfl) (oks_cons (oks_SS 8 rfl (fun e he => (List.mem_filter.1 he).1)) (oks_nil _))))) ?_
      refine To.rd rfl rfl rfl (Rd.not rfl rfl) ?_
      refine To.nil ?_
      refine To.thenN ?_
      refine To.cond rfl (fun c49 => ?_) (fun c49 => ?_)
      ·
        exfalso
        rw [decide_eq_true (itm_of_bare (hM.trans (hR.eq _ (Int.le_refl _))))] at c49
        exact absurd c49 (by decide)
      ·
        refine To.skip ?_
        refine To.blockN ?_
        refine To.thenN ?_
        refine To.reg ?_
        refine To.rd rfl rfl rfl (Rd.inc rfl rfl rfl (by omega)) ?_
        refine To.rd rfl rfl rfl (Rd.move rfl rfl) ?_
        refine To.nil ?_
        refine To.thenN ?_
        refine To.sub [(3, .pointer (some ⟨b3, 0, none⟩)), (4, .pointer (some ⟨b4, 0, none⟩)), (35, .int .i64 (((k + 1) : Nat) : Int))] ⟨rfl, rfl, rfl, trivial⟩ ?_
        refine To.only [5, 5, 0, 4, 4] rfl ?_
        refine To.again (3 - (k + 1)) (by omega) ⟨k + 1, v3, M0.filter fun x => !inTake ((k : Nat) : Int) 1000 x, rfl, rfl, rfl, (by omega), hR.next, hBh.next⟩
    ·
      obtain rfl : k = 3 := by omega
      obtain rfl := hBh.done
      refine To.exit ?_
      refine To.thenX ?_
      refine To.thenX ?_
      refine To.blockX ?_
      refine To.thenN ?_
      refine To.seq ?_
      refine To.reg ?_
      refine To.rd rfl rfl rfl (Rd.load (i := 0) rfl rfl c24 rfl (box_gives1 rfl)) ?_
      refine To.call [2] rfl rfl rfl (Ent.fn rfl rfl ca27) rfl (next_fn a v [] (by simp)) ?_
      rintro _ _ ⟨rfl, rfl⟩
      refine To.as [agc a v ([] : List En), box b3 [.pointer (some ⟨a, 0, none⟩)] 24, box b4 [.slice A5 l.length q5] 25, rows En.rcells 30 8 A5 q5 l, argsS (l.map En.ar)] rfl ?_
      refine To.rd rfl rfl rfl (Rd.move rfl rfl) ?_
      refine To.rd rfl rfl rfl (Rd.extract rfl rfl rfl) ?_
      refine To.rd rfl rfl rfl (Rd.extract rfl rfl rfl) ?_
      refine To.rd rfl rfl rfl (Rd.assign rfl rfl) ?_
      refine To.rd rfl rfl rfl (Rd.assign rfl rfl) ?_
      refine To.nil ?_
      refine To.thenN ?_
      refine To.seq ?_
      refine To.reg ?_
      refine To.rd rfl rfl rfl (Rd.load (i := 1) rfl rfl c24 rfl (box_gives1 rfl)) ?_
      refine To.call [0] rfl rfl rfl (Ent.fn rfl rfl ca16) rfl (len_fn a v ([] : List En)) ?_
      rintro _ _ ⟨rfl, rfl⟩
      refine To.as [agc a v ([] : List En), box b3 [.pointer (some ⟨a, 0, none⟩)] 24, box b4 [.slice A5 l.length q5] 25, rows En.rcells 30 8 A5 q5 l, argsS (l.map En.ar)] rfl ?_
      refine To.rd rfl rfl rfl (Rd.eql rfl rfl rfl) ?_
      refine To.rd rfl rfl rfl (Rd.move rfl rfl) ?_
      refine To.rd rfl rfl rfl (Rd.move rfl rfl) ?_
      refine To.rd rfl rfl rfl (Rd.not rfl rfl) ?_
      refine To.rd rfl rfl rfl (Rd.pickT rfl rfl rfl) ?_
      refine To.rd rfl rfl rfl (Rd.assign rfl rfl) ?_
      refine To.nil ?_
      refine To.thenN ?_
      refine To.ret ?_
      refine To.end1 (.inl rfl) Try.results8 rfl ?_
      rfl
end Go.Proofs.Ytnamppkicefbjaa
