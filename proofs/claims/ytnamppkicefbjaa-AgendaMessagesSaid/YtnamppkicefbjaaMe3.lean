/- The walk of AgendaMessages. Own text (walks printed by sx.py). -/
import Derived.Test.YtnamppkicefbjaaMe2
import Derived.Test.YtnamppkicefbjaaCc1
namespace Go.Proofs.Ytnamppkicefbjaa
open Go.RowKit Go.Flow Go.Mem Go.Sep
def peer (q : Nat) (e : En) : Bool := decide (e.p = (q : Int))
/-- The messages that have arrived so far. -/
structure Msgs (L : List En) (c0 c1 : Nat) (T : Int) : Prop where
  each : ∀ e ∈ L, e.c = 2 ∧ e.s = 5 ∧ e.args.length = 1 ∧ (e.p = 0 ∨ e.p = 1) ∧ e.t ≤ T
  p0 : (L.filter (peer 0)).map (·.n) = (List.range c0).map fun k : Nat => (k : Int)
  p1 : (L.filter (peer 1)).map (·.n) = (List.range c1).map fun k : Nat => (k : Int)
  len : L.length = c0 + c1
theorem Msgs.start : Msgs [] 0 0 0 := ⟨by simp, rfl, rfl, rfl⟩
theorem sorted_split {L : List En} (hs : SortedE L) (x : En) : L = (L.filter fun y => y.le x) ++ L.filter fun y => !y.le x := by
  have := filter_split (fun y : En => y.le x) (fun _ => true) (fun _ _ => rfl) L (hs.imp fun {a b} hab hb _ => En.le_trans hab hb)
  have tr : ∀ l : List En, l.filter (fun _ => true) = l := fun l => List.filter_eq_self.2 fun _ _ => rfl
  rw [tr, tr] at this
  exact this
theorem ins_other {L : List En} (hs : SortedE L) (x : En) (p : En → Bool) (hp : p x = false) : (insE x L).filter p = L.filter p := by
  conv => rhs; rw [sorted_split hs x]
  simp [insE, List.filter_append, hp]
theorem ins_last {L : List En} (x : En) (p : En → Bool) (hp : p x = true) (h : ∀ e ∈ L, p e = true → e.le x = true) : (insE x L).filter p = L.filter p ++ [x] := by
  have e1 : (L.filter fun y => y.le x).filter p = L.filter p := by
    rw [List.filter_filter]
    refine List.filter_congr fun y hy => ?_
    cases hpy : p y with
    | false => simp
    | true => rw [h y hy hpy]; rfl
  have e2 : (L.filter fun y => !y.le x).filter p = [] := by
    rw [List.filter_filter]
    refine List.filter_eq_nil_iff.2 fun y hy => ?_
    cases hpy : p y with
    | false => simp
    | true => rw [h y hy hpy]; simp
  simp only [insE, List.filter_append, List.filter_cons, hp, if_true, e1, e2]
theorem le_msg {e x : En} (h1 : e.c = x.c) (h2 : e.t ≤ x.t) (h3 : e.s = 5) (h4 : x.s = 5) (h5 : e.p = x.p) (h6 : e.n < x.n) : e.le x = true := by
  unfold En.le En.key
  rw [h1, h3, h4]
  have a1 : pl0 5 e.p e.n e.h = pl0 5 x.p x.n x.h := by simp [pl0, h5]
  have a2 : pl1 5 e.n < pl1 5 x.n := by simp [pl1, h6]
  rw [a1]
  rcases Int.lt_or_eq_of_le h2 with h | h
  · simp [lexLe, h]
  · rw [h]; simp [lexLe, a2]
theorem range_mem {L : List En} {q c : Nat} (h : (L.filter (peer q)).map (·.n) = (List.range c).map fun k : Nat => (k : Int)) {e : En} (he : e ∈ L) (hp : e.p = (q : Int)) : e.n < (c : Int) := by
  have : e.n ∈ (L.filter (peer q)).map (·.n) := List.mem_map.2 ⟨e, List.mem_filter.2 ⟨he, by simp [peer, hp]⟩, rfl⟩
  rw [h] at this
  obtain ⟨k, hk, h1⟩ := List.mem_map.1 this
  have := List.mem_range.1 hk
  omega
theorem Msgs.add {L : List En} {c0 c1 : Nat} {T : Int} (h : Msgs L c0 c1 T) (hs : SortedE L) (x : En) (hc : x.c = 2) (hx5 : x.s = 5) (ha : x.args.length = 1) (hp : x.p = 0 ∨ x.p = 1) (hT : T ≤ x.t) (hn : x.n = if x.p = 0 then (c0 : Int) else (c1 : Int)) :
    Msgs (insE x L) (if x.p = 0 then c0 + 1 else c0) (if x.p = 0 then c1 else c1 + 1) x.t := by
  have hle : ∀ (q c : Nat), x.p = (q : Int) → x.n = (c : Int) → (L.filter (peer q)).map (·.n) = ((List.range c).map fun k : Nat => (k : Int)) → ∀ e ∈ L, peer q e = true → e.le x = true := fun q c hq hnc hr e he hpe => by
    obtain ⟨a1, a2, a3, a4, a5⟩ := h.each e he
    have hep : e.p = (q : Int) := by simpa [peer] using hpe
    have := range_mem hr he hep
    exact le_msg (by omega) (by omega) a2 hx5 (by omega) (by omega)
  have hone : ∀ (q c : Nat), x.p = (q : Int) → x.n = (c : Int) → (L.filter (peer q)).map (·.n) = ((List.range c).map fun k : Nat => (k : Int)) → ((insE x L).filter (peer q)).map (·.n) = (List.range (c + 1)).map fun k : Nat => (k : Int) := fun q c hq hnc hr => by
    rw [ins_last x (peer q) (by simp [peer, hq]) (hle q c hq hnc hr), List.map_append, hr, List.range_succ, List.map_append]
    simp [hnc]
  have hoth : ∀ q : Nat, x.p ≠ (q : Int) → (insE x L).filter (peer q) = L.filter (peer q) := fun q hq => ins_other hs x (peer q) (by simp [peer, hq])
  have heach : ∀ e ∈ insE x L, e.c = 2 ∧ e.s = 5 ∧ e.args.length = 1 ∧ (e.p = 0 ∨ e.p = 1) ∧ e.t ≤ x.t := fun e he => by
    rcases List.mem_cons.1 ((insE_perm x L).mem_iff.1 he) with rfl | h1
    · exact ⟨hc, hx5, ha, hp, Int.le_refl _⟩
    · obtain ⟨a1, a2, a3, a4, a5⟩ := h.each e h1
      exact ⟨a1, a2, a3, a4, by omega⟩
  have hlen : (insE x L).length = c0 + c1 + 1 := by rw [(insE_perm x L).length_eq]; simp [h.len]
  rcases hp with hp | hp
  · rw [if_pos hp, if_pos hp]; rw [if_pos hp] at hn
    exact ⟨heach, hone 0 c0 (by simpa using hp) hn h.p0, by rw [hoth 1 (by omega)]; exact h.p1, by omega⟩
  · have h0 : ¬ x.p = 0 := by omega
    rw [if_neg h0, if_neg h0]; rw [if_neg h0] at hn
    exact ⟨heach, by rw [hoth 0 (by simp; omega)]; exact h.p0, hone 1 c1 (by simpa using hp) hn h.p1, by omega⟩
theorem Msgs.bare {L M : List En} {c0 c1 : Nat} {T : Int} (h : Msgs L c0 c1 T) (hb : M.map En.bare = L.map En.bare) : Msgs M c0 c1 T := by
  have hf : ∀ q, (M.filter (peer q)).map (·.n) = (L.filter (peer q)).map (·.n) := fun q => by
    have := congrArg (List.map fun e : En => e.n) (filter_bare hb (peer q) (fun _ => rfl))
    simpa [List.map_map, Function.comp_def, En.bare] using this
  refine ⟨fun e he => ?_, by rw [hf]; exact h.p0, by rw [hf]; exact h.p1, by have := congrArg List.length hb; simp at this; rw [this]; exact h.len⟩
  have : e.bare ∈ L.map En.bare := by rw [← hb]; exact List.mem_map.2 ⟨e, he, rfl⟩
  obtain ⟨x, hx, h1⟩ := List.mem_map.1 this
  obtain ⟨f1, f2, f3, f4, f5, f6, f7, f8⟩ := bare_fields h1
  have := h.each x hx
  rw [f1, f2, f3, f4, f8] at this
  exact this
theorem nth_peer {M : List En} {q c j : Nat} {x : En} (h : (M.filter (peer q)).map (·.n) = (List.range c).map fun k : Nat => (k : Int)) (hx : M[j]? = some x) (hp : x.p = (q : Int)) : x.n = (((M.take j).filter (peer q)).length : Nat) := by
  have e1 : M = M.take j ++ x :: M.drop (j + 1) := by rw [← drop_of_get hx, List.take_append_drop]
  rw [e1, List.filter_append, List.filter_cons, if_pos (by simp [peer, hp]), List.map_append, List.map_cons] at h
  have h2 := congrArg (fun l => l[((M.take j).filter (peer q)).length]?) h
  rw [List.getElem?_append_right (by simp)] at h2
  simp only [List.length_map, Nat.sub_self, List.getElem?_cons_zero, List.getElem?_map] at h2
  obtain ⟨k, h3, h4⟩ := Option.map_eq_some_iff.1 h2.symm
  have h5 := (List.getElem?_eq_some_iff.1 h3)
  obtain ⟨h6, h7⟩ := h5
  simp at h7
  omega
/-- What the statement holds of the last numbers. -/
def Lasts (M : List En) (j : Nat) (l : List Int) : Prop := l.length = 2 ∧ ∀ q : Nat, q < 2 → l[q]? = some ((((M.take j).filter (peer q)).length : Int) - 1)
theorem Lasts.step {M : List En} {c0 c1 : Nat} {T : Int} (h : Msgs M c0 c1 T) {j pn : Nat} {x : En} {l : List Int} (hl : Lasts M j l) (hx : M[j]? = some x) (hp : x.p = (pn : Int)) (hpn : pn < 2) : Lasts M (j + 1) (l.set pn x.n) := by
  refine ⟨by simp [hl.1], fun q hq => ?_⟩
  have hn : x.n = (((M.take j).filter (peer pn)).length : Nat) := by
    rcases (show pn = 0 ∨ pn = 1 by omega) with rfl | rfl
    · exact nth_peer h.p0 hx hp
    · exact nth_peer h.p1 hx hp
  rw [take_of_get hx, List.filter_append]
  by_cases e : pn = q
  · subst e
    have : peer pn x = true := by simp [peer, hp]
    simp [hl.1, hpn, this, hn]
  · have : peer q x = false := by simp [peer, hp]; omega
    simp [e, this]
    exact hl.2 q hq
theorem take_len {M : List En} (j q : Nat) : ((M.take j).filter (peer q)).length ≤ j := Nat.le_trans (List.length_filter_le _ _) (List.length_take_le _ _)
theorem all_taken {L M : List En} {c0 c1 : Nat} {T : Int} (h : Msgs L c0 c1 T) (hT : T ≤ 1000) (hM : M.map En.bare = (L.filter (inTake 2 1000)).map En.bare) : M.map En.bare = L.map En.bare := by
  rw [hM, List.filter_eq_self.2 fun e he => by have := h.each e he; simp only [inTake, decide_eq_true_eq]; omega]
theorem net_cast (f : Int) (c0 c1 : Nat) (mp : Value) : netC (if f = 0 then ((c0 : Nat) : Int) + 1 else ((c0 : Nat) : Int)) (if f = 0 then ((c1 : Nat) : Int) else ((c1 : Nat) : Int) + 1) mp = netC (((if f = 0 then c0 + 1 else c0 : Nat)) : Int) (((if f = 0 then c1 else c1 + 1 : Nat)) : Int) mp := by split <;> rfl
def encU (n : Int) : List Value := [.int .u8 n]
theorem encU_ok : Enc encU 1 := ⟨fun _ => rfl, fun x u hu => by simp [encU] at hu; subst hu; rfl⟩
set_option maxHeartbeats 2000000 in
set_option maxRecDepth 100000 in
theorem messages_fn (A : Option Addr) (cap : Nat) (sends : List Int) (latency : Int) (hu : ∀ s ∈ sends, 0 ≤ s ∧ s < 256) (hls : sends.length ≤ 9223372036854775807) (hla : 0 ≤ latency ∧ latency < 256) :
    Does Try.prog 10 [.slice A sends.length cap, .int .u8 latency] [ros encU A sends] (fun v _ => v = .bool true) := by
  refine Does.enter Try.func10 rfl Try.ntmps10 rfl (fun w0 => ?_)
  refine To.seq ?_
  refine To.reg ?_
  refine To.rd rfl rfl rfl (Rd.assign rfl rfl) ?_
  refine To.nil ?_
  refine To.thenN ?_
  refine To.seq ?_
  refine To.seq ?_
  refine To.reg ?_
  refine To.callV rfl rfl rfl (Ent.fn rfl rfl ca11) (awake_fn) rfl (oks_nil _) ?_
  refine To.rd rfl rfl rfl (Rd.not rfl rfl) ?_
  refine To.nil ?_
  refine To.thenN ?_
  refine To.condF rfl ?_
  refine To.skip ?_
  refine To.thenN ?_
  refine To.seq ?_
  refine To.reg ?_
  refine To.rd rfl rfl rfl (Rd.build (vs := []) (cells := [.slice none 0 0]) rfl rfl rfl (by kernel_rfl)) ?_
  refine To.callQ rfl rfl rfl (Ent.fn rfl rfl ca29) (nnew_fn) rfl (oks_nil _) ?_
  rintro _ _ ⟨n, r, rfl, rfl⟩
  refine ⟨rfl, ?_⟩
  refine To.as [box n (netC 0 0 (.map (some r))) 104, ros encU A sends] rfl ?_
  refine To.rd rfl rfl rfl (Rd.move rfl rfl) ?_
  refine To.rd rfl rfl rfl (Rd.extract rfl rfl rfl) ?_
  refine To.rd rfl rfl rfl (Rd.extract rfl rfl rfl) ?_
  refine To.rd rfl rfl rfl (Rd.assign rfl rfl) ?_
  refine To.rd rfl rfl rfl (Rd.assign rfl rfl) ?_
  refine To.nil ?_
  refine To.thenN ?_
  refine To.seq ?_
  refine To.seq ?_
  refine To.reg ?_
  refine To.rd rfl rfl rfl (Rd.move rfl rfl) ?_
  refine To.rd rfl rfl rfl (Rd.neq rfl rfl rfl) ?_
  refine To.nil ?_
  refine To.thenN ?_
  refine To.condF rfl ?_
  refine To.skip ?_
  refine To.thenN ?_
  refine To.seq ?_
  refine To.reg ?_
  refine To.callQ rfl rfl rfl (Ent.fn rfl rfl ca17) (new_fn) rfl (oks_nil _) ?_
  rintro _ _ ⟨a, rfl, rfl⟩
  refine ⟨rfl, ?_⟩
  refine To.as [agc a (.slice none 0 0) [], box n (netC 0 0 (.map (some r))) 104, ros encU A sends] rfl ?_
  refine To.rd rfl rfl rfl (Rd.assign rfl rfl) ?_
  refine To.nil ?_
  refine To.thenN ?_
  refine To.seq ?_
  refine To.reg ?_
  refine To.rd rfl rfl rfl (Rd.assign rfl rfl) ?_
  refine To.nil ?_
  refine To.thenN ?_
  refine To.seq ?_
  refine To.seq ?_
  refine To.reg ?_
  refine To.rd rfl rfl rfl (Rd.move rfl rfl) ?_
  refine To.rd rfl rfl rfl (Rd.len rfl rfl Try.underlying65) ?_
  refine To.rd rfl rfl rfl (Rd.move rfl rfl) ?_
  refine To.nil ?_
  refine To.thenN ?_
  refine To.block ?_
  refine To.sub [(0, .slice A sends.length cap), (1, .int .u8 latency), (5, .pointer (some ⟨n, 0, none⟩)), (7, .pointer (some ⟨a, 0, none⟩)), (8, .int .i64 ((0 : Nat) : Int)), (30, .slice A sends.length cap), (31, .int .i64 ((sends.length : Nat) : Int)), (32, .int .i64 ((0 : Nat) : Int))] ⟨rfl, rfl, rfl, rfl, rfl, rfl, rfl, rfl, trivial⟩ ?_
  refine To.only [1, 0, 0] rfl ?_
  refine To.as [box n (netC ((0 : Nat) : Int) ((0 : Nat) : Int) (.map (some r))) 104, agc a (.slice none 0 0) ([] : List En), ros encU A sends] rfl ?_
  refine To.loop (fun mz ρ Γ => ∃ (i : Nat) (c0 : Nat) (c1 : Nat) (v : Value) (L : List En) (T : Int), ρ = [(0, .slice A sends.length cap), (1, .int .u8 latency), (5, .pointer (some ⟨n, 0, none⟩)), (7, .pointer (some ⟨a, 0, none⟩)), (8, .int .i64 ((i : Nat) : Int)), (30, .slice A sends.length cap), (31, .int .i64 ((sends.length : Nat) : Int)), (32, .int .i64 ((i : Nat) : Int))] ∧ Γ = [box n (netC ((c0 : Nat) : Int) ((c1 : Nat) : Int) (.map (some r))) 104, agc a v L, ros encU A sends] ∧ mz = sends.length - i ∧ (i ≤ sends.length) ∧ (i ≤ 30) ∧ (c0 + c1 = i) ∧ (Msgs L c0 c1 T) ∧ (SortedE L) ∧ (0 ≤ T ∧ T ≤ ((i : Nat) : Int) / 4 + (1 + latency % 5))) (sends.length - 0) ⟨0, 0, 0, .slice none 0 0, ([] : List En), 0, rfl, rfl, rfl, (Nat.zero_le _), (by omega), rfl, Msgs.start, List.Pairwise.nil, (by omega)⟩ ?_
  rintro mz _ _ ⟨i, c0, c1, v, L, T, rfl, rfl, rfl, hi, h30, hcc, hM, hsL, hT⟩
  refine To.seq ?_
  refine To.reg ?_
  refine To.rd rfl rfl rfl (Rd.lss rfl rfl rfl) ?_
  refine To.nil ?_
  refine To.thenN ?_
  refine To.seq ?_
  refine To.condP rfl (fun c33 => ?_) (fun c33 => ?_)
  ·
    obtain ⟨sv, hs⟩ : ∃ y, sends[i]? = some y := ⟨sends[i]'(by omega), List.getElem?_eq_getElem _⟩
    have hsv := hu sv (List.mem_of_getElem? hs)
    refine To.skip ?_
    refine To.thenN ?_
    refine To.seq ?_
    refine To.block ?_
    refine To.seq ?_
    refine To.reg ?_
    refine To.rd rfl rfl rfl (Rd.move rfl rfl) ?_
    refine To.rd rfl rfl rfl (Rd.indexRos encU_ok (i := 2) (j := i) rfl rfl rfl s65 rfl hs) ?_
    refine To.rd rfl rfl rfl (Rd.load (i := 2) rfl rfl c5 rfl (gives_1 (ros_gives encU_ok hs) rfl)) ?_
    refine To.rd rfl rfl rfl (Rd.assign rfl rfl) ?_
    refine To.rd rfl rfl rfl (Rd.assign rfl rfl) ?_
    refine To.nil ?_
    refine To.thenN ?_
    refine To.seq ?_
    refine To.seq ?_
    refine To.reg ?_
    refine To.rd rfl rfl rfl (Rd.move rfl rfl) ?_
    refine To.rd rfl rfl rfl (Rd.eql rfl rfl rfl) ?_
    refine To.nil ?_
    refine To.thenN ?_
    refine To.condP rfl (fun c38 => ?_) (fun c38 => ?_)
    ·
      refine To.exit ?_
      refine To.thenX ?_
      refine To.blockY rfl ?_
      refine To.thenX ?_
      refine To.thenX ?_
      refine To.blockX ?_
      refine To.thenN ?_
      refine To.seq ?_
      refine To.reg ?_
      refine To.mk rfl rfl rfl (Mk.sliceN (us := [.int .i64 (-1), .int .i64 (-1)]) rfl s77 rfl rfl rfl rfl rfl rfl) ?_
      rintro _ _ ⟨b78, rfl, rfl⟩
      refine To.as [row 3 1 (some ⟨b78, 0, none⟩) 2 2 [.int .i64 (-1), .int .i64 (-1)], box n (netC ((c0 : Nat) : Int) ((c1 : Nat) : Int) (.map (some r))) 104, agc a v L, ros encU A sends] rfl ?_
      obtain ⟨A78, hA78⟩ : ∃ A78 : Option Addr, A78 = (some ⟨b78, 0, none⟩) := ⟨_, rfl⟩
      rw [← hA78]
      refine To.as [rows encI 3 1 A78 2 ([-1, -1] : List Int), box n (netC ((c0 : Nat) : Int) ((c1 : Nat) : Int) (.map (some r))) 104, agc a v L, ros encU A sends] rfl ?_
      refine To.rd rfl rfl rfl (Rd.assign rfl rfl) ?_
      refine To.nil ?_
      refine To.thenN ?_
      refine To.seq ?_
      refine To.reg ?_
      refine To.rd rfl rfl rfl (Rd.assign rfl rfl) ?_
      refine To.nil ?_
      refine To.thenN ?_
      refine To.seq ?_
      refine To.seq ?_
      refine To.reg ?_
      refine To.rd rfl rfl rfl (Rd.move rfl rfl) ?_
      refine To.call [2] rfl rfl rfl (Ent.fn rfl rfl ca13) rfl (take_fn a v L 1000 2 (by have := hM.len; omega) (fun e he => by have := (hM.each e he).2.2.1; omega)) ?_
      rintro _ _ ⟨Am, qm, M, v9, rfl, rfl, hTk⟩
      refine To.as [agc a v9 (L.filter fun x => !inTake 2 1000 x), rows En.icells 35 7 Am qm M, argsO M, rows encI 3 1 A78 2 ([-1, -1] : List Int), box n (netC ((c0 : Nat) : Int) ((c1 : Nat) : Int) (.map (some r))) 104, ros encU A sends] rfl ?_
      refine To.rd rfl rfl rfl (Rd.len rfl rfl Try.underlying31) ?_
      refine To.rd rfl rfl rfl (Rd.move rfl rfl) ?_
      refine To.nil ?_
      refine To.thenN ?_
      refine To.block ?_
      have hMM := hM.bare (all_taken hM (by omega) hTk)
      have hMl := hMM.len
      refine To.sub [(0, .slice A sends.length cap), (8, .int .i64 ((i : Nat) : Int)), (16, .slice A78 ([-1, -1] : List Int).length 2), (17, .int .i64 ((0 : Nat) : Int)), (80, .slice Am M.length qm), (81, .int .i64 ((M.length : Nat) : Int)), (82, .int .i64 ((0 : Nat) : Int))] ⟨rfl, rfl, rfl, rfl, rfl, rfl, rfl, trivial⟩ ?_
      refine To.only [3, 1, 1] rfl ?_
      refine To.as [rows encI 3 1 A78 2 ([-1, -1] : List Int), rows En.icells 35 7 Am qm M, argsO M] rfl ?_
      refine To.loop (fun mz ρ Γ => ∃ (j : Nat) (ls : List Int), ρ = [(0, .slice A sends.length cap), (8, .int .i64 ((i : Nat) : Int)), (16, .slice A78 ls.length 2), (17, .int .i64 ((j : Nat) : Int)), (80, .slice Am M.length qm), (81, .int .i64 ((M.length : Nat) : Int)), (82, .int .i64 ((j : Nat) : Int))] ∧ Γ = [rows encI 3 1 A78 2 ls, rows En.icells 35 7 Am qm M, argsO M] ∧ mz = M.length - j ∧ (j ≤ M.length) ∧ (Lasts M j ls)) (M.length - 0) ⟨0, ([-1, -1] : List Int), rfl, rfl, rfl, (Nat.zero_le _), ⟨rfl, fun q hq => by rcases (show q = 0 ∨ q = 1 by omega) with rfl | rfl <;> rfl⟩⟩ ?_
      rintro mz _ _ ⟨j, ls, rfl, rfl, rfl, hj, hls⟩
      refine To.seq ?_
      refine To.reg ?_
      refine To.rd rfl rfl rfl (Rd.lss rfl rfl rfl) ?_
      refine To.nil ?_
      refine To.thenN ?_
      refine To.seq ?_
      refine To.condP rfl (fun c83 => ?_) (fun c83 => ?_)
      ·
        obtain ⟨x, hx⟩ : ∃ y, M[j]? = some y := ⟨M[j]'(by omega), List.getElem?_eq_getElem _⟩
        obtain ⟨hxc, hx5, hxa, hxp, hxt⟩ := hMM.each x (List.mem_of_getElem? hx)
        obtain ⟨pn, hpn, hpl⟩ : ∃ pn : Nat, x.p = (pn : Int) ∧ pn < 2 := by exact hxp.elim (fun h => ⟨0, by simpa using h, by omega⟩) (fun h => ⟨1, by simpa using h, by omega⟩)
        have hlv := hls.2 pn hpl
        have hls1 := hls.1
        obtain ⟨lv, hlve⟩ : ∃ lv : Int, lv = (((M.take j).filter (peer pn)).length : Int) - 1 := ⟨_, rfl⟩
        rw [← hlve] at hlv
        have htl := take_len (M := M) j pn
        have hxn : x.n = lv + 1 := by
          rw [hlve]
          rcases (show pn = 0 ∨ pn = 1 by omega) with h | h
          · subst h; have := nth_peer hMM.p0 hx hpn; omega
          · subst h; have := nth_peer hMM.p1 hx hpn; omega
        refine To.skip ?_
        refine To.thenN ?_
        refine To.seq ?_
        refine To.block ?_
        refine To.seq ?_
        refine To.reg ?_
        refine To.rd rfl rfl rfl (Rd.indexRows (i := 1) (j := j) rfl rfl rfl s31 rfl hx) ?_
        refine To.rd rfl rfl rfl (Rd.loadS (i := 1) rfl rfl r35 rfl (rows_gives encIt hx) (encIt.len _)) ?_
        refine To.alloc rfl rfl rfl rfl z35 (fun b19 => ?_)
        refine To.up rfl rfl (Up.storeS (i := 0) rfl rfl rfl r35 rfl rfl rfl (box_takesAll rfl)) ?_
        refine To.nil ?_
        refine To.thenN ?_
        refine To.seq ?_
        refine To.seq ?_
        refine To.flow [] [⟨0, [], 0⟩, ⟨2, [], 0⟩, ⟨3, [], 0⟩, ⟨1, [], 1⟩, ⟨4, [], 1⟩, ⟨5, [], 1⟩, ⟨6, [], 1⟩, ⟨7, [], 0⟩, ⟨8, [], 0⟩, ⟨9, [], 0⟩, ⟨10, [], 0⟩, ⟨11, [], 1⟩, ⟨12, [], 0⟩, ⟨13, [], 0⟩, ⟨14, [], 0⟩] mixed (by kernel_rfl) (oks_nil _) ?_
        refine FlowS.free rfl rfl rfl rfl (Rd.field rfl rfl fl35_3) ?_
        refine FlowS.free rfl rfl rfl rfl (Rd.move rfl rfl) ?_
        refine FlowS.free rfl rfl rfl rfl (Rd.field rfl rfl fl35_2) ?_
        refine FlowS.rd rfl rfl rfl rfl (Rd.load (i := 0) rfl rfl c3 rfl (box_gives1 rfl)) ?_
        refine FlowS.rd rfl rfl rfl rfl (Rd.load (i := 0) rfl rfl c3 rfl (box_gives1 rfl)) ?_
        refine FlowS.rd rfl rfl rfl rfl (Rd.indexRowsI (i := 1) (j := pn) rfl rfl rfl hpn s77 rfl hlv) ?_
        refine FlowS.rd rfl rfl rfl rfl (Rd.load (i := 1) rfl rfl c3 rfl (gives_1 (rows_gives encI_ok hlv) rfl)) ?_
        refine FlowS.free rfl rfl rfl rfl (Rd.add64 rfl rfl rfl (by omega)) ?_
        refine FlowS.free rfl rfl rfl rfl (Rd.neq rfl rfl rfl) ?_
        refine FlowS.rdP rfl rfl rfl rfl (Rd.move rfl rfl) (fun g95 => ?_) (fun g95 => ?_)
        ·
          exact absurd hxn g95
        ·
          refine FlowS.free rfl rfl rfl rfl (Rd.field rfl rfl fl35_6) ?_
          refine FlowS.rd rfl rfl rfl rfl (Rd.load (i := 0) rfl rfl c28 rfl (box_gives1 rfl)) ?_
          refine FlowS.free rfl rfl rfl rfl (Rd.len rfl rfl Try.underlying28) ?_
          refine FlowS.free rfl rfl rfl rfl (Rd.neq rfl rfl rfl) ?_
          refine FlowS.free rfl rfl rfl rfl (Rd.pickF rfl rfl rfl) ?_
          refine FlowS.fin ?_
          refine To.as [box b19 [.int .u8 x.s, .int .i64 x.c, .int .i64 x.p, .int .i64 x.n, .int .i64 x.k, .int .i64 x.h, .slice x.A x.args.length x.cap] 35, rows encI 3 1 A78 2 ls, rows En.icells 35 7 Am qm M, argsO M] rfl ?_
          refine To.sub [(0, .slice A sends.length cap), (8, .int .i64 ((i : Nat) : Int)), (16, .slice A78 ls.length 2), (17, .int .i64 ((j : Nat) : Int)), (80, .slice Am M.length qm), (81, .int .i64 ((M.length : Nat) : Int)), (82, .int .i64 ((j : Nat) : Int)), (83, .bool (decide (((j : Nat) : Int) < ((M.length : Nat) : Int)))), (19, .pointer (some ⟨b19, 0, none⟩)), (100, .bool (decide (((x.args.length : Nat) : Int) ≠ 1)))] ⟨rfl, rfl, rfl, rfl, rfl, rfl, rfl, rfl, rfl, rfl, trivial⟩ ?_
          refine To.thenN ?_
          refine To.condP rfl (fun c100 => ?_) (fun c100 => ?_)
          ·
            exact absurd (by omega) c100
          ·
            refine To.skip ?_
            refine To.thenN ?_
            refine To.seq ?_
            refine To.reg ?_
            refine To.rd rfl rfl rfl (Rd.move rfl rfl) ?_
            refine To.rd rfl rfl rfl (Rd.field rfl rfl fl35_2) ?_
            refine To.rd rfl rfl rfl (Rd.load (i := 0) rfl rfl c3 rfl (box_gives1 rfl)) ?_
            refine To.rd rfl rfl rfl (Rd.field rfl rfl fl35_3) ?_
            refine To.rd rfl rfl rfl (Rd.load (i := 0) rfl rfl c3 rfl (box_gives1 rfl)) ?_
            refine To.rd rfl rfl rfl (Rd.indexRowsI (i := 1) (j := pn) rfl rfl rfl hpn s77 rfl hlv) ?_
            refine To.up rfl rfl (Up.store (i := 1) rfl rfl rfl c3 rfl rfl (rows_takes encI_ok (y := x.n) (by decide) (by omega))) ?_
            refine To.nil ?_
            refine To.thenN ?_
            refine To.reg ?_
            refine To.rd rfl rfl rfl (Rd.move rfl rfl) ?_
            refine To.rd rfl rfl rfl (Rd.inc rfl rfl rfl (by omega)) ?_
            refine To.rd rfl rfl rfl (Rd.assign rfl rfl) ?_
            refine To.nil ?_
            refine To.blockN ?_
            refine To.thenN ?_
            refine To.reg ?_
            refine To.rd rfl rfl rfl (Rd.inc rfl rfl rfl (by omega)) ?_
            refine To.rd rfl rfl rfl (Rd.move rfl rfl) ?_
            refine To.nil ?_
            refine To.thenN ?_
            refine To.sub [(0, .slice A sends.length cap), (8, .int .i64 ((i : Nat) : Int)), (16, .slice A78 (ls.set pn x.n).length 2), (17, .int .i64 (((j + 1) : Nat) : Int)), (80, .slice Am M.length qm), (81, .int .i64 ((M.length : Nat) : Int)), (82, .int .i64 (((j + 1) : Nat) : Int))] ⟨rfl, rfl, (by rw [List.length_set]; rfl), rfl, rfl, rfl, rfl, trivial⟩ ?_
            refine To.only [1, 1, 1] rfl ?_
            refine To.again (M.length - (j + 1)) (by omega) ⟨j + 1, ls.set pn x.n, rfl, rfl, rfl, (by omega), (hls.step hMM hx hpn hpl)⟩
      ·
        refine To.exit ?_
        refine To.thenX ?_
        refine To.thenX ?_
        refine To.blockX ?_
        refine To.thenN ?_
        refine To.seq ?_
        refine To.reg ?_
        refine To.rd rfl rfl rfl (Rd.move rfl rfl) ?_
        refine To.rd rfl rfl rfl (Rd.move rfl rfl) ?_
        refine To.rd rfl rfl rfl (Rd.eql rfl rfl rfl) ?_
        refine To.rdP rfl rfl rfl (Rd.move rfl rfl) (fun g113 => ?_) (fun g113 => ?_)
        ·
          refine To.rd rfl rfl rfl (Rd.move rfl rfl) ?_
          refine To.rd rfl rfl rfl (Rd.move rfl rfl) ?_
          refine To.rd rfl rfl rfl (Rd.len rfl rfl Try.underlying65) ?_
          refine To.rd rfl rfl rfl (Rd.minTake (l := sends) (n := 30) rfl rfl rfl) ?_
          refine To.rd rfl rfl rfl (Rd.eql rfl rfl rfl) ?_
          refine To.rd rfl rfl rfl (Rd.pickT rfl rfl rfl) ?_
          refine To.rd rfl rfl rfl (Rd.assign rfl rfl) ?_
          refine To.nil ?_
          refine To.thenN ?_
          refine To.ret ?_
          refine To.end1 (.inl rfl) Try.results10 rfl ?_
          rw [decide_eq_true (by rw [List.length_take]; omega)]
        ·
          exact absurd (by omega) g113
    ·
      refine To.skip ?_
      refine To.thenN ?_
      refine To.seq ?_
      refine To.reg ?_
      refine To.rd rfl rfl rfl (Rd.move rfl rfl) ?_
      refine To.rd rfl rfl rfl (Rd.rem rfl rfl rfl (by omega) (by omega)) ?_
      refine To.rd rfl rfl rfl (Rd.conv rfl rfl Try.underlying5 Try.underlying3 (IntWalk.i64_in _ (by omega))) ?_
      refine To.rd rfl rfl rfl (Rd.assign rfl rfl) ?_
      refine To.nil ?_
      refine To.thenN ?_
      refine To.seq ?_
      refine To.reg ?_
      refine To.rd rfl rfl rfl (Rd.move rfl rfl) ?_
      refine To.rd rfl rfl rfl (Rd.move rfl rfl) ?_
      refine To.rd rfl rfl rfl (Rd.move rfl rfl) ?_
      refine To.mk rfl rfl rfl (Mk.sliceN (us := [.int .i64 ((i : Nat) : Int)]) rfl s28 rfl rfl rfl rfl rfl rfl) ?_
      rintro _ _ ⟨b46, rfl, rfl⟩
      refine To.as [row 2 1 (some ⟨b46, 0, none⟩) 1 1 [.int .i64 ((i : Nat) : Int)], box n (netC ((c0 : Nat) : Int) ((c1 : Nat) : Int) (.map (some r))) 104, agc a v L, ros encU A sends] rfl ?_
      refine To.as [rows encI 2 1 (some ⟨b46, 0, none⟩) 1 [((i : Nat) : Int)], box n (netC ((c0 : Nat) : Int) ((c1 : Nat) : Int) (.map (some r))) 104, agc a v L, ros encU A sends] rfl ?_
      refine To.layRow ?_
      refine To.as [ros encI (some ⟨b46, 0, none⟩) [((i : Nat) : Int)], box n (netC ((c0 : Nat) : Int) ((c1 : Nat) : Int) (.map (some r))) 104, agc a v L, ros encU A sends] rfl ?_
      refine To.rd rfl rfl rfl (Rd.move rfl rfl) ?_
      refine To.rd rfl rfl rfl (Rd.quo64 rfl rfl rfl (by omega) (by omega) (by omega)) ?_
      refine To.rd rfl rfl rfl (Rd.move rfl rfl) ?_
      refine To.rd rfl rfl rfl (Rd.rem rfl rfl rfl (by omega) (by omega)) ?_
      refine To.rd rfl rfl rfl (Rd.conv rfl rfl Try.underlying5 Try.underlying3 (IntWalk.i64_in _ (by omega))) ?_
      refine To.rd rfl rfl rfl (Rd.add64 rfl rfl rfl (by omega)) ?_
      refine To.call [1, 0] rfl rfl rfl (Ent.fn rfl rfl ca30) rfl (send_fn n (sv % 2) c0 c1 (((i : Nat) : Int) / 4) (1 + latency % 5) (.map (some r)) (some ⟨b46, 0, none⟩) 1 [((i : Nat) : Int)] (by omega) (by simp) (by omega) (by omega) (by omega) (by omega)) ?_
      rintro _ _ ⟨A1, q1, A2, q2, rfl, rfl⟩
      refine To.as [box n (netC (if (sv % 2) = 0 then ((c0 : Nat) : Int) + 1 else ((c0 : Nat) : Int)) (if (sv % 2) = 0 then ((c1 : Nat) : Int) else ((c1 : Nat) : Int) + 1) (.map (some r))) 104, rows Arr.cells 76 3 A2 q2 [Arr.mk ((((i : Nat) : Int) / 4) + (1 + latency % 5)) 0 [((i : Nat) : Int)] A1 q1], rows encI 2 1 A1 q1 [((i : Nat) : Int)], agc a v L, ros encU A sends] rfl ?_
      refine To.rd rfl rfl rfl (Rd.move rfl rfl) ?_
      refine To.rd rfl rfl rfl (Rd.extract rfl rfl rfl) ?_
      refine To.rd rfl rfl rfl (Rd.extract rfl rfl rfl) ?_
      refine To.rd rfl rfl rfl (Rd.assign rfl rfl) ?_
      refine To.rd rfl rfl rfl (Rd.assign rfl rfl) ?_
      refine To.nil ?_
      refine To.sub [(0, .slice A sends.length cap), (1, .int .u8 latency), (5, .pointer (some ⟨n, 0, none⟩)), (7, .pointer (some ⟨a, 0, none⟩)), (8, .int .i64 ((i : Nat) : Int)), (30, .slice A sends.length cap), (31, .int .i64 ((sends.length : Nat) : Int)), (32, .int .i64 ((i : Nat) : Int)), (33, .bool (decide (((i : Nat) : Int) < ((sends.length : Nat) : Int)))), (9, .int .i64 ((i : Nat) : Int)), (10, .int .u8 sv), (38, .bool (decide (((i : Nat) : Int) = 30))), (11, .int .i64 (sv % 2)), (12, .int .i64 (if (sv % 2) = 0 then ((c0 : Nat) : Int) else ((c1 : Nat) : Int))), (13, .slice A2 1 q2)] ⟨rfl, rfl, rfl, rfl, rfl, rfl, rfl, rfl, rfl, rfl, rfl, rfl, rfl, rfl, rfl, trivial⟩ ?_
      refine To.thenN ?_
      refine To.seq ?_
      refine To.reg ?_
      refine To.rd rfl rfl rfl (Rd.move rfl rfl) ?_
      refine To.rd rfl rfl rfl (Rd.len rfl rfl Try.underlying72) ?_
      refine To.rd rfl rfl rfl (Rd.move rfl rfl) ?_
      refine To.nil ?_
      refine To.thenN ?_
      refine To.block ?_
      refine To.front 2 rfl ?_
      refine To.layRow ?_
      refine To.as [ro A1 (ints [((i : Nat) : Int)]), box n (netC (if (sv % 2) = 0 then ((c0 : Nat) : Int) + 1 else ((c0 : Nat) : Int)) (if (sv % 2) = 0 then ((c1 : Nat) : Int) else ((c1 : Nat) : Int) + 1) (.map (some r))) 104, rows Arr.cells 76 3 A2 q2 [Arr.mk ((((i : Nat) : Int) / 4) + (1 + latency % 5)) 0 [((i : Nat) : Int)] A1 q1], agc a v L, ros encU A sends] (by rw [ros, ints_flat]; rfl) ?_
      have hvalid : ∀ k : Nat, validE ((((i : Nat) : Int) / 4) + (1 + latency % 5)) 5 2 (sv % 2) (if (sv % 2) = 0 then ((c0 : Nat) : Int) else ((c1 : Nat) : Int)) (k : Int) 0 = true := fun k => by unfold validE; exact decide_eq_true (by split <;> omega)
      refine To.sub [(0, .slice A sends.length cap), (1, .int .u8 latency), (5, .pointer (some ⟨n, 0, none⟩)), (7, .pointer (some ⟨a, 0, none⟩)), (8, .int .i64 ((i + 0 : Nat) : Int)), (30, .slice A sends.length cap), (31, .int .i64 ((sends.length : Nat) : Int)), (32, .int .i64 ((i : Nat) : Int)), (11, .int .i64 (sv % 2)), (12, .int .i64 (if (sv % 2) = 0 then ((c0 : Nat) : Int) else ((c1 : Nat) : Int))), (56, .slice A2 1 q2), (57, .int .i64 ((1 : Nat) : Int)), (58, .int .i64 ((0 : Nat) : Int))] ⟨rfl, rfl, rfl, rfl, rfl, rfl, rfl, rfl, rfl, rfl, rfl, rfl, rfl, trivial⟩ ?_
      refine To.only [1, 2, 2, 1, 0] rfl ?_
      refine To.loop (fun mz ρ Γ => ∃ (k : Nat) (L1 : List En) (v1 : Value), ρ = [(0, .slice A sends.length cap), (1, .int .u8 latency), (5, .pointer (some ⟨n, 0, none⟩)), (7, .pointer (some ⟨a, 0, none⟩)), (8, .int .i64 ((i + k : Nat) : Int)), (30, .slice A sends.length cap), (31, .int .i64 ((sends.length : Nat) : Int)), (32, .int .i64 ((i : Nat) : Int)), (11, .int .i64 (sv % 2)), (12, .int .i64 (if (sv % 2) = 0 then ((c0 : Nat) : Int) else ((c1 : Nat) : Int))), (56, .slice A2 1 q2), (57, .int .i64 ((1 : Nat) : Int)), (58, .int .i64 ((k : Nat) : Int))] ∧ Γ = [box n (netC (if (sv % 2) = 0 then ((c0 : Nat) : Int) + 1 else ((c0 : Nat) : Int)) (if (sv % 2) = 0 then ((c1 : Nat) : Int) else ((c1 : Nat) : Int) + 1) (.map (some r))) 104, agc a v1 L1, ros encU A sends, rows Arr.cells 76 3 A2 q2 [Arr.mk ((((i : Nat) : Int) / 4) + (1 + latency % 5)) 0 [((i : Nat) : Int)] A1 q1], ro A1 (ints [((i : Nat) : Int)])] ∧ mz = 1 - k ∧ (k ≤ 1) ∧ (k = 0 → L1 = L) ∧ (k = 1 → ∃ kk Ao qo, L1 = insE (En.mk ((((i : Nat) : Int) / 4) + (1 + latency % 5)) 5 2 (sv % 2) (if (sv % 2) = 0 then ((c0 : Nat) : Int) else ((c1 : Nat) : Int)) kk 0 [((i : Nat) : Int)] Ao qo) L)) (1 - 0) ⟨0, L, v, rfl, rfl, rfl, (by omega), (fun _ => rfl), (fun h => absurd h (by omega))⟩ ?_
      rintro mz _ _ ⟨k, L1, v1, rfl, rfl, rfl, hk, h0, h1⟩
      refine To.seq ?_
      refine To.reg ?_
      refine To.rd rfl rfl rfl (Rd.lss rfl rfl rfl) ?_
      refine To.nil ?_
      refine To.thenN ?_
      refine To.seq ?_
      refine To.condP rfl (fun c59 => ?_) (fun c59 => ?_)
      ·
        have hk0 : k = 0 := by omega
        have hk1 : [Arr.mk ((((i : Nat) : Int) / 4) + (1 + latency % 5)) 0 [((i : Nat) : Int)] A1 q1][k]? = some (Arr.mk ((((i : Nat) : Int) / 4) + (1 + latency % 5)) 0 [((i : Nat) : Int)] A1 q1) := by rw [hk0]; rfl
        refine To.skip ?_
        refine To.thenN ?_
        refine To.seq ?_
        refine To.block ?_
        refine To.seq ?_
        refine To.reg ?_
        refine To.rd rfl rfl rfl (Rd.move rfl rfl) ?_
        refine To.rd rfl rfl rfl (Rd.indexRows (i := 3) (j := k) rfl rfl rfl s72 rfl hk1) ?_
        refine To.rd rfl rfl rfl (Rd.loadS (i := 3) rfl rfl r76 rfl (rows_gives encAr hk1) (encAr.len _)) ?_
        refine To.alloc rfl rfl rfl rfl z76 (fun b15 => ?_)
        refine To.rd rfl rfl rfl (Rd.assign rfl rfl) ?_
        refine To.up rfl rfl (Up.storeS (i := 0) rfl rfl rfl r76 rfl rfl rfl (box_takesAll rfl)) ?_
        refine To.nil ?_
        refine To.thenN ?_
        refine To.seq ?_
        refine To.seq ?_
        refine To.dup 5 rfl rfl ?_
        refine To.reg ?_
        refine To.rd rfl rfl rfl (Rd.move rfl rfl) ?_
        refine To.rd rfl rfl rfl (Rd.field rfl rfl fl76_0) ?_
        refine To.rd rfl rfl rfl (Rd.load (i := 1) rfl rfl c3 rfl (box_gives1 rfl)) ?_
        refine To.rd rfl rfl rfl (Rd.move rfl rfl) ?_
        refine To.rd rfl rfl rfl (Rd.move rfl rfl) ?_
        refine To.rd rfl rfl rfl (Rd.move rfl rfl) ?_
        refine To.rd rfl rfl rfl (Rd.field rfl rfl fl76_2) ?_
        refine To.rd rfl rfl rfl (Rd.load (i := 1) rfl rfl c28 rfl (box_gives1 rfl)) ?_
        refine To.rd rfl rfl rfl (Rd.build (vs := [(0, .int .u8 5), (1, .int .i64 2), (2, .int .i64 (sv % 2)), (3, .int .i64 (if (sv % 2) = 0 then ((c0 : Nat) : Int) else ((c1 : Nat) : Int))), (4, .int .i64 ((k : Nat) : Int)), (6, .slice ((Arr.mk ((((i : Nat) : Int) / 4) + (1 + latency % 5)) 0 [((i : Nat) : Int)] A1 q1).A) ((Arr.mk ((((i : Nat) : Int) / 4) + (1 + latency % 5)) 0 [((i : Nat) : Int)] A1 q1).args.length) ((Arr.mk ((((i : Nat) : Int) / 4) + (1 + latency % 5)) 0 [((i : Nat) : Int)] A1 q1).cap))]) (cells := [.int .u8 5, .int .i64 2, .int .i64 (sv % 2), .int .i64 (if (sv % 2) = 0 then ((c0 : Nat) : Int) else ((c1 : Nat) : Int)), .int .i64 ((k : Nat) : Int), .int .i64 0, .slice ((Arr.mk ((((i : Nat) : Int) / 4) + (1 + latency % 5)) 0 [((i : Nat) : Int)] A1 q1).A) ((Arr.mk ((((i : Nat) : Int) / 4) + (1 + latency % 5)) 0 [((i : Nat) : Int)] A1 q1).args.length) ((Arr.mk ((((i : Nat) : Int) / 4) + (1 + latency % 5)) 0 [((i : Nat) : Int)] A1 q1).cap)]) rfl rfl rfl (by kernel_rfl)) ?_
        refine To.call [3, 0] rfl rfl rfl (Ent.fn rfl rfl ca18) rfl (add_fn a v1 L1 (En.mk ((((i : Nat) : Int) / 4) + (1 + latency % 5)) 5 2 (sv % 2) (if (sv % 2) = 0 then ((c0 : Nat) : Int) else ((c1 : Nat) : Int)) ((k : Nat) : Int) 0 [((i : Nat) : Int)] A1 q1) (by have := h0 hk0; rw [this]; have := hM.len; omega) (by simp) (hvalid k)) ?_
        rintro _ _ ⟨Ao, qo, v2, rfl, rfl⟩
        refine To.as [agc a v2 (insE { En.mk ((((i : Nat) : Int) / 4) + (1 + latency % 5)) 5 2 (sv % 2) (if (sv % 2) = 0 then ((c0 : Nat) : Int) else ((c1 : Nat) : Int)) ((k : Nat) : Int) 0 [((i : Nat) : Int)] A1 q1 with A := Ao, cap := qo } L1), box b15 [.int .i64 ((Arr.mk ((((i : Nat) : Int) / 4) + (1 + latency % 5)) 0 [((i : Nat) : Int)] A1 q1).at_), .int .i64 ((Arr.mk ((((i : Nat) : Int) / 4) + (1 + latency % 5)) 0 [((i : Nat) : Int)] A1 q1).h), .slice ((Arr.mk ((((i : Nat) : Int) / 4) + (1 + latency % 5)) 0 [((i : Nat) : Int)] A1 q1).A) ((Arr.mk ((((i : Nat) : Int) / 4) + (1 + latency % 5)) 0 [((i : Nat) : Int)] A1 q1).args.length) ((Arr.mk ((((i : Nat) : Int) / 4) + (1 + latency % 5)) 0 [((i : Nat) : Int)] A1 q1).cap)] 76, box n (netC (if (sv % 2) = 0 then ((c0 : Nat) : Int) + 1 else ((c0 : Nat) : Int)) (if (sv % 2) = 0 then ((c1 : Nat) : Int) else ((c1 : Nat) : Int) + 1) (.map (some r))) 104, ros encU A sends, rows Arr.cells 76 3 A2 q2 [Arr.mk ((((i : Nat) : Int) / 4) + (1 + latency % 5)) 0 [((i : Nat) : Int)] A1 q1], ro A1 (ints [((i : Nat) : Int)])] rfl ?_
        refine To.rd rfl rfl rfl (Rd.neq rfl rfl rfl) ?_
        refine To.nil ?_
        refine To.sub [(0, .slice A sends.length cap), (1, .int .u8 latency), (5, .pointer (some ⟨n, 0, none⟩)), (7, .pointer (some ⟨a, 0, none⟩)), (8, .int .i64 ((i + k : Nat) : Int)), (30, .slice A sends.length cap), (31, .int .i64 ((sends.length : Nat) : Int)), (32, .int .i64 ((i : Nat) : Int)), (11, .int .i64 (sv % 2)), (12, .int .i64 (if (sv % 2) = 0 then ((c0 : Nat) : Int) else ((c1 : Nat) : Int))), (56, .slice A2 1 q2), (57, .int .i64 ((1 : Nat) : Int)), (58, .int .i64 ((k : Nat) : Int)), (59, .bool (decide (((k : Nat) : Int) < ((1 : Nat) : Int)))), (15, .pointer (some ⟨b15, 0, none⟩)), (14, .int .i64 ((k : Nat) : Int)), (73, .bool false)] ⟨rfl, rfl, rfl, rfl, rfl, rfl, rfl, rfl, rfl, rfl, rfl, rfl, rfl, rfl, rfl, rfl, rfl, trivial⟩ ?_
        refine To.thenN ?_
        refine To.condF rfl ?_
        refine To.skip ?_
        refine To.thenN ?_
        refine To.reg ?_
        refine To.rd rfl rfl rfl (Rd.move rfl rfl) ?_
        refine To.rd rfl rfl rfl (Rd.inc rfl rfl rfl (by omega)) ?_
        refine To.rd rfl rfl rfl (Rd.assign rfl rfl) ?_
        refine To.nil ?_
        refine To.blockN ?_
        refine To.thenN ?_
        refine To.reg ?_
        refine To.rd rfl rfl rfl (Rd.inc rfl rfl rfl (by omega)) ?_
        refine To.rd rfl rfl rfl (Rd.move rfl rfl) ?_
        refine To.nil ?_
        refine To.thenN ?_
        refine To.sub [(0, .slice A sends.length cap), (1, .int .u8 latency), (5, .pointer (some ⟨n, 0, none⟩)), (7, .pointer (some ⟨a, 0, none⟩)), (8, .int .i64 ((i + (k + 1) : Nat) : Int)), (30, .slice A sends.length cap), (31, .int .i64 ((sends.length : Nat) : Int)), (32, .int .i64 ((i : Nat) : Int)), (11, .int .i64 (sv % 2)), (12, .int .i64 (if (sv % 2) = 0 then ((c0 : Nat) : Int) else ((c1 : Nat) : Int))), (56, .slice A2 1 q2), (57, .int .i64 ((1 : Nat) : Int)), (58, .int .i64 (((k + 1) : Nat) : Int))] ⟨rfl, rfl, rfl, rfl, rfl, rfl, rfl, rfl, rfl, rfl, rfl, rfl, rfl, trivial⟩ ?_
        refine To.only [2, 0, 1, 1, 1] rfl ?_
        refine To.again (1 - (k + 1)) (by omega) ⟨k + 1, (insE { En.mk ((((i : Nat) : Int) / 4) + (1 + latency % 5)) 5 2 (sv % 2) (if (sv % 2) = 0 then ((c0 : Nat) : Int) else ((c1 : Nat) : Int)) ((k : Nat) : Int) 0 [((i : Nat) : Int)] A1 q1 with A := Ao, cap := qo } L1), v2, rfl, rfl, rfl, (by omega), (fun h => absurd h (by omega)), (fun _ => ⟨_, Ao, qo, by rw [h0 hk0]⟩)⟩
      ·
        have hk1 : k = 1 := by omega
        obtain ⟨kk, Ao, qo, hL1⟩ := h1 hk1
        have hM2 : Msgs L1 (if (sv % 2) = 0 then c0 + 1 else c0) (if (sv % 2) = 0 then c1 else c1 + 1) ((((i : Nat) : Int) / 4) + (1 + latency % 5)) := by rw [hL1]; exact hM.add hsL (En.mk ((((i : Nat) : Int) / 4) + (1 + latency % 5)) 5 2 (sv % 2) (if (sv % 2) = 0 then ((c0 : Nat) : Int) else ((c1 : Nat) : Int)) kk 0 [((i : Nat) : Int)] Ao qo) rfl rfl rfl (by show (sv % 2) = 0 ∨ (sv % 2) = 1; omega) (by show T ≤ (((i : Nat) : Int) / 4) + (1 + latency % 5); omega) rfl
        have hsL2 : SortedE L1 := by rw [hL1]; exact insE_sorted hsL
        refine To.exit ?_
        refine To.thenX ?_
        refine To.thenX ?_
        refine To.blockX ?_
        refine To.blockN ?_
        refine To.thenN ?_
        refine To.reg ?_
        refine To.rd rfl rfl rfl (Rd.inc rfl rfl rfl (by omega)) ?_
        refine To.rd rfl rfl rfl (Rd.move rfl rfl) ?_
        refine To.nil ?_
        refine To.thenN ?_
        refine To.sub [(0, .slice A sends.length cap), (1, .int .u8 latency), (5, .pointer (some ⟨n, 0, none⟩)), (7, .pointer (some ⟨a, 0, none⟩)), (8, .int .i64 (((i + 1) : Nat) : Int)), (30, .slice A sends.length cap), (31, .int .i64 ((sends.length : Nat) : Int)), (32, .int .i64 (((i + 1) : Nat) : Int))] ⟨rfl, rfl, rfl, rfl, (by rw [hk1]; rfl), rfl, rfl, rfl, trivial⟩ ?_
        refine To.only [0, 0, 0] rfl ?_
        refine To.as [box n (netC (((if (sv % 2) = 0 then c0 + 1 else c0) : Nat) : Int) (((if (sv % 2) = 0 then c1 else c1 + 1) : Nat) : Int) (.map (some r))) 104, agc a v1 L1, ros encU A sends] (by rw [net_cast]) ?_
        refine To.again (sends.length - (i + 1)) (by omega) ⟨i + 1, (if (sv % 2) = 0 then c0 + 1 else c0), (if (sv % 2) = 0 then c1 else c1 + 1), v1, L1, ((((i : Nat) : Int) / 4) + (1 + latency % 5)), rfl, rfl, rfl, (by omega), (by omega), (by split <;> omega), hM2, hsL2, (by omega)⟩
  ·
    refine To.exit ?_
    refine To.thenX ?_
    refine To.thenX ?_
    refine To.blockX ?_
    refine To.thenN ?_
    refine To.seq ?_
    refine To.reg ?_
    refine To.mk rfl rfl rfl (Mk.sliceN (us := [.int .i64 (-1), .int .i64 (-1)]) rfl s77 rfl rfl rfl rfl rfl rfl) ?_
    rintro _ _ ⟨b78_2, rfl, rfl⟩
    refine To.as [row 3 1 (some ⟨b78_2, 0, none⟩) 2 2 [.int .i64 (-1), .int .i64 (-1)], box n (netC ((c0 : Nat) : Int) ((c1 : Nat) : Int) (.map (some r))) 104, agc a v L, ros encU A sends] rfl ?_
    obtain ⟨A78, hA78⟩ : ∃ A78 : Option Addr, A78 = (some ⟨b78_2, 0, none⟩) := ⟨_, rfl⟩
    rw [← hA78]
    refine To.as [rows encI 3 1 A78 2 ([-1, -1] : List Int), box n (netC ((c0 : Nat) : Int) ((c1 : Nat) : Int) (.map (some r))) 104, agc a v L, ros encU A sends] rfl ?_
    refine To.rd rfl rfl rfl (Rd.assign rfl rfl) ?_
    refine To.nil ?_
    refine To.thenN ?_
    refine To.seq ?_
    refine To.reg ?_
    refine To.rd rfl rfl rfl (Rd.assign rfl rfl) ?_
    refine To.nil ?_
    refine To.thenN ?_
    refine To.seq ?_
    refine To.seq ?_
    refine To.reg ?_
    refine To.rd rfl rfl rfl (Rd.move rfl rfl) ?_
    refine To.call [2] rfl rfl rfl (Ent.fn rfl rfl ca13) rfl (take_fn a v L 1000 2 (by have := hM.len; omega) (fun e he => by have := (hM.each e he).2.2.1; omega)) ?_
    rintro _ _ ⟨Am, qm, M, v9, rfl, rfl, hTk⟩
    refine To.as [agc a v9 (L.filter fun x => !inTake 2 1000 x), rows En.icells 35 7 Am qm M, argsO M, rows encI 3 1 A78 2 ([-1, -1] : List Int), box n (netC ((c0 : Nat) : Int) ((c1 : Nat) : Int) (.map (some r))) 104, ros encU A sends] rfl ?_
    refine To.rd rfl rfl rfl (Rd.len rfl rfl Try.underlying31) ?_
    refine To.rd rfl rfl rfl (Rd.move rfl rfl) ?_
    refine To.nil ?_
    refine To.thenN ?_
    refine To.block ?_
    have hMM := hM.bare (all_taken hM (by omega) hTk)
    have hMl := hMM.len
    refine To.sub [(0, .slice A sends.length cap), (8, .int .i64 ((i : Nat) : Int)), (16, .slice A78 ([-1, -1] : List Int).length 2), (17, .int .i64 ((0 : Nat) : Int)), (80, .slice Am M.length qm), (81, .int .i64 ((M.length : Nat) : Int)), (82, .int .i64 ((0 : Nat) : Int))] ⟨rfl, rfl, rfl, rfl, rfl, rfl, rfl, trivial⟩ ?_
    refine To.only [3, 1, 1] rfl ?_
    refine To.as [rows encI 3 1 A78 2 ([-1, -1] : List Int), rows En.icells 35 7 Am qm M, argsO M] rfl ?_
    refine To.loop (fun mz ρ Γ => ∃ (j : Nat) (ls : List Int), ρ = [(0, .slice A sends.length cap), (8, .int .i64 ((i : Nat) : Int)), (16, .slice A78 ls.length 2), (17, .int .i64 ((j : Nat) : Int)), (80, .slice Am M.length qm), (81, .int .i64 ((M.length : Nat) : Int)), (82, .int .i64 ((j : Nat) : Int))] ∧ Γ = [rows encI 3 1 A78 2 ls, rows En.icells 35 7 Am qm M, argsO M] ∧ mz = M.length - j ∧ (j ≤ M.length) ∧ (Lasts M j ls)) (M.length - 0) ⟨0, ([-1, -1] : List Int), rfl, rfl, rfl, (Nat.zero_le _), ⟨rfl, fun q hq => by rcases (show q = 0 ∨ q = 1 by omega) with rfl | rfl <;> rfl⟩⟩ ?_
    rintro mz _ _ ⟨j, ls, rfl, rfl, rfl, hj, hls⟩
    refine To.seq ?_
    refine To.reg ?_
    refine To.rd rfl rfl rfl (Rd.lss rfl rfl rfl) ?_
    refine To.nil ?_
    refine To.thenN ?_
    refine To.seq ?_
    refine To.condP rfl (fun c83 => ?_) (fun c83 => ?_)
    ·
      obtain ⟨x, hx⟩ : ∃ y, M[j]? = some y := ⟨M[j]'(by omega), List.getElem?_eq_getElem _⟩
      obtain ⟨hxc, hx5, hxa, hxp, hxt⟩ := hMM.each x (List.mem_of_getElem? hx)
      obtain ⟨pn, hpn, hpl⟩ : ∃ pn : Nat, x.p = (pn : Int) ∧ pn < 2 := by exact hxp.elim (fun h => ⟨0, by simpa using h, by omega⟩) (fun h => ⟨1, by simpa using h, by omega⟩)
      have hlv := hls.2 pn hpl
      have hls1 := hls.1
      obtain ⟨lv, hlve⟩ : ∃ lv : Int, lv = (((M.take j).filter (peer pn)).length : Int) - 1 := ⟨_, rfl⟩
      rw [← hlve] at hlv
      have htl := take_len (M := M) j pn
      have hxn : x.n = lv + 1 := by
        rw [hlve]
        rcases (show pn = 0 ∨ pn = 1 by omega) with h | h
        · subst h; have := nth_peer hMM.p0 hx hpn; omega
        · subst h; have := nth_peer hMM.p1 hx hpn; omega
      refine To.skip ?_
      refine To.thenN ?_
      refine To.seq ?_
      refine To.block ?_
      refine To.seq ?_
      refine To.reg ?_
      refine To.rd rfl rfl rfl (Rd.indexRows (i := 1) (j := j) rfl rfl rfl s31 rfl hx) ?_
      refine To.rd rfl rfl rfl (Rd.loadS (i := 1) rfl rfl r35 rfl (rows_gives encIt hx) (encIt.len _)) ?_
      refine To.alloc rfl rfl rfl rfl z35 (fun b19_2 => ?_)
      refine To.up rfl rfl (Up.storeS (i := 0) rfl rfl rfl r35 rfl rfl rfl (box_takesAll rfl)) ?_
      refine To.nil ?_
      refine To.thenN ?_
      refine To.seq ?_
      refine To.seq ?_
      refine To.flow [] [⟨0, [], 0⟩, ⟨2, [], 0⟩, ⟨3, [], 0⟩, ⟨1, [], 1⟩, ⟨4, [], 1⟩, ⟨5, [], 1⟩, ⟨6, [], 1⟩, ⟨7, [], 0⟩, ⟨8, [], 0⟩, ⟨9, [], 0⟩, ⟨10, [], 0⟩, ⟨11, [], 1⟩, ⟨12, [], 0⟩, ⟨13, [], 0⟩, ⟨14, [], 0⟩] mixed (by kernel_rfl) (oks_nil _) ?_
      refine FlowS.free rfl rfl rfl rfl (Rd.field rfl rfl fl35_3) ?_
      refine FlowS.free rfl rfl rfl rfl (Rd.move rfl rfl) ?_
      refine FlowS.free rfl rfl rfl rfl (Rd.field rfl rfl fl35_2) ?_
      refine FlowS.rd rfl rfl rfl rfl (Rd.load (i := 0) rfl rfl c3 rfl (box_gives1 rfl)) ?_
      refine FlowS.rd rfl rfl rfl rfl (Rd.load (i := 0) rfl rfl c3 rfl (box_gives1 rfl)) ?_
      refine FlowS.rd rfl rfl rfl rfl (Rd.indexRowsI (i := 1) (j := pn) rfl rfl rfl hpn s77 rfl hlv) ?_
      refine FlowS.rd rfl rfl rfl rfl (Rd.load (i := 1) rfl rfl c3 rfl (gives_1 (rows_gives encI_ok hlv) rfl)) ?_
      refine FlowS.free rfl rfl rfl rfl (Rd.add64 rfl rfl rfl (by omega)) ?_
      refine FlowS.free rfl rfl rfl rfl (Rd.neq rfl rfl rfl) ?_
      refine FlowS.rdP rfl rfl rfl rfl (Rd.move rfl rfl) (fun g95 => ?_) (fun g95 => ?_)
      ·
        exact absurd hxn g95
      ·
        refine FlowS.free rfl rfl rfl rfl (Rd.field rfl rfl fl35_6) ?_
        refine FlowS.rd rfl rfl rfl rfl (Rd.load (i := 0) rfl rfl c28 rfl (box_gives1 rfl)) ?_
        refine FlowS.free rfl rfl rfl rfl (Rd.len rfl rfl Try.underlying28) ?_
        refine FlowS.free rfl rfl rfl rfl (Rd.neq rfl rfl rfl) ?_
        refine FlowS.free rfl rfl rfl rfl (Rd.pickF rfl rfl rfl) ?_
        refine FlowS.fin ?_
        refine To.as [box b19_2 [.int .u8 x.s, .int .i64 x.c, .int .i64 x.p, .int .i64 x.n, .int .i64 x.k, .int .i64 x.h, .slice x.A x.args.length x.cap] 35, rows encI 3 1 A78 2 ls, rows En.icells 35 7 Am qm M, argsO M] rfl ?_
        refine To.sub [(0, .slice A sends.length cap), (8, .int .i64 ((i : Nat) : Int)), (16, .slice A78 ls.length 2), (17, .int .i64 ((j : Nat) : Int)), (80, .slice Am M.length qm), (81, .int .i64 ((M.length : Nat) : Int)), (82, .int .i64 ((j : Nat) : Int)), (83, .bool (decide (((j : Nat) : Int) < ((M.length : Nat) : Int)))), (19, .pointer (some ⟨b19_2, 0, none⟩)), (100, .bool (decide (((x.args.length : Nat) : Int) ≠ 1)))] ⟨rfl, rfl, rfl, rfl, rfl, rfl, rfl, rfl, rfl, rfl, trivial⟩ ?_
        refine To.thenN ?_
        refine To.condP rfl (fun c100 => ?_) (fun c100 => ?_)
        ·
          exact absurd (by omega) c100
        ·
          refine To.skip ?_
          refine To.thenN ?_
          refine To.seq ?_
          refine To.reg ?_
          refine To.rd rfl rfl rfl (Rd.move rfl rfl) ?_
          refine To.rd rfl rfl rfl (Rd.field rfl rfl fl35_2) ?_
          refine To.rd rfl rfl rfl (Rd.load (i := 0) rfl rfl c3 rfl (box_gives1 rfl)) ?_
          refine To.rd rfl rfl rfl (Rd.field rfl rfl fl35_3) ?_
          refine To.rd rfl rfl rfl (Rd.load (i := 0) rfl rfl c3 rfl (box_gives1 rfl)) ?_
          refine To.rd rfl rfl rfl (Rd.indexRowsI (i := 1) (j := pn) rfl rfl rfl hpn s77 rfl hlv) ?_
          refine To.up rfl rfl (Up.store (i := 1) rfl rfl rfl c3 rfl rfl (rows_takes encI_ok (y := x.n) (by decide) (by omega))) ?_
          refine To.nil ?_
          refine To.thenN ?_
          refine To.reg ?_
          refine To.rd rfl rfl rfl (Rd.move rfl rfl) ?_
          refine To.rd rfl rfl rfl (Rd.inc rfl rfl rfl (by omega)) ?_
          refine To.rd rfl rfl rfl (Rd.assign rfl rfl) ?_
          refine To.nil ?_
          refine To.blockN ?_
          refine To.thenN ?_
          refine To.reg ?_
          refine To.rd rfl rfl rfl (Rd.inc rfl rfl rfl (by omega)) ?_
          refine To.rd rfl rfl rfl (Rd.move rfl rfl) ?_
          refine To.nil ?_
          refine To.thenN ?_
          refine To.sub [(0, .slice A sends.length cap), (8, .int .i64 ((i : Nat) : Int)), (16, .slice A78 (ls.set pn x.n).length 2), (17, .int .i64 (((j + 1) : Nat) : Int)), (80, .slice Am M.length qm), (81, .int .i64 ((M.length : Nat) : Int)), (82, .int .i64 (((j + 1) : Nat) : Int))] ⟨rfl, rfl, (by rw [List.length_set]; rfl), rfl, rfl, rfl, rfl, trivial⟩ ?_
          refine To.only [1, 1, 1] rfl ?_
          refine To.again (M.length - (j + 1)) (by omega) ⟨j + 1, ls.set pn x.n, rfl, rfl, rfl, (by omega), (hls.step hMM hx hpn hpl)⟩
    ·
      refine To.exit ?_
      refine To.thenX ?_
      refine To.thenX ?_
      refine To.blockX ?_
      refine To.thenN ?_
      refine To.seq ?_
      refine To.reg ?_
      refine To.rd rfl rfl rfl (Rd.move rfl rfl) ?_
      refine To.rd rfl rfl rfl (Rd.move rfl rfl) ?_
      refine To.rd rfl rfl rfl (Rd.eql rfl rfl rfl) ?_
      refine To.rdP rfl rfl rfl (Rd.move rfl rfl) (fun g113 => ?_) (fun g113 => ?_)
      ·
        refine To.rd rfl rfl rfl (Rd.move rfl rfl) ?_
        refine To.rd rfl rfl rfl (Rd.move rfl rfl) ?_
        refine To.rd rfl rfl rfl (Rd.len rfl rfl Try.underlying65) ?_
        refine To.rd rfl rfl rfl (Rd.minTake (l := sends) (n := 30) rfl rfl rfl) ?_
        refine To.rd rfl rfl rfl (Rd.eql rfl rfl rfl) ?_
        refine To.rd rfl rfl rfl (Rd.pickT rfl rfl rfl) ?_
        refine To.rd rfl rfl rfl (Rd.assign rfl rfl) ?_
        refine To.nil ?_
        refine To.thenN ?_
        refine To.ret ?_
        refine To.end1 (.inl rfl) Try.results10 rfl ?_
        rw [decide_eq_true (by rw [List.length_take]; omega)]
      ·
        exact absurd (by omega) g113
end Go.Proofs.Ytnamppkicefbjaa
