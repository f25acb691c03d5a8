/- The walk of newSearch. Own text (walks printed by sx.py). -/
import Derived.Test.YtneimfacccgaeaaV36
namespace Go.Proofs.Ytneimfacccgaeaa
open Go.RowKit Go.Flow Go.Mem Go.Sep
set_option maxHeartbeats 2000000 in
set_option maxRecDepth 100000 in
theorem search_fn (Al : Option Addr) (cl : Nat) (l : List Ev) (hl : l.length ≤ 1000000) :
    Does Try.prog 46 [.slice Al l.length cl] [ros Ev.cells Al l] (fun v Γ' => ∃ (bs bv : Nat) (Ac Ak Au At Af : Option Addr) (qc qk qu qt qf : Nat) (ch : List Nat) (K : List Sn) (af : List Int), SD l ch (K.map Sn.l) af ∧ v = .pointer (some ⟨bs, 0, none⟩) ∧ Γ' = [box bs [.slice none (([] : List Nat).length) 0, .slice Ac ch.length qc, .slice Ak K.length qk, .slice Au ((usedU (K.map Sn.l) ([] : List Nat)).length) qu, .slice At ((thereU l.length ([] : List Nat)).length) qt, .slice Af af.length qf, .func (.func 56) #[] #[.pointer (some ⟨bv, 0, none⟩)], .func (.func 57) #[] #[.pointer (some ⟨bv, 0, none⟩)]] 79, rows encM 3 1 none 0 ([] : List Nat), rows encM 3 1 Au qu (usedU (K.map Sn.l) ([] : List Nat)), rows encT 4 1 At qt (thereU l.length ([] : List Nat)), ros encM Ac ch, ros Sn.cells Ak K, natsS (K.map Sn.ar), ros encI Af af, ro (some ⟨bv, 0, none⟩) [.pointer (some ⟨bs, 0, none⟩)]]) := by
  refine Does.enter Try.func46 rfl Try.ntmps46 rfl (fun w0 => ?_)
  refine To.seq ?_
  refine To.reg ?_
  refine To.rd rfl rfl rfl (Rd.assign rfl rfl) ?_
  refine To.nil ?_
  refine To.thenN ?_
  refine To.seq ?_
  refine To.flow [] [⟨0, [], 0⟩, ⟨1, [], 0⟩, ⟨3, [], 0⟩, ⟨4, [], 0⟩, ⟨6, [], 0⟩, ⟨7, [], 0⟩, ⟨2, [], 2⟩, ⟨5, [], 2⟩, ⟨8, [], 2⟩, ⟨9, [2, 5, 8], 0⟩, ⟨10, [2, 5, 8], 2⟩, ⟨11, [], 2⟩, ⟨12, [2, 5, 8, 10, 11], 5⟩] mixed (by kernel_rfl) (oks_nil _) ?_
  refine FlowS.free rfl rfl rfl rfl (Rd.move rfl rfl) ?_
  refine FlowS.free rfl rfl rfl rfl (Rd.len rfl rfl Try.underlying22) ?_
  refine FlowS.free rfl rfl rfl rfl (Rd.move rfl rfl) ?_
  refine FlowS.free rfl rfl rfl rfl (Rd.len rfl rfl Try.underlying22) ?_
  refine FlowS.free rfl rfl rfl rfl (Rd.move rfl rfl) ?_
  refine FlowS.free rfl rfl rfl rfl (Rd.len rfl rfl Try.underlying22) ?_
  refine FlowS.mk rfl rfl rfl rfl rfl (Mk.makeRows (enc := encM) (z := 0) (n := l.length) rfl rfl s62 rfl rfl (by omega) (by simp only [maxLen]; omega)) ?_
  rintro _ _ ⟨b19, rfl, rfl⟩
  refine FlowS.mk rfl rfl rfl rfl rfl (Mk.makeRows (enc := encT) (z := false) (n := l.length) rfl rfl s75 rfl rfl (by omega) (by simp only [maxLen]; omega)) ?_
  rintro _ _ ⟨b22, rfl, rfl⟩
  refine FlowS.mk rfl rfl rfl rfl rfl (Mk.makeRows (enc := encI) (z := (0 : Int)) (n := l.length) rfl rfl s62 rfl rfl (by omega) (by simp only [maxLen]; omega)) ?_
  rintro _ _ ⟨b25, rfl, rfl⟩
  refine FlowS.free rfl rfl rfl rfl (Rd.build (vs := [(1, .slice (some ⟨b19, 0, none⟩) ((List.replicate l.length 0).length) l.length), (4, .slice (some ⟨b22, 0, none⟩) ((List.replicate l.length false).length) l.length), (5, .slice (some ⟨b25, 0, none⟩) ((List.replicate l.length (0 : Int)).length) l.length)]) (cells := [.slice none 0 0, .slice (some ⟨b19, 0, none⟩) ((List.replicate l.length 0).length) l.length, .slice none 0 0, .slice none 0 0, .slice (some ⟨b22, 0, none⟩) ((List.replicate l.length false).length) l.length, .slice (some ⟨b25, 0, none⟩) ((List.replicate l.length (0 : Int)).length) l.length, .nilFunc, .nilFunc]) rfl rfl rfl (by kernel_rfl)) ?_
  refine FlowS.mk rfl rfl rfl rfl rfl (Mk.box rfl rfl rfl) ?_
  rintro _ _ ⟨b27, rfl, rfl⟩
  refine FlowS.mk rfl rfl rfl rfl rfl (Mk.alloc rfl z73) ?_
  rintro _ _ ⟨b3, rfl, rfl⟩
  refine FlowS.up (Γ' := [box b3 [.pointer (some ⟨b27, 0, none⟩)] 73, box b27 [.slice none 0 0, .slice (some ⟨b19, 0, none⟩) ((List.replicate l.length 0).length) l.length, .slice none 0 0, .slice none 0 0, .slice (some ⟨b22, 0, none⟩) ((List.replicate l.length false).length) l.length, .slice (some ⟨b25, 0, none⟩) ((List.replicate l.length (0 : Int)).length) l.length, .nilFunc, .nilFunc] 79, rows encI 3 1 (some ⟨b25, 0, none⟩) l.length (List.replicate l.length (0 : Int)), rows encT 4 1 (some ⟨b22, 0, none⟩) l.length (List.replicate l.length false), rows encM 3 1 (some ⟨b19, 0, none⟩) l.length (List.replicate l.length 0), ros Ev.cells Al l]) rfl rfl rfl (Up.store (i := 0) rfl rfl rfl c73 rfl rfl (box_takesAll rfl)) (oks_nil _) ?_
  refine FlowS.fin ?_
  refine To.as [box b3 [.pointer (some ⟨b27, 0, none⟩)] 73, box b27 [.slice none 0 0, .slice (some ⟨b19, 0, none⟩) ((List.replicate l.length 0).length) l.length, .slice none 0 0, .slice none 0 0, .slice (some ⟨b22, 0, none⟩) ((List.replicate l.length false).length) l.length, .slice (some ⟨b25, 0, none⟩) ((List.replicate l.length (0 : Int)).length) l.length, .nilFunc, .nilFunc] 79, rows encI 3 1 (some ⟨b25, 0, none⟩) l.length (List.replicate l.length (0 : Int)), rows encT 4 1 (some ⟨b22, 0, none⟩) l.length (List.replicate l.length false), rows encM 3 1 (some ⟨b19, 0, none⟩) l.length (List.replicate l.length 0), ros Ev.cells Al l] rfl ?_
  refine To.thenN ?_
  refine To.seq ?_
  refine To.nilRow Sn.cells 62 1 (To.allNil ?_)
  refine To.reg ?_
  refine To.mk rfl rfl rfl (Mk.makeMapOwn ekI ekI rfl) ?_
  rintro _ _ ⟨m28, rfl, rfl⟩
  refine To.as [mapc ekI ekI m28 [], all [], rows Sn.cells 62 1 none 0 ([] : List Sn), box b3 [.pointer (some ⟨b27, 0, none⟩)] 73, box b27 [.slice none 0 0, .slice (some ⟨b19, 0, none⟩) ((List.replicate l.length 0).length) l.length, .slice none 0 0, .slice none 0 0, .slice (some ⟨b22, 0, none⟩) ((List.replicate l.length false).length) l.length, .slice (some ⟨b25, 0, none⟩) ((List.replicate l.length (0 : Int)).length) l.length, .nilFunc, .nilFunc] 79, rows encI 3 1 (some ⟨b25, 0, none⟩) l.length (List.replicate l.length (0 : Int)), rows encT 4 1 (some ⟨b22, 0, none⟩) l.length (List.replicate l.length false), rows encM 3 1 (some ⟨b19, 0, none⟩) l.length (List.replicate l.length 0), ros Ev.cells Al l] rfl ?_
  refine To.rd rfl rfl rfl (Rd.assign rfl rfl) ?_
  refine To.nil ?_
  refine To.thenN ?_
  refine To.seq ?_
  refine To.reg ?_
  refine To.mk rfl rfl rfl (Mk.makeMapOwn mk3 ekI rfl) ?_
  rintro _ _ ⟨m29, rfl, rfl⟩
  refine To.as [mapc mk3 ekI m29 [], mapc ekI ekI m28 [], all [], rows Sn.cells 62 1 none 0 ([] : List Sn), box b3 [.pointer (some ⟨b27, 0, none⟩)] 73, box b27 [.slice none 0 0, .slice (some ⟨b19, 0, none⟩) ((List.replicate l.length 0).length) l.length, .slice none 0 0, .slice none 0 0, .slice (some ⟨b22, 0, none⟩) ((List.replicate l.length false).length) l.length, .slice (some ⟨b25, 0, none⟩) ((List.replicate l.length (0 : Int)).length) l.length, .nilFunc, .nilFunc] 79, rows encI 3 1 (some ⟨b25, 0, none⟩) l.length (List.replicate l.length (0 : Int)), rows encT 4 1 (some ⟨b22, 0, none⟩) l.length (List.replicate l.length false), rows encM 3 1 (some ⟨b19, 0, none⟩) l.length (List.replicate l.length 0), ros Ev.cells Al l] rfl ?_
  refine To.mk rfl rfl rfl (Mk.makeMapOwn mk3 ekI rfl) ?_
  rintro _ _ ⟨m30, rfl, rfl⟩
  refine To.as [mapc mk3 ekI m30 [], mapc mk3 ekI m29 [], mapc ekI ekI m28 [], all [], rows Sn.cells 62 1 none 0 ([] : List Sn), box b3 [.pointer (some ⟨b27, 0, none⟩)] 73, box b27 [.slice none 0 0, .slice (some ⟨b19, 0, none⟩) ((List.replicate l.length 0).length) l.length, .slice none 0 0, .slice none 0 0, .slice (some ⟨b22, 0, none⟩) ((List.replicate l.length false).length) l.length, .slice (some ⟨b25, 0, none⟩) ((List.replicate l.length (0 : Int)).length) l.length, .nilFunc, .nilFunc] 79, rows encI 3 1 (some ⟨b25, 0, none⟩) l.length (List.replicate l.length (0 : Int)), rows encT 4 1 (some ⟨b22, 0, none⟩) l.length (List.replicate l.length false), rows encM 3 1 (some ⟨b19, 0, none⟩) l.length (List.replicate l.length 0), ros Ev.cells Al l] rfl ?_
  refine To.rd rfl rfl rfl (Rd.assign rfl rfl) ?_
  refine To.rd rfl rfl rfl (Rd.assign rfl rfl) ?_
  refine To.nil ?_
  refine To.sub [(0, .slice Al l.length cl), (2, .pointer none), (3, .pointer (some ⟨b3, 0, none⟩)), (4, .map (some m28)), (5, .map (some m29)), (6, .map (some m30))] ⟨rfl, rfl, rfl, rfl, rfl, rfl, trivial⟩ ?_
  refine To.thenN ?_
  refine To.seq ?_
  refine To.seq ?_
  refine To.reg ?_
  refine To.rd rfl rfl rfl (Rd.move rfl rfl) ?_
  refine To.rd rfl rfl rfl (Rd.len rfl rfl Try.underlying22) ?_
  refine To.rd rfl rfl rfl (Rd.move rfl rfl) ?_
  refine To.nil ?_
  refine To.thenN ?_
  refine To.block ?_
  refine To.sub [(0, .slice Al l.length cl), (3, .pointer (some ⟨b3, 0, none⟩)), (4, .map (some m28)), (5, .map (some m29)), (6, .map (some m30)), (31, .slice Al l.length cl), (32, .int .i64 ((l.length : Nat) : Int)), (33, .int .i64 ((0 : Nat) : Int))] ⟨rfl, rfl, rfl, rfl, rfl, rfl, rfl, rfl, trivial⟩ ?_
  refine To.only [6, 5, 2, 1, 0, 4, 1, 0, 1, 0, 0] rfl ?_
  refine To.as [box b27 [.slice none 0 0, .slice (some ⟨b19, 0, none⟩) (List.replicate l.length 0).length l.length, .slice none ([] : List Sn).length 0, .slice none 0 0, .slice (some ⟨b22, 0, none⟩) ((List.replicate l.length false).length) l.length, .slice (some ⟨b25, 0, none⟩) (List.replicate l.length 0).length l.length, .nilFunc, .nilFunc] 79, box b3 [.pointer (some ⟨b27, 0, none⟩)] 73, mapc ekI ekI m28 [], mapc mk3 ekI m29 [], mapc mk3 ekI m30 [], rows encM 3 1 (some ⟨b19, 0, none⟩) l.length (List.replicate l.length 0), rows Sn.cells 62 1 none 0 ([] : List Sn), all (([] : List Sn).map Sn.chO), rows encT 4 1 (some ⟨b22, 0, none⟩) l.length (List.replicate l.length false), rows encI 3 1 (some ⟨b25, 0, none⟩) l.length (List.replicate l.length 0), ros Ev.cells Al l] rfl ?_
  refine To.loop (fun mz ρ Γ => ∃ (i : Nat) (K : List Sn) (Ak : Option Addr) (qk : Nat) (ch : List Nat) (af : List Int) (Cm : List (Int × Int)) (S : List ((Int × Int × Int) × Int)) (R : List ((Int × Int × Int) × Int)), ρ = [(0, .slice Al l.length cl), (3, .pointer (some ⟨b3, 0, none⟩)), (4, .map (some m28)), (5, .map (some m29)), (6, .map (some m30)), (31, .slice Al l.length cl), (32, .int .i64 ((l.length : Nat) : Int)), (33, .int .i64 ((i : Nat) : Int))] ∧ Γ = [box b27 [.slice none 0 0, .slice (some ⟨b19, 0, none⟩) ch.length l.length, .slice Ak K.length qk, .slice none 0 0, .slice (some ⟨b22, 0, none⟩) ((List.replicate l.length false).length) l.length, .slice (some ⟨b25, 0, none⟩) af.length l.length, .nilFunc, .nilFunc] 79, box b3 [.pointer (some ⟨b27, 0, none⟩)] 73, mapc ekI ekI m28 Cm, mapc mk3 ekI m29 S, mapc mk3 ekI m30 R, rows encM 3 1 (some ⟨b19, 0, none⟩) l.length ch, rows Sn.cells 62 1 Ak qk K, all (K.map Sn.chO), rows encT 4 1 (some ⟨b22, 0, none⟩) l.length (List.replicate l.length false), rows encI 3 1 (some ⟨b25, 0, none⟩) l.length af, ros Ev.cells Al l] ∧ mz = l.length - i ∧ (i ≤ l.length) ∧ (SI l i ch (K.map Sn.l) af Cm S R)) (l.length - 0) ⟨0, ([] : List Sn), none, 0, (List.replicate l.length 0), (List.replicate l.length 0), [], [], [], rfl, rfl, rfl, (Nat.zero_le _), (SI.zero l)⟩ ?_
  rintro mz _ _ ⟨i, K, Ak, qk, ch, af, Cm, S, R, rfl, rfl, rfl, hi, hI⟩
  refine To.seq ?_
  refine To.reg ?_
  refine To.rd rfl rfl rfl (Rd.lss rfl rfl rfl) ?_
  refine To.nil ?_
  refine To.thenN ?_
  refine To.seq ?_
  refine To.condP rfl (fun c34 => ?_) (fun c34 => ?_)
  ·
    obtain ⟨y, hy⟩ : ∃ z0, l[i]? = some z0 := ⟨l[i]'(by omega), List.getElem?_eq_getElem _⟩
    have hchl := hI.chl
    have hafl := hI.afl
    have hKi : K.length ≤ i := by have := hI.le; rwa [List.length_map] at this
    obtain ⟨ci, hci⟩ : ∃ z0, ch[i]? = some z0 := ⟨ch[i]'(by omega), List.getElem?_eq_getElem _⟩
    obtain ⟨ai, hai⟩ : ∃ z0, af[i]? = some z0 := ⟨af[i]'(by omega), List.getElem?_eq_getElem _⟩
    have hai2 : (af.set i (-1))[i]? = some (-1) := set_at_eq (by omega)
    have hal2 : (af.set i (-1)).length = l.length := by rw [List.length_set]; exact hafl
    refine To.skip ?_
    refine To.thenN ?_
    refine To.seq ?_
    refine To.block ?_
    refine To.seq ?_
    refine To.reg ?_
    refine To.rd rfl rfl rfl (Rd.move rfl rfl) ?_
    refine To.rd rfl rfl rfl (Rd.indexRos encE (i := 10) (j := i) rfl rfl rfl s22 rfl hy) ?_
    refine To.rd rfl rfl rfl (Rd.loadS (i := 10) rfl rfl r37 rfl (ros_gives encE hy) (encE.len _)) ?_
    refine To.alloc rfl rfl rfl rfl z37 (fun b8 => ?_)
    refine To.rd rfl rfl rfl (Rd.assign rfl rfl) ?_
    refine To.up rfl rfl (Up.storeS (i := 0) rfl rfl rfl r37 rfl rfl rfl (box_takesAll rfl)) ?_
    refine To.nil ?_
    refine To.thenN ?_
    refine To.seq ?_
    refine To.reg ?_
    refine To.rd rfl rfl rfl (Rd.move rfl rfl) ?_
    refine To.rd rfl rfl rfl (Rd.field rfl rfl fl37_1) ?_
    refine To.rd rfl rfl rfl (Rd.load (i := 0) rfl rfl c3 rfl (box_gives1 rfl)) ?_
    refine To.rd rfl rfl rfl (Rd.as (v' := .tuple #[.int .i64 ((aget Cm y.c).getD 0), .bool ((aget Cm y.c).isSome)]) rfl (Rd.lookupOk (i := 3) (k := y.c) (m := Cm) keyI 0 rfl Try.underlying52 zv3 rfl rfl rfl)) ?_
    refine To.rd rfl rfl rfl (Rd.move rfl rfl) ?_
    refine To.rd rfl rfl rfl (Rd.extract rfl rfl rfl) ?_
    refine To.rd rfl rfl rfl (Rd.extract rfl rfl rfl) ?_
    refine To.rd rfl rfl rfl (Rd.assign rfl rfl) ?_
    refine To.rd rfl rfl rfl (Rd.assign rfl rfl) ?_
    refine To.nil ?_
    refine To.thenN ?_
    refine To.seq ?_
    refine To.seq ?_
    refine To.reg ?_
    refine To.rd rfl rfl rfl (Rd.move rfl rfl) ?_
    refine To.rd rfl rfl rfl (Rd.not rfl rfl) ?_
    refine To.nil ?_
    refine To.thenN ?_
    refine To.cond rfl (fun c46 => ?_) (fun c46 => ?_)
    ·
      refine To.seq ?_
      refine To.reg ?_
      refine To.rd rfl rfl rfl (Rd.load (i := 2) rfl rfl c73 rfl (box_gives1 rfl)) ?_
      refine To.rd rfl rfl rfl (Rd.nilCheck rfl rfl) ?_
      refine To.rd rfl rfl rfl (Rd.field rfl rfl fl79_2) ?_
      refine To.rd rfl rfl rfl (Rd.load (i := 1) rfl rfl c71 rfl (box_gives1 rfl)) ?_
      refine To.rd rfl rfl rfl (Rd.len rfl rfl Try.underlying71) ?_
      refine To.rd rfl rfl rfl (Rd.assign rfl rfl) ?_
      refine To.nil ?_
      refine To.sub [(0, .slice Al l.length cl), (3, .pointer (some ⟨b3, 0, none⟩)), (4, .map (some m28)), (5, .map (some m29)), (6, .map (some m30)), (31, .slice Al l.length cl), (32, .int .i64 ((l.length : Nat) : Int)), (33, .int .i64 ((i : Nat) : Int)), (34, .bool (decide (((i : Nat) : Int) < ((l.length : Nat) : Int)))), (8, .pointer (some ⟨b8, 0, none⟩)), (7, .int .i64 ((i : Nat) : Int)), (9, .int .i64 ((K.length : Nat) : Int)), (10, .bool ((aget Cm y.c).isSome)), (46, .bool (!((aget Cm y.c).isSome)))] ⟨rfl, rfl, rfl, rfl, rfl, rfl, rfl, rfl, rfl, rfl, rfl, rfl, rfl, rfl, trivial⟩ ?_
      refine To.thenN ?_
      refine To.seq ?_
      refine To.reg ?_
      refine To.rd rfl rfl rfl (Rd.move rfl rfl) ?_
      refine To.rd rfl rfl rfl (Rd.field rfl rfl fl37_1) ?_
      refine To.rd rfl rfl rfl (Rd.load (i := 0) rfl rfl c3 rfl (box_gives1 rfl)) ?_
      refine To.rd rfl rfl rfl (Rd.move rfl rfl) ?_
      refine To.up rfl rfl (Up.mapUpdate (i := 3) (k := y.c) (v := ((K.length : Nat) : Int)) (m := Cm) keyI rfl Try.underlying52 rfl rfl rfl rfl) ?_
      refine To.nil ?_
      refine To.thenN ?_
      refine To.flow [box b3 [.pointer (some ⟨b27, 0, none⟩)] 73] [⟨0, [], 0⟩, ⟨1, [], 0⟩, ⟨2, [], 0⟩, ⟨3, [], 0⟩, ⟨4, [], 1⟩, ⟨5, [], 2⟩, ⟨6, [5], 5⟩, ⟨7, [], 0⟩, ⟨8, [], 0⟩, ⟨9, [], 5⟩] mixed (by kernel_rfl) (oks_cons (oks_at 2 rfl) (oks_nil _)) ?_
      refine FlowS.free rfl rfl rfl rfl (Rd.load (i := 0) rfl rfl c73 rfl (box_gives1 rfl)) ?_
      refine FlowS.free rfl rfl rfl rfl (Rd.load (i := 0) rfl rfl c73 rfl (box_gives1 rfl)) ?_
      refine FlowS.free rfl rfl rfl rfl (Rd.nilCheck rfl rfl) ?_
      refine FlowS.free rfl rfl rfl rfl (Rd.field rfl rfl fl79_2) ?_
      refine FlowS.rd rfl rfl rfl rfl (Rd.load (i := 1) rfl rfl c71 rfl (box_gives1 rfl)) ?_
      refine FlowS.mk rfl rfl rfl rfl rfl (Mk.sliceN (us := [.slice none 0 0]) rfl s71 rfl rfl rfl rfl rfl rfl) ?_
      rintro _ _ ⟨b61, rfl, rfl⟩
      refine FlowS.ge rfl rfl rfl rfl (Ge.append1 encSn (i := 8) (j := 0) (el := Sn.nil) rfl s71 rfl rfl rfl rfl rfl (by first | omega | (simp only [List.length_append, List.length_cons, List.length_nil]; omega)) (by first | omega | (simp only [List.length_append, List.length_cons, List.length_nil]; omega))) ?_
      rintro _ _ ⟨A62, q62, rfl, rfl⟩
      refine ⟨oks_cons (oks_at 3 rfl) (oks_nil _), ?_⟩
      refine FlowS.free rfl rfl rfl rfl (Rd.nilCheck rfl rfl) ?_
      refine FlowS.free rfl rfl rfl rfl (Rd.field rfl rfl fl79_2) ?_
      refine FlowS.up (Γ' := [row 62 1 (some ⟨b61, 0, none⟩) 1 1 [.slice none 0 0], box b8 [.int .i64 y.t, .int .i64 y.c, .int .u8 y.k, .int .i64 y.p, .int .i64 y.n, .int .i64 y.cp, .int .i64 y.h, .int .i64 y.d, .slice y.A y.args.length y.cap] 37, box b27 [.slice none 0 0, .slice (some ⟨b19, 0, none⟩) ch.length l.length, .slice A62 ((K ++ [Sn.nil]).length) q62, .slice none 0 0, .slice (some ⟨b22, 0, none⟩) ((List.replicate l.length false).length) l.length, .slice (some ⟨b25, 0, none⟩) af.length l.length, .nilFunc, .nilFunc] 79, box b3 [.pointer (some ⟨b27, 0, none⟩)] 73, mapc ekI ekI m28 (aset Cm y.c ((K.length : Nat) : Int)), mapc mk3 ekI m29 S, mapc mk3 ekI m30 R, rows encM 3 1 (some ⟨b19, 0, none⟩) l.length ch, rows Sn.cells 62 1 A62 q62 (K ++ [Sn.nil]), all (K.map Sn.chO), rows encT 4 1 (some ⟨b22, 0, none⟩) l.length (List.replicate l.length false), rows encI 3 1 (some ⟨b25, 0, none⟩) l.length af, ros Ev.cells Al l]) rfl rfl rfl (Up.store (i := 2) rfl rfl rfl c71 rfl rfl (box_takes1 rfl)) (oks_cons (oks_at 3 rfl) (oks_nil _)) ?_
      refine FlowS.fin ?_
      refine To.as [row 62 1 (some ⟨b61, 0, none⟩) 1 1 [.slice none 0 0], box b8 [.int .i64 y.t, .int .i64 y.c, .int .u8 y.k, .int .i64 y.p, .int .i64 y.n, .int .i64 y.cp, .int .i64 y.h, .int .i64 y.d, .slice y.A y.args.length y.cap] 37, box b27 [.slice none 0 0, .slice (some ⟨b19, 0, none⟩) ch.length l.length, .slice A62 ((K ++ [Sn.nil]).length) q62, .slice none 0 0, .slice (some ⟨b22, 0, none⟩) ((List.replicate l.length false).length) l.length, .slice (some ⟨b25, 0, none⟩) af.length l.length, .nilFunc, .nilFunc] 79, box b3 [.pointer (some ⟨b27, 0, none⟩)] 73, mapc ekI ekI m28 (aset Cm y.c ((K.length : Nat) : Int)), mapc mk3 ekI m29 S, mapc mk3 ekI m30 R, rows encM 3 1 (some ⟨b19, 0, none⟩) l.length ch, rows Sn.cells 62 1 A62 q62 (K ++ [Sn.nil]), all (K.map Sn.chO), rows encT 4 1 (some ⟨b22, 0, none⟩) l.length (List.replicate l.length false), rows encI 3 1 (some ⟨b25, 0, none⟩) l.length af, ros Ev.cells Al l] rfl ?_
      refine To.sub [(0, .slice Al l.length cl), (3, .pointer (some ⟨b3, 0, none⟩)), (4, .map (some m28)), (5, .map (some m29)), (6, .map (some m30)), (31, .slice Al l.length cl), (32, .int .i64 ((l.length : Nat) : Int)), (33, .int .i64 ((i : Nat) : Int)), (34, .bool (decide (((i : Nat) : Int) < ((l.length : Nat) : Int)))), (8, .pointer (some ⟨b8, 0, none⟩)), (7, .int .i64 ((i : Nat) : Int)), (9, .int .i64 ((K.length : Nat) : Int)), (10, .bool ((aget Cm y.c).isSome)), (46, .bool (!((aget Cm y.c).isSome)))] ⟨rfl, rfl, rfl, rfl, rfl, rfl, rfl, rfl, rfl, rfl, rfl, rfl, rfl, rfl, trivial⟩ ?_
      refine To.thenN ?_
      refine To.seq ?_
      refine To.only [9, 0, 0, 0, 0, 0, 0, 0, 0, 0, 0, 0, 0] rfl ?_
      refine To.nilRow encM 3 1 (To.allPush ?_)
      rw [sn_push]
      have hs := sn_last K Sn.nil
      have hnone : aget Cm y.c = none := by simpa using c46
      have hKl1 : (K ++ [Sn.nil]).length = K.length + 1 := by simp
      have hxl : Sn.nil.l.length ≤ 1000000 := Nat.zero_le _
      refine To.reg ?_
      refine To.rd rfl rfl rfl (Rd.load (i := 4) rfl rfl c73 rfl (box_gives1 rfl)) ?_
      refine To.rd rfl rfl rfl (Rd.nilCheck rfl rfl) ?_
      refine To.rd rfl rfl rfl (Rd.field rfl rfl fl79_1) ?_
      refine To.rd rfl rfl rfl (Rd.load (i := 3) rfl rfl c62 rfl (box_gives1 rfl)) ?_
      refine To.rd rfl rfl rfl (Rd.move rfl rfl) ?_
      refine To.rd rfl rfl rfl (Rd.move rfl rfl) ?_
      refine To.rd rfl rfl rfl (Rd.indexRows (i := 8) (j := i) rfl rfl rfl s62 rfl hci) ?_
      refine To.up rfl rfl (Up.store (i := 8) rfl rfl rfl c3 rfl rfl (rows_takes encM_ok (y := K.length) (by decide) (by omega))) ?_
      refine To.nil ?_
      refine To.thenN ?_
      refine To.seq ?_
      refine To.only [0, 0, 0, 0, 0, 0, 0, 0, 0, 0, 0, 0, 0] rfl ?_
      refine To.allOut K.length (sn_at hs) ?_
      have hkK : K.length < (K ++ [Sn.nil]).length := by omega
      refine To.know (p := A62 = some ⟨blk A62, ofs A62, none⟩) (fun w hw => rows_some encSn (by decide) (l := (K ++ [Sn.nil])) (by omega) 10 rfl hw) (fun hAk => ?_)
      refine To.flow [box b27 [.slice none 0 0, .slice (some ⟨b19, 0, none⟩) ch.length l.length, .slice A62 ((K ++ [Sn.nil]).length) q62, .slice none 0 0, .slice (some ⟨b22, 0, none⟩) ((List.replicate l.length false).length) l.length, .slice (some ⟨b25, 0, none⟩) af.length l.length, .nilFunc, .nilFunc] 79, box b3 [.pointer (some ⟨b27, 0, none⟩)] 73] [⟨0, [], 0⟩, ⟨1, [], 0⟩, ⟨2, [], 0⟩, ⟨3, [], 0⟩, ⟨4, [], 0⟩, ⟨5, [], 0⟩, ⟨6, [], 0⟩, ⟨7, [], 0⟩, ⟨8, [], 0⟩, ⟨9, [], 0⟩, ⟨12, [], 0⟩, ⟨10, [], 1⟩, ⟨11, [], 1⟩, ⟨13, [], 2⟩, ⟨14, [13], 5⟩, ⟨15, [], 0⟩, ⟨16, [], 5⟩] mixed (by kernel_rfl) (oks_cons (oks_at 4 rfl) (oks_cons (oks_at 5 rfl) (oks_nil _))) ?_
      refine FlowS.free rfl rfl rfl rfl (Rd.load (i := 1) rfl rfl c73 rfl (box_gives1 rfl)) ?_
      refine FlowS.free rfl rfl rfl rfl (Rd.nilCheck rfl rfl) ?_
      refine FlowS.free rfl rfl rfl rfl (Rd.field rfl rfl fl79_2) ?_
      refine FlowS.free rfl rfl rfl rfl (Rd.load (i := 0) rfl rfl c71 rfl (box_gives1 rfl)) ?_
      refine FlowS.free rfl rfl rfl rfl (Rd.move rfl rfl) ?_
      refine FlowS.free rfl rfl rfl rfl (Rd.load (i := 1) rfl rfl c73 rfl (box_gives1 rfl)) ?_
      refine FlowS.free rfl rfl rfl rfl (Rd.nilCheck rfl rfl) ?_
      refine FlowS.free rfl rfl rfl rfl (Rd.field rfl rfl fl79_2) ?_
      refine FlowS.free rfl rfl rfl rfl (Rd.load (i := 0) rfl rfl c71 rfl (box_gives1 rfl)) ?_
      refine FlowS.free rfl rfl rfl rfl (Rd.move rfl rfl) ?_
      refine FlowS.free rfl rfl rfl rfl (Rd.move rfl rfl) ?_
      refine FlowS.rd rfl rfl rfl rfl (Rd.indexRows (i := 10) (j := K.length) rfl rfl rfl s71 rfl hs) ?_
      refine FlowS.rd rfl rfl rfl rfl (Rd.load (i := 10) rfl rfl c62 rfl (gives_1 (rows_gives encSn hs) rfl)) ?_
      refine FlowS.mk rfl rfl rfl rfl rfl (Mk.sliceN (us := [.int .i64 ((i : Nat) : Int)]) rfl s62 rfl rfl rfl rfl rfl rfl) ?_
      rintro _ _ ⟨b85, rfl, rfl⟩
      refine FlowS.ge rfl rfl rfl rfl (Ge.append1 encM_ok (i := 1) (j := 0) (el := i) rfl s62 rfl rfl rfl rfl rfl (by first | omega | (simp only [List.length_append, List.length_cons, List.length_nil]; omega)) (by first | omega | (simp only [List.length_append, List.length_cons, List.length_nil]; omega))) ?_
      rintro _ _ ⟨A86, q86, rfl, rfl⟩
      refine ⟨oks_cons (oks_at 5 rfl) (oks_cons (oks_at 6 rfl) (oks_nil _)), ?_⟩
      refine FlowS.free rfl rfl rfl rfl (Rd.indexS (j := K.length) hAk rfl rfl rfl s71 hkK) ?_
      refine FlowS.up (Γ' := [row 3 1 (some ⟨b85, 0, none⟩) 1 1 [.int .i64 ((i : Nat) : Int)], rows encM 3 1 A86 q86 (Sn.nil.l ++ [i]), all (((K ++ [Sn.nil]).map Sn.chO).eraseIdx K.length), row 62 1 (some ⟨b61, 0, none⟩) 1 1 [.slice none 0 0], box b8 [.int .i64 y.t, .int .i64 y.c, .int .u8 y.k, .int .i64 y.p, .int .i64 y.n, .int .i64 y.cp, .int .i64 y.h, .int .i64 y.d, .slice y.A y.args.length y.cap] 37, box b27 [.slice none 0 0, .slice (some ⟨b19, 0, none⟩) ch.length l.length, .slice A62 ((K ++ [Sn.nil]).length) q62, .slice none 0 0, .slice (some ⟨b22, 0, none⟩) ((List.replicate l.length false).length) l.length, .slice (some ⟨b25, 0, none⟩) af.length l.length, .nilFunc, .nilFunc] 79, box b3 [.pointer (some ⟨b27, 0, none⟩)] 73, mapc ekI ekI m28 (aset Cm y.c ((K.length : Nat) : Int)), mapc mk3 ekI m29 S, mapc mk3 ekI m30 R, rows encM 3 1 (some ⟨b19, 0, none⟩) l.length (ch.set i K.length), rows Sn.cells 62 1 A62 q62 ((K ++ [Sn.nil]).set K.length (⟨A86, q86, (Sn.nil.l ++ [i])⟩ : Sn)), rows encT 4 1 (some ⟨b22, 0, none⟩) l.length (List.replicate l.length false), rows encI 3 1 (some ⟨b25, 0, none⟩) l.length af, ros Ev.cells Al l]) rfl rfl rfl (Up.store (i := 11) rfl rfl rfl c62 rfl rfl (rows_takes encSn (y := (⟨A86, q86, (Sn.nil.l ++ [i])⟩ : Sn)) (by decide) (by omega))) (oks_cons (oks_at 5 rfl) (oks_cons (oks_at 6 rfl) (oks_nil _))) ?_
      refine FlowS.fin ?_
      refine To.as [row 3 1 (some ⟨b85, 0, none⟩) 1 1 [.int .i64 ((i : Nat) : Int)], rows encM 3 1 A86 q86 (Sn.nil.l ++ [i]), all (((K ++ [Sn.nil]).map Sn.chO).eraseIdx K.length), row 62 1 (some ⟨b61, 0, none⟩) 1 1 [.slice none 0 0], box b8 [.int .i64 y.t, .int .i64 y.c, .int .u8 y.k, .int .i64 y.p, .int .i64 y.n, .int .i64 y.cp, .int .i64 y.h, .int .i64 y.d, .slice y.A y.args.length y.cap] 37, box b27 [.slice none 0 0, .slice (some ⟨b19, 0, none⟩) ch.length l.length, .slice A62 ((K ++ [Sn.nil]).length) q62, .slice none 0 0, .slice (some ⟨b22, 0, none⟩) ((List.replicate l.length false).length) l.length, .slice (some ⟨b25, 0, none⟩) af.length l.length, .nilFunc, .nilFunc] 79, box b3 [.pointer (some ⟨b27, 0, none⟩)] 73, mapc ekI ekI m28 (aset Cm y.c ((K.length : Nat) : Int)), mapc mk3 ekI m29 S, mapc mk3 ekI m30 R, rows encM 3 1 (some ⟨b19, 0, none⟩) l.length (ch.set i K.length), rows Sn.cells 62 1 A62 q62 ((K ++ [Sn.nil]).set K.length (⟨A86, q86, (Sn.nil.l ++ [i])⟩ : Sn)), rows encT 4 1 (some ⟨b22, 0, none⟩) l.length (List.replicate l.length false), rows encI 3 1 (some ⟨b25, 0, none⟩) l.length af, ros Ev.cells Al l] rfl ?_
      refine To.sub [(0, .slice Al l.length cl), (3, .pointer (some ⟨b3, 0, none⟩)), (4, .map (some m28)), (5, .map (some m29)), (6, .map (some m30)), (31, .slice Al l.length cl), (32, .int .i64 ((l.length : Nat) : Int)), (33, .int .i64 ((i : Nat) : Int)), (34, .bool (decide (((i : Nat) : Int) < ((l.length : Nat) : Int)))), (8, .pointer (some ⟨b8, 0, none⟩)), (7, .int .i64 ((i : Nat) : Int)), (9, .int .i64 ((K.length : Nat) : Int)), (10, .bool ((aget Cm y.c).isSome)), (46, .bool (!((aget Cm y.c).isSome)))] ⟨rfl, rfl, rfl, rfl, rfl, rfl, rfl, rfl, rfl, rfl, rfl, rfl, rfl, rfl, trivial⟩ ?_
      refine To.thenN ?_
      refine To.seq ?_
      refine To.only [1, 1, 0, 0, 0, 0, 0, 0, 0, 0, 0, 0, 0, 0, 0] rfl ?_
      refine To.allIn K.length (sn_at hs) ?_
      rw [sn_set]
      refine To.reg ?_
      refine To.rd rfl rfl rfl (Rd.load (i := 5) rfl rfl c73 rfl (box_gives1 rfl)) ?_
      refine To.rd rfl rfl rfl (Rd.nilCheck rfl rfl) ?_
      refine To.rd rfl rfl rfl (Rd.field rfl rfl fl79_5) ?_
      refine To.rd rfl rfl rfl (Rd.load (i := 4) rfl rfl c62 rfl (box_gives1 rfl)) ?_
      refine To.rd rfl rfl rfl (Rd.move rfl rfl) ?_
      refine To.rd rfl rfl rfl (Rd.indexRows (i := 12) (j := i) rfl rfl rfl s62 rfl hai) ?_
      refine To.up rfl rfl (Up.store (i := 12) rfl rfl rfl c3 rfl rfl (rows_takes encI_ok (y := (-1)) (by decide) (by omega))) ?_
      refine To.nil ?_
      refine To.thenN ?_
      refine To.seq ?_
      refine To.reg ?_
      refine To.rd rfl rfl rfl (Rd.loadS (i := 3) rfl rfl r37 rfl box_whole rfl) ?_
      refine To.callV rfl rfl rfl (Ent.fn rfl rfl ca33) (message_fn y) rfl (oks_nil _) ?_
      refine To.rd rfl rfl rfl (Rd.move rfl rfl) ?_
      refine To.rd rfl rfl rfl (Rd.extract rfl rfl rfl) ?_
      refine To.rd rfl rfl rfl (Rd.extract rfl rfl rfl) ?_
      refine To.alloc rfl rfl rfl rfl z55 (fun b11 => ?_)
      refine To.up rfl rfl (Up.storeS (i := 0) rfl rfl rfl r55 rfl rfl rfl (box_takesAll rfl)) ?_
      refine To.rd rfl rfl rfl (Rd.assign rfl rfl) ?_
      refine To.nil ?_
      refine To.thenN ?_
      refine To.seq ?_
      refine To.reg ?_
      refine To.rd rfl rfl rfl (Rd.move rfl rfl) ?_
      refine To.rd rfl rfl rfl (Rd.move rfl rfl) ?_
      refine To.rd rfl rfl rfl (Rd.assign rfl rfl) ?_
      refine To.rd rfl rfl rfl (Rd.assign rfl rfl) ?_
      refine To.nil ?_
      refine To.sub [(0, .slice Al l.length cl), (3, .pointer (some ⟨b3, 0, none⟩)), (4, .map (some m28)), (5, .map (some m29)), (6, .map (some m30)), (31, .slice Al l.length cl), (32, .int .i64 ((l.length : Nat) : Int)), (33, .int .i64 ((i : Nat) : Int)), (34, .bool (decide (((i : Nat) : Int) < ((l.length : Nat) : Int)))), (8, .pointer (some ⟨b8, 0, none⟩)), (7, .int .i64 ((i : Nat) : Int)), (9, .int .i64 ((K.length : Nat) : Int)), (10, .bool ((aget Cm y.c).isSome)), (46, .bool (!((aget Cm y.c).isSome))), (11, .pointer (some ⟨b11, 0, none⟩)), (12, .int .i64 y.rl), (13, .map (some m29)), (14, .map (some m30))] ⟨rfl, rfl, rfl, rfl, rfl, rfl, rfl, rfl, rfl, rfl, rfl, rfl, rfl, rfl, rfl, rfl, rfl, rfl, trivial⟩ ?_
      refine To.thenN ?_
      refine To.seq ?_
      refine To.seq ?_
      refine To.reg ?_
      refine To.rd rfl rfl rfl (Rd.move rfl rfl) ?_
      refine To.rd rfl rfl rfl (Rd.eql rfl rfl rfl) ?_
      refine To.nil ?_
      refine To.thenN ?_
      refine To.condP rfl (fun c102 => ?_) (fun c102 => ?_)
      ·
        refine To.reg ?_
        refine To.rd rfl rfl rfl (Rd.move rfl rfl) ?_
        refine To.rd rfl rfl rfl (Rd.move rfl rfl) ?_
        refine To.rd rfl rfl rfl (Rd.assign rfl rfl) ?_
        refine To.rd rfl rfl rfl (Rd.assign rfl rfl) ?_
        refine To.nil ?_
        refine To.thenN ?_
        refine To.seq ?_
        refine To.reg ?_
        refine To.rd rfl rfl rfl (Rd.move rfl rfl) ?_
        refine To.rd rfl rfl rfl (Rd.neq rfl rfl rfl) ?_
        refine To.nil ?_
        refine To.thenN ?_
        refine To.condP rfl (fun c106 => ?_) (fun c106 => ?_)
        ·
          refine To.seq ?_
          refine To.seq ?_
          refine To.reg ?_
          refine To.rd rfl rfl rfl (Rd.move rfl rfl) ?_
          refine To.rd rfl rfl rfl (Rd.loadS (i := 0) rfl rfl r55 rfl box_whole rfl) ?_
          refine To.rd rfl rfl rfl (Rd.as (v' := .tuple #[.int .i64 ((aget S y.key).getD 0), .bool ((aget S y.key).isSome)]) rfl (Rd.lookupOk (i := 8) (k := y.key) (m := S) keyM 0 rfl Try.underlying53 zv3 rfl rfl rfl)) ?_
          refine To.rd rfl rfl rfl (Rd.move rfl rfl) ?_
          refine To.rd rfl rfl rfl (Rd.extract rfl rfl rfl) ?_
          refine To.rd rfl rfl rfl (Rd.extract rfl rfl rfl) ?_
          refine To.rd rfl rfl rfl (Rd.assign rfl rfl) ?_
          refine To.rd rfl rfl rfl (Rd.assign rfl rfl) ?_
          refine To.nil ?_
          refine To.thenN ?_
          refine To.seq ?_
          refine To.reg ?_
          refine To.rd rfl rfl rfl (Rd.move rfl rfl) ?_
          refine To.nil ?_
          refine To.thenN ?_
          refine To.cond rfl (fun c113 => ?_) (fun c113 => ?_)
          ·
            refine To.reg ?_
            refine To.rd rfl rfl rfl (Rd.load (i := 6) rfl rfl c73 rfl (box_gives1 rfl)) ?_
            refine To.rd rfl rfl rfl (Rd.nilCheck rfl rfl) ?_
            refine To.rd rfl rfl rfl (Rd.field rfl rfl fl79_5) ?_
            refine To.rd rfl rfl rfl (Rd.load (i := 5) rfl rfl c62 rfl (box_gives1 rfl)) ?_
            refine To.rd rfl rfl rfl (Rd.move rfl rfl) ?_
            refine To.rd rfl rfl rfl (Rd.move rfl rfl) ?_
            refine To.rd rfl rfl rfl (Rd.indexS (j := i) rfl rfl rfl rfl s62 (by omega)) ?_
            refine To.up rfl rfl (Up.store (i := 13) rfl rfl rfl c3 rfl rfl (rows_takes encI_ok (y := ((aget S y.key).getD 0)) (by decide) (by omega))) ?_
            refine To.nil ?_
            refine To.sub [(0, .slice Al l.length cl), (3, .pointer (some ⟨b3, 0, none⟩)), (4, .map (some m28)), (5, .map (some m29)), (6, .map (some m30)), (31, .slice Al l.length cl), (32, .int .i64 ((l.length : Nat) : Int)), (33, .int .i64 ((i : Nat) : Int)), (34, .bool (decide (((i : Nat) : Int) < ((l.length : Nat) : Int)))), (8, .pointer (some ⟨b8, 0, none⟩)), (7, .int .i64 ((i : Nat) : Int)), (9, .int .i64 ((K.length : Nat) : Int)), (10, .bool ((aget Cm y.c).isSome)), (46, .bool (!((aget Cm y.c).isSome))), (11, .pointer (some ⟨b11, 0, none⟩)), (12, .int .i64 y.rl), (13, .map (some m30)), (14, .map (some m29)), (102, .bool (decide (y.rl = 2))), (106, .bool (decide (y.rl ≠ 0))), (15, .int .i64 ((aget S y.key).getD 0)), (16, .bool ((aget S y.key).isSome)), (113, .bool ((aget S y.key).isSome))] ⟨rfl, rfl, rfl, rfl, rfl, rfl, rfl, rfl, rfl, rfl, rfl, rfl, rfl, rfl, rfl, rfl, rfl, rfl, rfl, rfl, rfl, rfl, rfl, trivial⟩ ?_
            refine To.thenN ?_
            refine To.reg ?_
            refine To.rd rfl rfl rfl (Rd.move rfl rfl) ?_
            refine To.rd rfl rfl rfl (Rd.loadS (i := 0) rfl rfl r55 rfl box_whole rfl) ?_
            refine To.rd rfl rfl rfl (Rd.move rfl rfl) ?_
            refine To.up rfl rfl (Up.mapUpdate (i := 9) (k := y.key) (v := ((i : Nat) : Int)) (m := R) keyM rfl Try.underlying53 rfl rfl rfl rfl) ?_
            refine To.nil ?_
            refine To.blockN ?_
            refine To.thenN ?_
            refine To.reg ?_
            refine To.rd rfl rfl rfl (Rd.inc rfl rfl rfl (by omega)) ?_
            refine To.rd rfl rfl rfl (Rd.move rfl rfl) ?_
            refine To.nil ?_
            refine To.thenN ?_
            have hr2 : y.rl = 2 := by omega
            refine To.sub [(0, .slice Al l.length cl), (3, .pointer (some ⟨b3, 0, none⟩)), (4, .map (some m28)), (5, .map (some m29)), (6, .map (some m30)), (31, .slice Al l.length cl), (32, .int .i64 ((l.length : Nat) : Int)), (33, .int .i64 (((i + 1) : Nat) : Int))] ⟨rfl, rfl, rfl, rfl, rfl, rfl, rfl, rfl, trivial⟩ ?_
            refine To.only [5, 5, 5, 5, 5, 5, 5, 1, 4, 4, 4] rfl ?_
            refine To.as [box b27 [.slice none 0 0, .slice (some ⟨b19, 0, none⟩) (ch.set i K.length).length l.length, .slice A62 ((K ++ [Sn.nil]).set K.length (⟨A86, q86, (Sn.nil.l ++ [i])⟩ : Sn)).length q62, .slice none 0 0, .slice (some ⟨b22, 0, none⟩) ((List.replicate l.length false).length) l.length, .slice (some ⟨b25, 0, none⟩) (af.set i ((aget S y.key).getD 0)).length l.length, .nilFunc, .nilFunc] 79, box b3 [.pointer (some ⟨b27, 0, none⟩)] 73, mapc ekI ekI m28 (aset Cm y.c ((K.length : Nat) : Int)), mapc mk3 ekI m29 S, mapc mk3 ekI m30 (aset R y.key ((i : Nat) : Int)), rows encM 3 1 (some ⟨b19, 0, none⟩) l.length (ch.set i K.length), rows Sn.cells 62 1 A62 q62 ((K ++ [Sn.nil]).set K.length (⟨A86, q86, (Sn.nil.l ++ [i])⟩ : Sn)), all (((K ++ [Sn.nil]).set K.length (⟨A86, q86, (Sn.nil.l ++ [i])⟩ : Sn)).map Sn.chO), rows encT 4 1 (some ⟨b22, 0, none⟩) l.length (List.replicate l.length false), rows encI 3 1 (some ⟨b25, 0, none⟩) l.length (af.set i ((aget S y.key).getD 0)), ros Ev.cells Al l] (by simp only [List.length_set, List.set_set]) ?_
            refine To.again (l.length - (i + 1)) (by omega) ⟨i + 1, ((K ++ [Sn.nil]).set K.length (⟨A86, q86, (Sn.nil.l ++ [i])⟩ : Sn)), A62, q62, (ch.set i K.length), af.set i ((aget S y.key).getD 0), (aset Cm y.c ((K.length : Nat) : Int)), S, (aset R y.key ((i : Nat) : Int)), rfl, rfl, rfl, (by omega), (hI.step hy (k := K.length) (.inr ⟨hnone, by rw [List.length_map], by simp [List.map_set, Sn.nil, List.set_append], rfl⟩) ((se_step hI.se hy).2 (by omega)) ((se_step hI.re hy).1 hr2) (by rcases hI.after2 hy hr2 with ⟨h1, h2⟩ | ⟨h1, h2⟩ <;> simp_all))⟩
          ·
            refine To.skip ?_
            refine To.thenN ?_
            refine To.reg ?_
            refine To.rd rfl rfl rfl (Rd.move rfl rfl) ?_
            refine To.rd rfl rfl rfl (Rd.loadS (i := 0) rfl rfl r55 rfl box_whole rfl) ?_
            refine To.rd rfl rfl rfl (Rd.move rfl rfl) ?_
            refine To.up rfl rfl (Up.mapUpdate (i := 9) (k := y.key) (v := ((i : Nat) : Int)) (m := R) keyM rfl Try.underlying53 rfl rfl rfl rfl) ?_
            refine To.nil ?_
            refine To.sub [(0, .slice Al l.length cl), (3, .pointer (some ⟨b3, 0, none⟩)), (4, .map (some m28)), (5, .map (some m29)), (6, .map (some m30)), (31, .slice Al l.length cl), (32, .int .i64 ((l.length : Nat) : Int)), (33, .int .i64 ((i : Nat) : Int)), (34, .bool (decide (((i : Nat) : Int) < ((l.length : Nat) : Int)))), (8, .pointer (some ⟨b8, 0, none⟩)), (7, .int .i64 ((i : Nat) : Int)), (9, .int .i64 ((K.length : Nat) : Int)), (10, .bool ((aget Cm y.c).isSome)), (46, .bool (!((aget Cm y.c).isSome))), (11, .pointer (some ⟨b11, 0, none⟩)), (12, .int .i64 y.rl), (13, .map (some m30)), (14, .map (some m29)), (102, .bool (decide (y.rl = 2))), (106, .bool (decide (y.rl ≠ 0))), (15, .int .i64 ((aget S y.key).getD 0)), (16, .bool ((aget S y.key).isSome)), (113, .bool ((aget S y.key).isSome))] ⟨rfl, rfl, rfl, rfl, rfl, rfl, rfl, rfl, rfl, rfl, rfl, rfl, rfl, rfl, rfl, rfl, rfl, rfl, rfl, rfl, rfl, rfl, rfl, trivial⟩ ?_
            refine To.blockN ?_
            refine To.thenN ?_
            refine To.reg ?_
            refine To.rd rfl rfl rfl (Rd.inc rfl rfl rfl (by omega)) ?_
            refine To.rd rfl rfl rfl (Rd.move rfl rfl) ?_
            refine To.nil ?_
            refine To.thenN ?_
            have hr2 : y.rl = 2 := by omega
            refine To.sub [(0, .slice Al l.length cl), (3, .pointer (some ⟨b3, 0, none⟩)), (4, .map (some m28)), (5, .map (some m29)), (6, .map (some m30)), (31, .slice Al l.length cl), (32, .int .i64 ((l.length : Nat) : Int)), (33, .int .i64 (((i + 1) : Nat) : Int))] ⟨rfl, rfl, rfl, rfl, rfl, rfl, rfl, rfl, trivial⟩ ?_
            refine To.only [5, 5, 5, 5, 5, 5, 5, 1, 4, 4, 4] rfl ?_
            refine To.as [box b27 [.slice none 0 0, .slice (some ⟨b19, 0, none⟩) (ch.set i K.length).length l.length, .slice A62 ((K ++ [Sn.nil]).set K.length (⟨A86, q86, (Sn.nil.l ++ [i])⟩ : Sn)).length q62, .slice none 0 0, .slice (some ⟨b22, 0, none⟩) ((List.replicate l.length false).length) l.length, .slice (some ⟨b25, 0, none⟩) (af.set i (-1)).length l.length, .nilFunc, .nilFunc] 79, box b3 [.pointer (some ⟨b27, 0, none⟩)] 73, mapc ekI ekI m28 (aset Cm y.c ((K.length : Nat) : Int)), mapc mk3 ekI m29 S, mapc mk3 ekI m30 (aset R y.key ((i : Nat) : Int)), rows encM 3 1 (some ⟨b19, 0, none⟩) l.length (ch.set i K.length), rows Sn.cells 62 1 A62 q62 ((K ++ [Sn.nil]).set K.length (⟨A86, q86, (Sn.nil.l ++ [i])⟩ : Sn)), all (((K ++ [Sn.nil]).set K.length (⟨A86, q86, (Sn.nil.l ++ [i])⟩ : Sn)).map Sn.chO), rows encT 4 1 (some ⟨b22, 0, none⟩) l.length (List.replicate l.length false), rows encI 3 1 (some ⟨b25, 0, none⟩) l.length (af.set i (-1)), ros Ev.cells Al l] (by simp only [List.length_set]) ?_
            refine To.again (l.length - (i + 1)) (by omega) ⟨i + 1, ((K ++ [Sn.nil]).set K.length (⟨A86, q86, (Sn.nil.l ++ [i])⟩ : Sn)), A62, q62, (ch.set i K.length), af.set i (-1), (aset Cm y.c ((K.length : Nat) : Int)), S, (aset R y.key ((i : Nat) : Int)), rfl, rfl, rfl, (by omega), (hI.step hy (k := K.length) (.inr ⟨hnone, by rw [List.length_map], by simp [List.map_set, Sn.nil, List.set_append], rfl⟩) ((se_step hI.se hy).2 (by omega)) ((se_step hI.re hy).1 hr2) (by rcases hI.after2 hy hr2 with ⟨h1, h2⟩ | ⟨h1, h2⟩ <;> simp_all))⟩
        ·
          omega
      ·
        refine To.skip ?_
        refine To.thenN ?_
        refine To.seq ?_
        refine To.reg ?_
        refine To.rd rfl rfl rfl (Rd.move rfl rfl) ?_
        refine To.rd rfl rfl rfl (Rd.neq rfl rfl rfl) ?_
        refine To.nil ?_
        refine To.thenN ?_
        refine To.condP rfl (fun c106 => ?_) (fun c106 => ?_)
        ·
          refine To.seq ?_
          refine To.seq ?_
          refine To.reg ?_
          refine To.rd rfl rfl rfl (Rd.move rfl rfl) ?_
          refine To.rd rfl rfl rfl (Rd.loadS (i := 0) rfl rfl r55 rfl box_whole rfl) ?_
          refine To.rd rfl rfl rfl (Rd.as (v' := .tuple #[.int .i64 ((aget R y.key).getD 0), .bool ((aget R y.key).isSome)]) rfl (Rd.lookupOk (i := 9) (k := y.key) (m := R) keyM 0 rfl Try.underlying53 zv3 rfl rfl rfl)) ?_
          refine To.rd rfl rfl rfl (Rd.move rfl rfl) ?_
          refine To.rd rfl rfl rfl (Rd.extract rfl rfl rfl) ?_
          refine To.rd rfl rfl rfl (Rd.extract rfl rfl rfl) ?_
          refine To.rd rfl rfl rfl (Rd.assign rfl rfl) ?_
          refine To.rd rfl rfl rfl (Rd.assign rfl rfl) ?_
          refine To.nil ?_
          refine To.thenN ?_
          refine To.seq ?_
          refine To.reg ?_
          refine To.rd rfl rfl rfl (Rd.move rfl rfl) ?_
          refine To.nil ?_
          refine To.thenN ?_
          refine To.cond rfl (fun c113 => ?_) (fun c113 => ?_)
          ·
            refine To.reg ?_
            refine To.rd rfl rfl rfl (Rd.load (i := 6) rfl rfl c73 rfl (box_gives1 rfl)) ?_
            refine To.rd rfl rfl rfl (Rd.nilCheck rfl rfl) ?_
            refine To.rd rfl rfl rfl (Rd.field rfl rfl fl79_5) ?_
            refine To.rd rfl rfl rfl (Rd.load (i := 5) rfl rfl c62 rfl (box_gives1 rfl)) ?_
            refine To.rd rfl rfl rfl (Rd.move rfl rfl) ?_
            refine To.rd rfl rfl rfl (Rd.move rfl rfl) ?_
            refine To.rd rfl rfl rfl (Rd.indexS (j := i) rfl rfl rfl rfl s62 (by omega)) ?_
            refine To.up rfl rfl (Up.store (i := 13) rfl rfl rfl c3 rfl rfl (rows_takes encI_ok (y := ((aget R y.key).getD 0)) (by decide) (by omega))) ?_
            refine To.nil ?_
            refine To.sub [(0, .slice Al l.length cl), (3, .pointer (some ⟨b3, 0, none⟩)), (4, .map (some m28)), (5, .map (some m29)), (6, .map (some m30)), (31, .slice Al l.length cl), (32, .int .i64 ((l.length : Nat) : Int)), (33, .int .i64 ((i : Nat) : Int)), (34, .bool (decide (((i : Nat) : Int) < ((l.length : Nat) : Int)))), (8, .pointer (some ⟨b8, 0, none⟩)), (7, .int .i64 ((i : Nat) : Int)), (9, .int .i64 ((K.length : Nat) : Int)), (10, .bool ((aget Cm y.c).isSome)), (46, .bool (!((aget Cm y.c).isSome))), (11, .pointer (some ⟨b11, 0, none⟩)), (12, .int .i64 y.rl), (13, .map (some m29)), (14, .map (some m30)), (102, .bool (decide (y.rl = 2))), (106, .bool (decide (y.rl ≠ 0))), (15, .int .i64 ((aget R y.key).getD 0)), (16, .bool ((aget R y.key).isSome)), (113, .bool ((aget R y.key).isSome))] ⟨rfl, rfl, rfl, rfl, rfl, rfl, rfl, rfl, rfl, rfl, rfl, rfl, rfl, rfl, rfl, rfl, rfl, rfl, rfl, rfl, rfl, rfl, rfl, trivial⟩ ?_
            refine To.thenN ?_
            refine To.reg ?_
            refine To.rd rfl rfl rfl (Rd.move rfl rfl) ?_
            refine To.rd rfl rfl rfl (Rd.loadS (i := 0) rfl rfl r55 rfl box_whole rfl) ?_
            refine To.rd rfl rfl rfl (Rd.move rfl rfl) ?_
            refine To.up rfl rfl (Up.mapUpdate (i := 8) (k := y.key) (v := ((i : Nat) : Int)) (m := S) keyM rfl Try.underlying53 rfl rfl rfl rfl) ?_
            refine To.nil ?_
            refine To.blockN ?_
            refine To.thenN ?_
            refine To.reg ?_
            refine To.rd rfl rfl rfl (Rd.inc rfl rfl rfl (by omega)) ?_
            refine To.rd rfl rfl rfl (Rd.move rfl rfl) ?_
            refine To.nil ?_
            refine To.thenN ?_
            have hr1 : y.rl = 1 := by have := rl_cases y; omega
            refine To.sub [(0, .slice Al l.length cl), (3, .pointer (some ⟨b3, 0, none⟩)), (4, .map (some m28)), (5, .map (some m29)), (6, .map (some m30)), (31, .slice Al l.length cl), (32, .int .i64 ((l.length : Nat) : Int)), (33, .int .i64 (((i + 1) : Nat) : Int))] ⟨rfl, rfl, rfl, rfl, rfl, rfl, rfl, rfl, trivial⟩ ?_
            refine To.only [5, 5, 5, 5, 5, 5, 5, 1, 4, 4, 4] rfl ?_
            refine To.as [box b27 [.slice none 0 0, .slice (some ⟨b19, 0, none⟩) (ch.set i K.length).length l.length, .slice A62 ((K ++ [Sn.nil]).set K.length (⟨A86, q86, (Sn.nil.l ++ [i])⟩ : Sn)).length q62, .slice none 0 0, .slice (some ⟨b22, 0, none⟩) ((List.replicate l.length false).length) l.length, .slice (some ⟨b25, 0, none⟩) (af.set i ((aget R y.key).getD 0)).length l.length, .nilFunc, .nilFunc] 79, box b3 [.pointer (some ⟨b27, 0, none⟩)] 73, mapc ekI ekI m28 (aset Cm y.c ((K.length : Nat) : Int)), mapc mk3 ekI m29 (aset S y.key ((i : Nat) : Int)), mapc mk3 ekI m30 R, rows encM 3 1 (some ⟨b19, 0, none⟩) l.length (ch.set i K.length), rows Sn.cells 62 1 A62 q62 ((K ++ [Sn.nil]).set K.length (⟨A86, q86, (Sn.nil.l ++ [i])⟩ : Sn)), all (((K ++ [Sn.nil]).set K.length (⟨A86, q86, (Sn.nil.l ++ [i])⟩ : Sn)).map Sn.chO), rows encT 4 1 (some ⟨b22, 0, none⟩) l.length (List.replicate l.length false), rows encI 3 1 (some ⟨b25, 0, none⟩) l.length (af.set i ((aget R y.key).getD 0)), ros Ev.cells Al l] (by simp only [List.length_set, List.set_set]) ?_
            refine To.again (l.length - (i + 1)) (by omega) ⟨i + 1, ((K ++ [Sn.nil]).set K.length (⟨A86, q86, (Sn.nil.l ++ [i])⟩ : Sn)), A62, q62, (ch.set i K.length), af.set i ((aget R y.key).getD 0), (aset Cm y.c ((K.length : Nat) : Int)), (aset S y.key ((i : Nat) : Int)), R, rfl, rfl, rfl, (by omega), (hI.step hy (k := K.length) (.inr ⟨hnone, by rw [List.length_map], by simp [List.map_set, Sn.nil, List.set_append], rfl⟩) ((se_step hI.se hy).1 hr1) ((se_step hI.re hy).2 (by omega)) (by rcases hI.after1 hy hr1 with ⟨h1, h2⟩ | ⟨h1, h2⟩ <;> simp_all))⟩
          ·
            refine To.skip ?_
            refine To.thenN ?_
            refine To.reg ?_
            refine To.rd rfl rfl rfl (Rd.move rfl rfl) ?_
            refine To.rd rfl rfl rfl (Rd.loadS (i := 0) rfl rfl r55 rfl box_whole rfl) ?_
            refine To.rd rfl rfl rfl (Rd.move rfl rfl) ?_
            refine To.up rfl rfl (Up.mapUpdate (i := 8) (k := y.key) (v := ((i : Nat) : Int)) (m := S) keyM rfl Try.underlying53 rfl rfl rfl rfl) ?_
            refine To.nil ?_
            refine To.blockN ?_
            refine To.thenN ?_
            refine To.reg ?_
            refine To.rd rfl rfl rfl (Rd.inc rfl rfl rfl (by omega)) ?_
            refine To.rd rfl rfl rfl (Rd.move rfl rfl) ?_
            refine To.nil ?_
            refine To.thenN ?_
            have hr1 : y.rl = 1 := by have := rl_cases y; omega
            refine To.sub [(0, .slice Al l.length cl), (3, .pointer (some ⟨b3, 0, none⟩)), (4, .map (some m28)), (5, .map (some m29)), (6, .map (some m30)), (31, .slice Al l.length cl), (32, .int .i64 ((l.length : Nat) : Int)), (33, .int .i64 (((i + 1) : Nat) : Int))] ⟨rfl, rfl, rfl, rfl, rfl, rfl, rfl, rfl, trivial⟩ ?_
            refine To.only [5, 5, 5, 5, 5, 5, 5, 1, 4, 4, 4] rfl ?_
            refine To.as [box b27 [.slice none 0 0, .slice (some ⟨b19, 0, none⟩) (ch.set i K.length).length l.length, .slice A62 ((K ++ [Sn.nil]).set K.length (⟨A86, q86, (Sn.nil.l ++ [i])⟩ : Sn)).length q62, .slice none 0 0, .slice (some ⟨b22, 0, none⟩) ((List.replicate l.length false).length) l.length, .slice (some ⟨b25, 0, none⟩) (af.set i (-1)).length l.length, .nilFunc, .nilFunc] 79, box b3 [.pointer (some ⟨b27, 0, none⟩)] 73, mapc ekI ekI m28 (aset Cm y.c ((K.length : Nat) : Int)), mapc mk3 ekI m29 (aset S y.key ((i : Nat) : Int)), mapc mk3 ekI m30 R, rows encM 3 1 (some ⟨b19, 0, none⟩) l.length (ch.set i K.length), rows Sn.cells 62 1 A62 q62 ((K ++ [Sn.nil]).set K.length (⟨A86, q86, (Sn.nil.l ++ [i])⟩ : Sn)), all (((K ++ [Sn.nil]).set K.length (⟨A86, q86, (Sn.nil.l ++ [i])⟩ : Sn)).map Sn.chO), rows encT 4 1 (some ⟨b22, 0, none⟩) l.length (List.replicate l.length false), rows encI 3 1 (some ⟨b25, 0, none⟩) l.length (af.set i (-1)), ros Ev.cells Al l] (by simp only [List.length_set]) ?_
            refine To.again (l.length - (i + 1)) (by omega) ⟨i + 1, ((K ++ [Sn.nil]).set K.length (⟨A86, q86, (Sn.nil.l ++ [i])⟩ : Sn)), A62, q62, (ch.set i K.length), af.set i (-1), (aset Cm y.c ((K.length : Nat) : Int)), (aset S y.key ((i : Nat) : Int)), R, rfl, rfl, rfl, (by omega), (hI.step hy (k := K.length) (.inr ⟨hnone, by rw [List.length_map], by simp [List.map_set, Sn.nil, List.set_append], rfl⟩) ((se_step hI.se hy).1 hr1) ((se_step hI.re hy).2 (by omega)) (by rcases hI.after1 hy hr1 with ⟨h1, h2⟩ | ⟨h1, h2⟩ <;> simp_all))⟩
        ·
          refine To.skip ?_
          refine To.blockN ?_
          refine To.thenN ?_
          refine To.reg ?_
          refine To.rd rfl rfl rfl (Rd.inc rfl rfl rfl (by omega)) ?_
          refine To.rd rfl rfl rfl (Rd.move rfl rfl) ?_
          refine To.nil ?_
          refine To.thenN ?_
          refine To.sub [(0, .slice Al l.length cl), (3, .pointer (some ⟨b3, 0, none⟩)), (4, .map (some m28)), (5, .map (some m29)), (6, .map (some m30)), (31, .slice Al l.length cl), (32, .int .i64 ((l.length : Nat) : Int)), (33, .int .i64 (((i + 1) : Nat) : Int))] ⟨rfl, rfl, rfl, rfl, rfl, rfl, rfl, rfl, trivial⟩ ?_
          refine To.only [5, 5, 5, 5, 5, 5, 5, 1, 4, 4, 4] rfl ?_
          refine To.as [box b27 [.slice none 0 0, .slice (some ⟨b19, 0, none⟩) (ch.set i K.length).length l.length, .slice A62 ((K ++ [Sn.nil]).set K.length (⟨A86, q86, (Sn.nil.l ++ [i])⟩ : Sn)).length q62, .slice none 0 0, .slice (some ⟨b22, 0, none⟩) ((List.replicate l.length false).length) l.length, .slice (some ⟨b25, 0, none⟩) (af.set i (-1)).length l.length, .nilFunc, .nilFunc] 79, box b3 [.pointer (some ⟨b27, 0, none⟩)] 73, mapc ekI ekI m28 (aset Cm y.c ((K.length : Nat) : Int)), mapc mk3 ekI m29 S, mapc mk3 ekI m30 R, rows encM 3 1 (some ⟨b19, 0, none⟩) l.length (ch.set i K.length), rows Sn.cells 62 1 A62 q62 ((K ++ [Sn.nil]).set K.length (⟨A86, q86, (Sn.nil.l ++ [i])⟩ : Sn)), all (((K ++ [Sn.nil]).set K.length (⟨A86, q86, (Sn.nil.l ++ [i])⟩ : Sn)).map Sn.chO), rows encT 4 1 (some ⟨b22, 0, none⟩) l.length (List.replicate l.length false), rows encI 3 1 (some ⟨b25, 0, none⟩) l.length (af.set i (-1)), ros Ev.cells Al l] (by simp only [List.length_set]) ?_
          refine To.again (l.length - (i + 1)) (by omega) ⟨i + 1, ((K ++ [Sn.nil]).set K.length (⟨A86, q86, (Sn.nil.l ++ [i])⟩ : Sn)), A62, q62, (ch.set i K.length), af.set i (-1), (aset Cm y.c ((K.length : Nat) : Int)), S, R, rfl, rfl, rfl, (by omega), (hI.step hy (k := K.length) (.inr ⟨hnone, by rw [List.length_map], by simp [List.map_set, Sn.nil, List.set_append], rfl⟩) ((se_step hI.se hy).2 (by omega)) ((se_step hI.re hy).2 (by omega)) (after0 hy (by omega)).symm)⟩
    ·
      refine To.skip ?_
      refine To.thenN ?_
      refine To.seq ?_
      obtain ⟨k, hk0, hkl⟩ : ∃ k : Nat, aget Cm y.c = some (k : Int) ∧ k < (K.map Sn.l).length := by
        rcases hI.cm y.c with ⟨k, h1, h2, _⟩ | ⟨h1, _⟩
        · exact ⟨k, h1, h2⟩
        · rw [h1] at c46; simp at c46
      rw [List.length_map] at hkl
      have hkv : (aget Cm y.c).getD 0 = ((k : Nat) : Int) := by rw [hk0]; rfl
      obtain ⟨x, hs⟩ : ∃ z0, K[k]? = some z0 := ⟨K[k]'(by omega), List.getElem?_eq_getElem _⟩
      have hxm : (K.map Sn.l)[k]? = some x.l := by simp [hs]
      have hxl : x.l.length ≤ 1000000 := by
        rw [hI.ks k x.l hxm]
        refine Nat.le_trans (List.length_filter_le _ _) ?_
        rw [List.length_range]; omega
      refine To.sub [(0, .slice Al l.length cl), (3, .pointer (some ⟨b3, 0, none⟩)), (4, .map (some m28)), (5, .map (some m29)), (6, .map (some m30)), (31, .slice Al l.length cl), (32, .int .i64 ((l.length : Nat) : Int)), (33, .int .i64 ((i : Nat) : Int)), (34, .bool (decide (((i : Nat) : Int) < ((l.length : Nat) : Int)))), (8, .pointer (some ⟨b8, 0, none⟩)), (7, .int .i64 ((i : Nat) : Int)), (9, .int .i64 ((k : Nat) : Int)), (10, .bool ((aget Cm y.c).isSome)), (46, .bool (!((aget Cm y.c).isSome)))] ⟨rfl, rfl, rfl, rfl, rfl, rfl, rfl, rfl, rfl, rfl, rfl, congrArg (fun z => some (Value.int .i64 z)) hkv, rfl, rfl, trivial⟩ ?_
      refine To.reg ?_
      refine To.rd rfl rfl rfl (Rd.load (i := 2) rfl rfl c73 rfl (box_gives1 rfl)) ?_
      refine To.rd rfl rfl rfl (Rd.nilCheck rfl rfl) ?_
      refine To.rd rfl rfl rfl (Rd.field rfl rfl fl79_1) ?_
      refine To.rd rfl rfl rfl (Rd.load (i := 1) rfl rfl c62 rfl (box_gives1 rfl)) ?_
      refine To.rd rfl rfl rfl (Rd.move rfl rfl) ?_
      refine To.rd rfl rfl rfl (Rd.move rfl rfl) ?_
      refine To.rd rfl rfl rfl (Rd.indexRows (i := 6) (j := i) rfl rfl rfl s62 rfl hci) ?_
      refine To.up rfl rfl (Up.store (i := 6) rfl rfl rfl c3 rfl rfl (rows_takes encM_ok (y := k) (by decide) (by omega))) ?_
      refine To.nil ?_
      refine To.thenN ?_
      refine To.seq ?_
      refine To.only [8, 0, 0, 0, 0, 0, 0, 0, 0, 0, 0, 0] rfl ?_
      refine To.allOut k (sn_at hs) ?_
      have hkK : k < K.length := by omega
      refine To.know (p := Ak = some ⟨blk Ak, ofs Ak, none⟩) (fun w hw => rows_some encSn (by decide) (l := K) (by omega) 9 rfl hw) (fun hAk => ?_)
      refine To.flow [box b27 [.slice none 0 0, .slice (some ⟨b19, 0, none⟩) ch.length l.length, .slice Ak K.length qk, .slice none 0 0, .slice (some ⟨b22, 0, none⟩) ((List.replicate l.length false).length) l.length, .slice (some ⟨b25, 0, none⟩) af.length l.length, .nilFunc, .nilFunc] 79, box b3 [.pointer (some ⟨b27, 0, none⟩)] 73] [⟨0, [], 0⟩, ⟨1, [], 0⟩, ⟨2, [], 0⟩, ⟨3, [], 0⟩, ⟨4, [], 0⟩, ⟨5, [], 0⟩, ⟨6, [], 0⟩, ⟨7, [], 0⟩, ⟨8, [], 0⟩, ⟨9, [], 0⟩, ⟨12, [], 0⟩, ⟨10, [], 1⟩, ⟨11, [], 1⟩, ⟨13, [], 2⟩, ⟨14, [13], 5⟩, ⟨15, [], 0⟩, ⟨16, [], 5⟩] mixed (by kernel_rfl) (oks_cons (oks_at 3 rfl) (oks_cons (oks_at 4 rfl) (oks_nil _))) ?_
      refine FlowS.free rfl rfl rfl rfl (Rd.load (i := 1) rfl rfl c73 rfl (box_gives1 rfl)) ?_
      refine FlowS.free rfl rfl rfl rfl (Rd.nilCheck rfl rfl) ?_
      refine FlowS.free rfl rfl rfl rfl (Rd.field rfl rfl fl79_2) ?_
      refine FlowS.free rfl rfl rfl rfl (Rd.load (i := 0) rfl rfl c71 rfl (box_gives1 rfl)) ?_
      refine FlowS.free rfl rfl rfl rfl (Rd.move rfl rfl) ?_
      refine FlowS.free rfl rfl rfl rfl (Rd.load (i := 1) rfl rfl c73 rfl (box_gives1 rfl)) ?_
      refine FlowS.free rfl rfl rfl rfl (Rd.nilCheck rfl rfl) ?_
      refine FlowS.free rfl rfl rfl rfl (Rd.field rfl rfl fl79_2) ?_
      refine FlowS.free rfl rfl rfl rfl (Rd.load (i := 0) rfl rfl c71 rfl (box_gives1 rfl)) ?_
      refine FlowS.free rfl rfl rfl rfl (Rd.move rfl rfl) ?_
      refine FlowS.free rfl rfl rfl rfl (Rd.move rfl rfl) ?_
      refine FlowS.rd rfl rfl rfl rfl (Rd.indexRows (i := 9) (j := k) rfl rfl rfl s71 rfl hs) ?_
      refine FlowS.rd rfl rfl rfl rfl (Rd.load (i := 9) rfl rfl c62 rfl (gives_1 (rows_gives encSn hs) rfl)) ?_
      refine FlowS.mk rfl rfl rfl rfl rfl (Mk.sliceN (us := [.int .i64 ((i : Nat) : Int)]) rfl s62 rfl rfl rfl rfl rfl rfl) ?_
      rintro _ _ ⟨b85_2, rfl, rfl⟩
      refine FlowS.ge rfl rfl rfl rfl (Ge.append1 encM_ok (i := 1) (j := 0) (el := i) rfl s62 rfl rfl rfl rfl rfl (by first | omega | (simp only [List.length_append, List.length_cons, List.length_nil]; omega)) (by first | omega | (simp only [List.length_append, List.length_cons, List.length_nil]; omega))) ?_
      rintro _ _ ⟨A86_2, q86_2, rfl, rfl⟩
      refine ⟨oks_cons (oks_at 4 rfl) (oks_cons (oks_at 5 rfl) (oks_nil _)), ?_⟩
      refine FlowS.free rfl rfl rfl rfl (Rd.indexS (j := k) hAk rfl rfl rfl s71 hkK) ?_
      refine FlowS.up (Γ' := [row 3 1 (some ⟨b85_2, 0, none⟩) 1 1 [.int .i64 ((i : Nat) : Int)], rows encM 3 1 A86_2 q86_2 (x.l ++ [i]), all ((K.map Sn.chO).eraseIdx k), box b8 [.int .i64 y.t, .int .i64 y.c, .int .u8 y.k, .int .i64 y.p, .int .i64 y.n, .int .i64 y.cp, .int .i64 y.h, .int .i64 y.d, .slice y.A y.args.length y.cap] 37, box b27 [.slice none 0 0, .slice (some ⟨b19, 0, none⟩) ch.length l.length, .slice Ak K.length qk, .slice none 0 0, .slice (some ⟨b22, 0, none⟩) ((List.replicate l.length false).length) l.length, .slice (some ⟨b25, 0, none⟩) af.length l.length, .nilFunc, .nilFunc] 79, box b3 [.pointer (some ⟨b27, 0, none⟩)] 73, mapc ekI ekI m28 Cm, mapc mk3 ekI m29 S, mapc mk3 ekI m30 R, rows encM 3 1 (some ⟨b19, 0, none⟩) l.length (ch.set i k), rows Sn.cells 62 1 Ak qk (K.set k (⟨A86_2, q86_2, (x.l ++ [i])⟩ : Sn)), rows encT 4 1 (some ⟨b22, 0, none⟩) l.length (List.replicate l.length false), rows encI 3 1 (some ⟨b25, 0, none⟩) l.length af, ros Ev.cells Al l]) rfl rfl rfl (Up.store (i := 10) rfl rfl rfl c62 rfl rfl (rows_takes encSn (y := (⟨A86_2, q86_2, (x.l ++ [i])⟩ : Sn)) (by decide) (by omega))) (oks_cons (oks_at 4 rfl) (oks_cons (oks_at 5 rfl) (oks_nil _))) ?_
      refine FlowS.fin ?_
      refine To.as [row 3 1 (some ⟨b85_2, 0, none⟩) 1 1 [.int .i64 ((i : Nat) : Int)], rows encM 3 1 A86_2 q86_2 (x.l ++ [i]), all ((K.map Sn.chO).eraseIdx k), box b8 [.int .i64 y.t, .int .i64 y.c, .int .u8 y.k, .int .i64 y.p, .int .i64 y.n, .int .i64 y.cp, .int .i64 y.h, .int .i64 y.d, .slice y.A y.args.length y.cap] 37, box b27 [.slice none 0 0, .slice (some ⟨b19, 0, none⟩) ch.length l.length, .slice Ak K.length qk, .slice none 0 0, .slice (some ⟨b22, 0, none⟩) ((List.replicate l.length false).length) l.length, .slice (some ⟨b25, 0, none⟩) af.length l.length, .nilFunc, .nilFunc] 79, box b3 [.pointer (some ⟨b27, 0, none⟩)] 73, mapc ekI ekI m28 Cm, mapc mk3 ekI m29 S, mapc mk3 ekI m30 R, rows encM 3 1 (some ⟨b19, 0, none⟩) l.length (ch.set i k), rows Sn.cells 62 1 Ak qk (K.set k (⟨A86_2, q86_2, (x.l ++ [i])⟩ : Sn)), rows encT 4 1 (some ⟨b22, 0, none⟩) l.length (List.replicate l.length false), rows encI 3 1 (some ⟨b25, 0, none⟩) l.length af, ros Ev.cells Al l] rfl ?_
      refine To.sub [(0, .slice Al l.length cl), (3, .pointer (some ⟨b3, 0, none⟩)), (4, .map (some m28)), (5, .map (some m29)), (6, .map (some m30)), (31, .slice Al l.length cl), (32, .int .i64 ((l.length : Nat) : Int)), (33, .int .i64 ((i : Nat) : Int)), (34, .bool (decide (((i : Nat) : Int) < ((l.length : Nat) : Int)))), (8, .pointer (some ⟨b8, 0, none⟩)), (7, .int .i64 ((i : Nat) : Int)), (9, .int .i64 ((k : Nat) : Int)), (10, .bool ((aget Cm y.c).isSome)), (46, .bool (!((aget Cm y.c).isSome)))] ⟨rfl, rfl, rfl, rfl, rfl, rfl, rfl, rfl, rfl, rfl, rfl, rfl, rfl, rfl, trivial⟩ ?_
      refine To.thenN ?_
      refine To.seq ?_
      refine To.only [1, 1, 0, 0, 0, 0, 0, 0, 0, 0, 0, 0, 0, 0] rfl ?_
      refine To.allIn k (sn_at hs) ?_
      rw [sn_set]
      refine To.reg ?_
      refine To.rd rfl rfl rfl (Rd.load (i := 4) rfl rfl c73 rfl (box_gives1 rfl)) ?_
      refine To.rd rfl rfl rfl (Rd.nilCheck rfl rfl) ?_
      refine To.rd rfl rfl rfl (Rd.field rfl rfl fl79_5) ?_
      refine To.rd rfl rfl rfl (Rd.load (i := 3) rfl rfl c62 rfl (box_gives1 rfl)) ?_
      refine To.rd rfl rfl rfl (Rd.move rfl rfl) ?_
      refine To.rd rfl rfl rfl (Rd.indexRows (i := 11) (j := i) rfl rfl rfl s62 rfl hai) ?_
      refine To.up rfl rfl (Up.store (i := 11) rfl rfl rfl c3 rfl rfl (rows_takes encI_ok (y := (-1)) (by decide) (by omega))) ?_
      refine To.nil ?_
      refine To.thenN ?_
      refine To.seq ?_
      refine To.reg ?_
      refine To.rd rfl rfl rfl (Rd.loadS (i := 2) rfl rfl r37 rfl box_whole rfl) ?_
      refine To.callV rfl rfl rfl (Ent.fn rfl rfl ca33) (message_fn y) rfl (oks_nil _) ?_
      refine To.rd rfl rfl rfl (Rd.move rfl rfl) ?_
      refine To.rd rfl rfl rfl (Rd.extract rfl rfl rfl) ?_
      refine To.rd rfl rfl rfl (Rd.extract rfl rfl rfl) ?_
      refine To.alloc rfl rfl rfl rfl z55 (fun b11_2 => ?_)
      refine To.up rfl rfl (Up.storeS (i := 0) rfl rfl rfl r55 rfl rfl rfl (box_takesAll rfl)) ?_
      refine To.rd rfl rfl rfl (Rd.assign rfl rfl) ?_
      refine To.nil ?_
      refine To.thenN ?_
      refine To.seq ?_
      refine To.reg ?_
      refine To.rd rfl rfl rfl (Rd.move rfl rfl) ?_
      refine To.rd rfl rfl rfl (Rd.move rfl rfl) ?_
      refine To.rd rfl rfl rfl (Rd.assign rfl rfl) ?_
      refine To.rd rfl rfl rfl (Rd.assign rfl rfl) ?_
      refine To.nil ?_
      refine To.sub [(0, .slice Al l.length cl), (3, .pointer (some ⟨b3, 0, none⟩)), (4, .map (some m28)), (5, .map (some m29)), (6, .map (some m30)), (31, .slice Al l.length cl), (32, .int .i64 ((l.length : Nat) : Int)), (33, .int .i64 ((i : Nat) : Int)), (34, .bool (decide (((i : Nat) : Int) < ((l.length : Nat) : Int)))), (8, .pointer (some ⟨b8, 0, none⟩)), (7, .int .i64 ((i : Nat) : Int)), (9, .int .i64 ((k : Nat) : Int)), (10, .bool ((aget Cm y.c).isSome)), (46, .bool (!((aget Cm y.c).isSome))), (11, .pointer (some ⟨b11_2, 0, none⟩)), (12, .int .i64 y.rl), (13, .map (some m29)), (14, .map (some m30))] ⟨rfl, rfl, rfl, rfl, rfl, rfl, rfl, rfl, rfl, rfl, rfl, rfl, rfl, rfl, rfl, rfl, rfl, rfl, trivial⟩ ?_
      refine To.thenN ?_
      refine To.seq ?_
      refine To.seq ?_
      refine To.reg ?_
      refine To.rd rfl rfl rfl (Rd.move rfl rfl) ?_
      refine To.rd rfl rfl rfl (Rd.eql rfl rfl rfl) ?_
      refine To.nil ?_
      refine To.thenN ?_
      refine To.condP rfl (fun c102 => ?_) (fun c102 => ?_)
      ·
        refine To.reg ?_
        refine To.rd rfl rfl rfl (Rd.move rfl rfl) ?_
        refine To.rd rfl rfl rfl (Rd.move rfl rfl) ?_
        refine To.rd rfl rfl rfl (Rd.assign rfl rfl) ?_
        refine To.rd rfl rfl rfl (Rd.assign rfl rfl) ?_
        refine To.nil ?_
        refine To.thenN ?_
        refine To.seq ?_
        refine To.reg ?_
        refine To.rd rfl rfl rfl (Rd.move rfl rfl) ?_
        refine To.rd rfl rfl rfl (Rd.neq rfl rfl rfl) ?_
        refine To.nil ?_
        refine To.thenN ?_
        refine To.condP rfl (fun c106 => ?_) (fun c106 => ?_)
        ·
          refine To.seq ?_
          refine To.seq ?_
          refine To.reg ?_
          refine To.rd rfl rfl rfl (Rd.move rfl rfl) ?_
          refine To.rd rfl rfl rfl (Rd.loadS (i := 0) rfl rfl r55 rfl box_whole rfl) ?_
          refine To.rd rfl rfl rfl (Rd.as (v' := .tuple #[.int .i64 ((aget S y.key).getD 0), .bool ((aget S y.key).isSome)]) rfl (Rd.lookupOk (i := 7) (k := y.key) (m := S) keyM 0 rfl Try.underlying53 zv3 rfl rfl rfl)) ?_
          refine To.rd rfl rfl rfl (Rd.move rfl rfl) ?_
          refine To.rd rfl rfl rfl (Rd.extract rfl rfl rfl) ?_
          refine To.rd rfl rfl rfl (Rd.extract rfl rfl rfl) ?_
          refine To.rd rfl rfl rfl (Rd.assign rfl rfl) ?_
          refine To.rd rfl rfl rfl (Rd.assign rfl rfl) ?_
          refine To.nil ?_
          refine To.thenN ?_
          refine To.seq ?_
          refine To.reg ?_
          refine To.rd rfl rfl rfl (Rd.move rfl rfl) ?_
          refine To.nil ?_
          refine To.thenN ?_
          refine To.cond rfl (fun c113 => ?_) (fun c113 => ?_)
          ·
            refine To.reg ?_
            refine To.rd rfl rfl rfl (Rd.load (i := 5) rfl rfl c73 rfl (box_gives1 rfl)) ?_
            refine To.rd rfl rfl rfl (Rd.nilCheck rfl rfl) ?_
            refine To.rd rfl rfl rfl (Rd.field rfl rfl fl79_5) ?_
            refine To.rd rfl rfl rfl (Rd.load (i := 4) rfl rfl c62 rfl (box_gives1 rfl)) ?_
            refine To.rd rfl rfl rfl (Rd.move rfl rfl) ?_
            refine To.rd rfl rfl rfl (Rd.move rfl rfl) ?_
            refine To.rd rfl rfl rfl (Rd.indexS (j := i) rfl rfl rfl rfl s62 (by omega)) ?_
            refine To.up rfl rfl (Up.store (i := 12) rfl rfl rfl c3 rfl rfl (rows_takes encI_ok (y := ((aget S y.key).getD 0)) (by decide) (by omega))) ?_
            refine To.nil ?_
            refine To.sub [(0, .slice Al l.length cl), (3, .pointer (some ⟨b3, 0, none⟩)), (4, .map (some m28)), (5, .map (some m29)), (6, .map (some m30)), (31, .slice Al l.length cl), (32, .int .i64 ((l.length : Nat) : Int)), (33, .int .i64 ((i : Nat) : Int)), (34, .bool (decide (((i : Nat) : Int) < ((l.length : Nat) : Int)))), (8, .pointer (some ⟨b8, 0, none⟩)), (7, .int .i64 ((i : Nat) : Int)), (9, .int .i64 ((k : Nat) : Int)), (10, .bool ((aget Cm y.c).isSome)), (46, .bool (!((aget Cm y.c).isSome))), (11, .pointer (some ⟨b11_2, 0, none⟩)), (12, .int .i64 y.rl), (13, .map (some m30)), (14, .map (some m29)), (102, .bool (decide (y.rl = 2))), (106, .bool (decide (y.rl ≠ 0))), (15, .int .i64 ((aget S y.key).getD 0)), (16, .bool ((aget S y.key).isSome)), (113, .bool ((aget S y.key).isSome))] ⟨rfl, rfl, rfl, rfl, rfl, rfl, rfl, rfl, rfl, rfl, rfl, rfl, rfl, rfl, rfl, rfl, rfl, rfl, rfl, rfl, rfl, rfl, rfl, trivial⟩ ?_
            refine To.thenN ?_
            refine To.reg ?_
            refine To.rd rfl rfl rfl (Rd.move rfl rfl) ?_
            refine To.rd rfl rfl rfl (Rd.loadS (i := 0) rfl rfl r55 rfl box_whole rfl) ?_
            refine To.rd rfl rfl rfl (Rd.move rfl rfl) ?_
            refine To.up rfl rfl (Up.mapUpdate (i := 8) (k := y.key) (v := ((i : Nat) : Int)) (m := R) keyM rfl Try.underlying53 rfl rfl rfl rfl) ?_
            refine To.nil ?_
            refine To.blockN ?_
            refine To.thenN ?_
            refine To.reg ?_
            refine To.rd rfl rfl rfl (Rd.inc rfl rfl rfl (by omega)) ?_
            refine To.rd rfl rfl rfl (Rd.move rfl rfl) ?_
            refine To.nil ?_
            refine To.thenN ?_
            have hr2 : y.rl = 2 := by omega
            refine To.sub [(0, .slice Al l.length cl), (3, .pointer (some ⟨b3, 0, none⟩)), (4, .map (some m28)), (5, .map (some m29)), (6, .map (some m30)), (31, .slice Al l.length cl), (32, .int .i64 ((l.length : Nat) : Int)), (33, .int .i64 (((i + 1) : Nat) : Int))] ⟨rfl, rfl, rfl, rfl, rfl, rfl, rfl, rfl, trivial⟩ ?_
            refine To.only [4, 4, 4, 4, 4, 4, 4, 1, 3, 3, 3] rfl ?_
            refine To.as [box b27 [.slice none 0 0, .slice (some ⟨b19, 0, none⟩) (ch.set i k).length l.length, .slice Ak (K.set k (⟨A86_2, q86_2, (x.l ++ [i])⟩ : Sn)).length qk, .slice none 0 0, .slice (some ⟨b22, 0, none⟩) ((List.replicate l.length false).length) l.length, .slice (some ⟨b25, 0, none⟩) (af.set i ((aget S y.key).getD 0)).length l.length, .nilFunc, .nilFunc] 79, box b3 [.pointer (some ⟨b27, 0, none⟩)] 73, mapc ekI ekI m28 Cm, mapc mk3 ekI m29 S, mapc mk3 ekI m30 (aset R y.key ((i : Nat) : Int)), rows encM 3 1 (some ⟨b19, 0, none⟩) l.length (ch.set i k), rows Sn.cells 62 1 Ak qk (K.set k (⟨A86_2, q86_2, (x.l ++ [i])⟩ : Sn)), all ((K.set k (⟨A86_2, q86_2, (x.l ++ [i])⟩ : Sn)).map Sn.chO), rows encT 4 1 (some ⟨b22, 0, none⟩) l.length (List.replicate l.length false), rows encI 3 1 (some ⟨b25, 0, none⟩) l.length (af.set i ((aget S y.key).getD 0)), ros Ev.cells Al l] (by simp only [List.length_set, List.set_set]) ?_
            refine To.again (l.length - (i + 1)) (by omega) ⟨i + 1, (K.set k (⟨A86_2, q86_2, (x.l ++ [i])⟩ : Sn)), Ak, qk, (ch.set i k), af.set i ((aget S y.key).getD 0), Cm, S, (aset R y.key ((i : Nat) : Int)), rfl, rfl, rfl, (by omega), (hI.step hy (k := k) (.inl ⟨hk0, ⟨x.l, hxm, by rw [List.map_set]⟩, rfl⟩) ((se_step hI.se hy).2 (by omega)) ((se_step hI.re hy).1 hr2) (by rcases hI.after2 hy hr2 with ⟨h1, h2⟩ | ⟨h1, h2⟩ <;> simp_all))⟩
          ·
            refine To.skip ?_
            refine To.thenN ?_
            refine To.reg ?_
            refine To.rd rfl rfl rfl (Rd.move rfl rfl) ?_
            refine To.rd rfl rfl rfl (Rd.loadS (i := 0) rfl rfl r55 rfl box_whole rfl) ?_
            refine To.rd rfl rfl rfl (Rd.move rfl rfl) ?_
            refine To.up rfl rfl (Up.mapUpdate (i := 8) (k := y.key) (v := ((i : Nat) : Int)) (m := R) keyM rfl Try.underlying53 rfl rfl rfl rfl) ?_
            refine To.nil ?_
            refine To.sub [(0, .slice Al l.length cl), (3, .pointer (some ⟨b3, 0, none⟩)), (4, .map (some m28)), (5, .map (some m29)), (6, .map (some m30)), (31, .slice Al l.length cl), (32, .int .i64 ((l.length : Nat) : Int)), (33, .int .i64 ((i : Nat) : Int)), (34, .bool (decide (((i : Nat) : Int) < ((l.length : Nat) : Int)))), (8, .pointer (some ⟨b8, 0, none⟩)), (7, .int .i64 ((i : Nat) : Int)), (9, .int .i64 ((k : Nat) : Int)), (10, .bool ((aget Cm y.c).isSome)), (46, .bool (!((aget Cm y.c).isSome))), (11, .pointer (some ⟨b11_2, 0, none⟩)), (12, .int .i64 y.rl), (13, .map (some m30)), (14, .map (some m29)), (102, .bool (decide (y.rl = 2))), (106, .bool (decide (y.rl ≠ 0))), (15, .int .i64 ((aget S y.key).getD 0)), (16, .bool ((aget S y.key).isSome)), (113, .bool ((aget S y.key).isSome))] ⟨rfl, rfl, rfl, rfl, rfl, rfl, rfl, rfl, rfl, rfl, rfl, rfl, rfl, rfl, rfl, rfl, rfl, rfl, rfl, rfl, rfl, rfl, rfl, trivial⟩ ?_
            refine To.blockN ?_
            refine To.thenN ?_
            refine To.reg ?_
            refine To.rd rfl rfl rfl (Rd.inc rfl rfl rfl (by omega)) ?_
            refine To.rd rfl rfl rfl (Rd.move rfl rfl) ?_
            refine To.nil ?_
            refine To.thenN ?_
            have hr2 : y.rl = 2 := by omega
            refine To.sub [(0, .slice Al l.length cl), (3, .pointer (some ⟨b3, 0, none⟩)), (4, .map (some m28)), (5, .map (some m29)), (6, .map (some m30)), (31, .slice Al l.length cl), (32, .int .i64 ((l.length : Nat) : Int)), (33, .int .i64 (((i + 1) : Nat) : Int))] ⟨rfl, rfl, rfl, rfl, rfl, rfl, rfl, rfl, trivial⟩ ?_
            refine To.only [4, 4, 4, 4, 4, 4, 4, 1, 3, 3, 3] rfl ?_
            refine To.as [box b27 [.slice none 0 0, .slice (some ⟨b19, 0, none⟩) (ch.set i k).length l.length, .slice Ak (K.set k (⟨A86_2, q86_2, (x.l ++ [i])⟩ : Sn)).length qk, .slice none 0 0, .slice (some ⟨b22, 0, none⟩) ((List.replicate l.length false).length) l.length, .slice (some ⟨b25, 0, none⟩) (af.set i (-1)).length l.length, .nilFunc, .nilFunc] 79, box b3 [.pointer (some ⟨b27, 0, none⟩)] 73, mapc ekI ekI m28 Cm, mapc mk3 ekI m29 S, mapc mk3 ekI m30 (aset R y.key ((i : Nat) : Int)), rows encM 3 1 (some ⟨b19, 0, none⟩) l.length (ch.set i k), rows Sn.cells 62 1 Ak qk (K.set k (⟨A86_2, q86_2, (x.l ++ [i])⟩ : Sn)), all ((K.set k (⟨A86_2, q86_2, (x.l ++ [i])⟩ : Sn)).map Sn.chO), rows encT 4 1 (some ⟨b22, 0, none⟩) l.length (List.replicate l.length false), rows encI 3 1 (some ⟨b25, 0, none⟩) l.length (af.set i (-1)), ros Ev.cells Al l] (by simp only [List.length_set]) ?_
            refine To.again (l.length - (i + 1)) (by omega) ⟨i + 1, (K.set k (⟨A86_2, q86_2, (x.l ++ [i])⟩ : Sn)), Ak, qk, (ch.set i k), af.set i (-1), Cm, S, (aset R y.key ((i : Nat) : Int)), rfl, rfl, rfl, (by omega), (hI.step hy (k := k) (.inl ⟨hk0, ⟨x.l, hxm, by rw [List.map_set]⟩, rfl⟩) ((se_step hI.se hy).2 (by omega)) ((se_step hI.re hy).1 hr2) (by rcases hI.after2 hy hr2 with ⟨h1, h2⟩ | ⟨h1, h2⟩ <;> simp_all))⟩
        ·
          omega
      ·
        refine To.skip ?_
        refine To.thenN ?_
        refine To.seq ?_
        refine To.reg ?_
        refine To.rd rfl rfl rfl (Rd.move rfl rfl) ?_
        refine To.rd rfl rfl rfl (Rd.neq rfl rfl rfl) ?_
        refine To.nil ?_
        refine To.thenN ?_
        refine To.condP rfl (fun c106 => ?_) (fun c106 => ?_)
        ·
          refine To.seq ?_
          refine To.seq ?_
          refine To.reg ?_
          refine To.rd rfl rfl rfl (Rd.move rfl rfl) ?_
          refine To.rd rfl rfl rfl (Rd.loadS (i := 0) rfl rfl r55 rfl box_whole rfl) ?_
          refine To.rd rfl rfl rfl (Rd.as (v' := .tuple #[.int .i64 ((aget R y.key).getD 0), .bool ((aget R y.key).isSome)]) rfl (Rd.lookupOk (i := 8) (k := y.key) (m := R) keyM 0 rfl Try.underlying53 zv3 rfl rfl rfl)) ?_
          refine To.rd rfl rfl rfl (Rd.move rfl rfl) ?_
          refine To.rd rfl rfl rfl (Rd.extract rfl rfl rfl) ?_
          refine To.rd rfl rfl rfl (Rd.extract rfl rfl rfl) ?_
          refine To.rd rfl rfl rfl (Rd.assign rfl rfl) ?_
          refine To.rd rfl rfl rfl (Rd.assign rfl rfl) ?_
          refine To.nil ?_
          refine To.thenN ?_
          refine To.seq ?_
          refine To.reg ?_
          refine To.rd rfl rfl rfl (Rd.move rfl rfl) ?_
          refine To.nil ?_
          refine To.thenN ?_
          refine To.cond rfl (fun c113 => ?_) (fun c113 => ?_)
          ·
            refine To.reg ?_
            refine To.rd rfl rfl rfl (Rd.load (i := 5) rfl rfl c73 rfl (box_gives1 rfl)) ?_
            refine To.rd rfl rfl rfl (Rd.nilCheck rfl rfl) ?_
            refine To.rd rfl rfl rfl (Rd.field rfl rfl fl79_5) ?_
            refine To.rd rfl rfl rfl (Rd.load (i := 4) rfl rfl c62 rfl (box_gives1 rfl)) ?_
            refine To.rd rfl rfl rfl (Rd.move rfl rfl) ?_
            refine To.rd rfl rfl rfl (Rd.move rfl rfl) ?_
            refine To.rd rfl rfl rfl (Rd.indexS (j := i) rfl rfl rfl rfl s62 (by omega)) ?_
            refine To.up rfl rfl (Up.store (i := 12) rfl rfl rfl c3 rfl rfl (rows_takes encI_ok (y := ((aget R y.key).getD 0)) (by decide) (by omega))) ?_
            refine To.nil ?_
            refine To.sub [(0, .slice Al l.length cl), (3, .pointer (some ⟨b3, 0, none⟩)), (4, .map (some m28)), (5, .map (some m29)), (6, .map (some m30)), (31, .slice Al l.length cl), (32, .int .i64 ((l.length : Nat) : Int)), (33, .int .i64 ((i : Nat) : Int)), (34, .bool (decide (((i : Nat) : Int) < ((l.length : Nat) : Int)))), (8, .pointer (some ⟨b8, 0, none⟩)), (7, .int .i64 ((i : Nat) : Int)), (9, .int .i64 ((k : Nat) : Int)), (10, .bool ((aget Cm y.c).isSome)), (46, .bool (!((aget Cm y.c).isSome))), (11, .pointer (some ⟨b11_2, 0, none⟩)), (12, .int .i64 y.rl), (13, .map (some m29)), (14, .map (some m30)), (102, .bool (decide (y.rl = 2))), (106, .bool (decide (y.rl ≠ 0))), (15, .int .i64 ((aget R y.key).getD 0)), (16, .bool ((aget R y.key).isSome)), (113, .bool ((aget R y.key).isSome))] ⟨rfl, rfl, rfl, rfl, rfl, rfl, rfl, rfl, rfl, rfl, rfl, rfl, rfl, rfl, rfl, rfl, rfl, rfl, rfl, rfl, rfl, rfl, rfl, trivial⟩ ?_
            refine To.thenN ?_
            refine To.reg ?_
            refine To.rd rfl rfl rfl (Rd.move rfl rfl) ?_
            refine To.rd rfl rfl rfl (Rd.loadS (i := 0) rfl rfl r55 rfl box_whole rfl) ?_
            refine To.rd rfl rfl rfl (Rd.move rfl rfl) ?_
            refine To.up rfl rfl (Up.mapUpdate (i := 7) (k := y.key) (v := ((i : Nat) : Int)) (m := S) keyM rfl Try.underlying53 rfl rfl rfl rfl) ?_
            refine To.nil ?_
            refine To.blockN ?_
            refine To.thenN ?_
            refine To.reg ?_
            refine To.rd rfl rfl rfl (Rd.inc rfl rfl rfl (by omega)) ?_
            refine To.rd rfl rfl rfl (Rd.move rfl rfl) ?_
            refine To.nil ?_
            refine To.thenN ?_
            have hr1 : y.rl = 1 := by have := rl_cases y; omega
            refine To.sub [(0, .slice Al l.length cl), (3, .pointer (some ⟨b3, 0, none⟩)), (4, .map (some m28)), (5, .map (some m29)), (6, .map (some m30)), (31, .slice Al l.length cl), (32, .int .i64 ((l.length : Nat) : Int)), (33, .int .i64 (((i + 1) : Nat) : Int))] ⟨rfl, rfl, rfl, rfl, rfl, rfl, rfl, rfl, trivial⟩ ?_
            refine To.only [4, 4, 4, 4, 4, 4, 4, 1, 3, 3, 3] rfl ?_
            refine To.as [box b27 [.slice none 0 0, .slice (some ⟨b19, 0, none⟩) (ch.set i k).length l.length, .slice Ak (K.set k (⟨A86_2, q86_2, (x.l ++ [i])⟩ : Sn)).length qk, .slice none 0 0, .slice (some ⟨b22, 0, none⟩) ((List.replicate l.length false).length) l.length, .slice (some ⟨b25, 0, none⟩) (af.set i ((aget R y.key).getD 0)).length l.length, .nilFunc, .nilFunc] 79, box b3 [.pointer (some ⟨b27, 0, none⟩)] 73, mapc ekI ekI m28 Cm, mapc mk3 ekI m29 (aset S y.key ((i : Nat) : Int)), mapc mk3 ekI m30 R, rows encM 3 1 (some ⟨b19, 0, none⟩) l.length (ch.set i k), rows Sn.cells 62 1 Ak qk (K.set k (⟨A86_2, q86_2, (x.l ++ [i])⟩ : Sn)), all ((K.set k (⟨A86_2, q86_2, (x.l ++ [i])⟩ : Sn)).map Sn.chO), rows encT 4 1 (some ⟨b22, 0, none⟩) l.length (List.replicate l.length false), rows encI 3 1 (some ⟨b25, 0, none⟩) l.length (af.set i ((aget R y.key).getD 0)), ros Ev.cells Al l] (by simp only [List.length_set, List.set_set]) ?_
            refine To.again (l.length - (i + 1)) (by omega) ⟨i + 1, (K.set k (⟨A86_2, q86_2, (x.l ++ [i])⟩ : Sn)), Ak, qk, (ch.set i k), af.set i ((aget R y.key).getD 0), Cm, (aset S y.key ((i : Nat) : Int)), R, rfl, rfl, rfl, (by omega), (hI.step hy (k := k) (.inl ⟨hk0, ⟨x.l, hxm, by rw [List.map_set]⟩, rfl⟩) ((se_step hI.se hy).1 hr1) ((se_step hI.re hy).2 (by omega)) (by rcases hI.after1 hy hr1 with ⟨h1, h2⟩ | ⟨h1, h2⟩ <;> simp_all))⟩
          ·
            refine To.skip ?_
            refine To.thenN ?_
            refine To.reg ?_
            refine To.rd rfl rfl rfl (Rd.move rfl rfl) ?_
            refine To.rd rfl rfl rfl (Rd.loadS (i := 0) rfl rfl r55 rfl box_whole rfl) ?_
            refine To.rd rfl rfl rfl (Rd.move rfl rfl) ?_
            refine To.up rfl rfl (Up.mapUpdate (i := 7) (k := y.key) (v := ((i : Nat) : Int)) (m := S) keyM rfl Try.underlying53 rfl rfl rfl rfl) ?_
            refine To.nil ?_
            refine To.blockN ?_
            refine To.thenN ?_
            refine To.reg ?_
            refine To.rd rfl rfl rfl (Rd.inc rfl rfl rfl (by omega)) ?_
            refine To.rd rfl rfl rfl (Rd.move rfl rfl) ?_
            refine To.nil ?_
            refine To.thenN ?_
            have hr1 : y.rl = 1 := by have := rl_cases y; omega
            refine To.sub [(0, .slice Al l.length cl), (3, .pointer (some ⟨b3, 0, none⟩)), (4, .map (some m28)), (5, .map (some m29)), (6, .map (some m30)), (31, .slice Al l.length cl), (32, .int .i64 ((l.length : Nat) : Int)), (33, .int .i64 (((i + 1) : Nat) : Int))] ⟨rfl, rfl, rfl, rfl, rfl, rfl, rfl, rfl, trivial⟩ ?_
            refine To.only [4, 4, 4, 4, 4, 4, 4, 1, 3, 3, 3] rfl ?_
            refine To.as [box b27 [.slice none 0 0, .slice (some ⟨b19, 0, none⟩) (ch.set i k).length l.length, .slice Ak (K.set k (⟨A86_2, q86_2, (x.l ++ [i])⟩ : Sn)).length qk, .slice none 0 0, .slice (some ⟨b22, 0, none⟩) ((List.replicate l.length false).length) l.length, .slice (some ⟨b25, 0, none⟩) (af.set i (-1)).length l.length, .nilFunc, .nilFunc] 79, box b3 [.pointer (some ⟨b27, 0, none⟩)] 73, mapc ekI ekI m28 Cm, mapc mk3 ekI m29 (aset S y.key ((i : Nat) : Int)), mapc mk3 ekI m30 R, rows encM 3 1 (some ⟨b19, 0, none⟩) l.length (ch.set i k), rows Sn.cells 62 1 Ak qk (K.set k (⟨A86_2, q86_2, (x.l ++ [i])⟩ : Sn)), all ((K.set k (⟨A86_2, q86_2, (x.l ++ [i])⟩ : Sn)).map Sn.chO), rows encT 4 1 (some ⟨b22, 0, none⟩) l.length (List.replicate l.length false), rows encI 3 1 (some ⟨b25, 0, none⟩) l.length (af.set i (-1)), ros Ev.cells Al l] (by simp only [List.length_set]) ?_
            refine To.again (l.length - (i + 1)) (by omega) ⟨i + 1, (K.set k (⟨A86_2, q86_2, (x.l ++ [i])⟩ : Sn)), Ak, qk, (ch.set i k), af.set i (-1), Cm, (aset S y.key ((i : Nat) : Int)), R, rfl, rfl, rfl, (by omega), (hI.step hy (k := k) (.inl ⟨hk0, ⟨x.l, hxm, by rw [List.map_set]⟩, rfl⟩) ((se_step hI.se hy).1 hr1) ((se_step hI.re hy).2 (by omega)) (by rcases hI.after1 hy hr1 with ⟨h1, h2⟩ | ⟨h1, h2⟩ <;> simp_all))⟩
        ·
          refine To.skip ?_
          refine To.blockN ?_
          refine To.thenN ?_
          refine To.reg ?_
          refine To.rd rfl rfl rfl (Rd.inc rfl rfl rfl (by omega)) ?_
          refine To.rd rfl rfl rfl (Rd.move rfl rfl) ?_
          refine To.nil ?_
          refine To.thenN ?_
          refine To.sub [(0, .slice Al l.length cl), (3, .pointer (some ⟨b3, 0, none⟩)), (4, .map (some m28)), (5, .map (some m29)), (6, .map (some m30)), (31, .slice Al l.length cl), (32, .int .i64 ((l.length : Nat) : Int)), (33, .int .i64 (((i + 1) : Nat) : Int))] ⟨rfl, rfl, rfl, rfl, rfl, rfl, rfl, rfl, trivial⟩ ?_
          refine To.only [4, 4, 4, 4, 4, 4, 4, 1, 3, 3, 3] rfl ?_
          refine To.as [box b27 [.slice none 0 0, .slice (some ⟨b19, 0, none⟩) (ch.set i k).length l.length, .slice Ak (K.set k (⟨A86_2, q86_2, (x.l ++ [i])⟩ : Sn)).length qk, .slice none 0 0, .slice (some ⟨b22, 0, none⟩) ((List.replicate l.length false).length) l.length, .slice (some ⟨b25, 0, none⟩) (af.set i (-1)).length l.length, .nilFunc, .nilFunc] 79, box b3 [.pointer (some ⟨b27, 0, none⟩)] 73, mapc ekI ekI m28 Cm, mapc mk3 ekI m29 S, mapc mk3 ekI m30 R, rows encM 3 1 (some ⟨b19, 0, none⟩) l.length (ch.set i k), rows Sn.cells 62 1 Ak qk (K.set k (⟨A86_2, q86_2, (x.l ++ [i])⟩ : Sn)), all ((K.set k (⟨A86_2, q86_2, (x.l ++ [i])⟩ : Sn)).map Sn.chO), rows encT 4 1 (some ⟨b22, 0, none⟩) l.length (List.replicate l.length false), rows encI 3 1 (some ⟨b25, 0, none⟩) l.length (af.set i (-1)), ros Ev.cells Al l] (by simp only [List.length_set]) ?_
          refine To.again (l.length - (i + 1)) (by omega) ⟨i + 1, (K.set k (⟨A86_2, q86_2, (x.l ++ [i])⟩ : Sn)), Ak, qk, (ch.set i k), af.set i (-1), Cm, S, R, rfl, rfl, rfl, (by omega), (hI.step hy (k := k) (.inl ⟨hk0, ⟨x.l, hxm, by rw [List.map_set]⟩, rfl⟩) ((se_step hI.se hy).2 (by omega)) ((se_step hI.re hy).2 (by omega)) (after0 hy (by omega)).symm)⟩
  ·
    refine To.exit ?_
    refine To.thenX ?_
    refine To.thenX ?_
    refine To.blockX ?_
    refine To.thenN ?_
    refine To.seq ?_
    have hKn : K.length ≤ 1000000 := by have := hI.le; rw [List.length_map] at this; omega
    have hil : i = l.length := by omega
    rw [hil] at hI
    refine To.flow [box b3 [.pointer (some ⟨b27, 0, none⟩)] 73] [⟨0, [], 0⟩, ⟨1, [], 0⟩, ⟨2, [], 0⟩, ⟨3, [], 0⟩, ⟨4, [], 1⟩, ⟨5, [], 0⟩, ⟨6, [], 2⟩, ⟨7, [6], 0⟩, ⟨8, [6], 0⟩, ⟨9, [6], 5⟩] mixed (by kernel_rfl) (oks_cons (oks_at 1 rfl) (oks_nil _)) ?_
    refine FlowS.free rfl rfl rfl rfl (Rd.load (i := 0) rfl rfl c73 rfl (box_gives1 rfl)) ?_
    refine FlowS.free rfl rfl rfl rfl (Rd.load (i := 0) rfl rfl c73 rfl (box_gives1 rfl)) ?_
    refine FlowS.free rfl rfl rfl rfl (Rd.nilCheck rfl rfl) ?_
    refine FlowS.free rfl rfl rfl rfl (Rd.field rfl rfl fl79_2) ?_
    refine FlowS.rd rfl rfl rfl rfl (Rd.load (i := 0) rfl rfl c71 rfl (box_gives1 rfl)) ?_
    refine FlowS.free rfl rfl rfl rfl (Rd.len rfl rfl Try.underlying71) ?_
    refine FlowS.mk rfl rfl rfl rfl rfl (Mk.makeRows (enc := encM) (z := 0) (n := K.length) rfl rfl s62 rfl rfl (by omega) (by simp only [maxLen]; omega)) ?_
    rintro _ _ ⟨b131, rfl, rfl⟩
    refine FlowS.free rfl rfl rfl rfl (Rd.nilCheck rfl rfl) ?_
    refine FlowS.free rfl rfl rfl rfl (Rd.field rfl rfl fl79_3) ?_
    refine FlowS.up (Γ' := [rows encM 3 1 (some ⟨b131, 0, none⟩) K.length (List.replicate K.length 0), box b27 [.slice none 0 0, .slice (some ⟨b19, 0, none⟩) ch.length l.length, .slice Ak K.length qk, .slice (some ⟨b131, 0, none⟩) ((List.replicate K.length 0).length) K.length, .slice (some ⟨b22, 0, none⟩) ((List.replicate l.length false).length) l.length, .slice (some ⟨b25, 0, none⟩) af.length l.length, .nilFunc, .nilFunc] 79, box b3 [.pointer (some ⟨b27, 0, none⟩)] 73, mapc ekI ekI m28 Cm, mapc mk3 ekI m29 S, mapc mk3 ekI m30 R, rows encM 3 1 (some ⟨b19, 0, none⟩) l.length ch, rows Sn.cells 62 1 Ak qk K, all (K.map Sn.chO), rows encT 4 1 (some ⟨b22, 0, none⟩) l.length (List.replicate l.length false), rows encI 3 1 (some ⟨b25, 0, none⟩) l.length af, ros Ev.cells Al l]) rfl rfl rfl (Up.store (i := 1) rfl rfl rfl c62 rfl rfl (box_takes1 rfl)) (oks_cons (oks_at 2 rfl) (oks_nil _)) ?_
    refine FlowS.fin ?_
    refine To.as [rows encM 3 1 (some ⟨b131, 0, none⟩) K.length (List.replicate K.length 0), box b27 [.slice none 0 0, .slice (some ⟨b19, 0, none⟩) ch.length l.length, .slice Ak K.length qk, .slice (some ⟨b131, 0, none⟩) ((List.replicate K.length 0).length) K.length, .slice (some ⟨b22, 0, none⟩) ((List.replicate l.length false).length) l.length, .slice (some ⟨b25, 0, none⟩) af.length l.length, .nilFunc, .nilFunc] 79, box b3 [.pointer (some ⟨b27, 0, none⟩)] 73, mapc ekI ekI m28 Cm, mapc mk3 ekI m29 S, mapc mk3 ekI m30 R, rows encM 3 1 (some ⟨b19, 0, none⟩) l.length ch, rows Sn.cells 62 1 Ak qk K, all (K.map Sn.chO), rows encT 4 1 (some ⟨b22, 0, none⟩) l.length (List.replicate l.length false), rows encI 3 1 (some ⟨b25, 0, none⟩) l.length af, ros Ev.cells Al l] rfl ?_
    refine To.thenN ?_
    refine To.seq ?_
    refine To.reg ?_
    refine To.rd rfl rfl rfl (Rd.load (i := 2) rfl rfl c73 rfl (box_gives1 rfl)) ?_
    refine To.rd rfl rfl rfl (Rd.makeFunc rfl rfl rfl) ?_
    refine To.rd rfl rfl rfl (Rd.nilCheck rfl rfl) ?_
    refine To.rd rfl rfl rfl (Rd.field rfl rfl fl79_6) ?_
    refine To.up rfl rfl (Up.store (i := 1) rfl rfl rfl c76 rfl rfl (box_takes1 rfl)) ?_
    refine To.nil ?_
    refine To.sub [(0, .slice Al l.length cl), (3, .pointer (some ⟨b3, 0, none⟩)), (4, .map (some m28)), (5, .map (some m29)), (6, .map (some m30)), (31, .slice Al l.length cl), (32, .int .i64 ((l.length : Nat) : Int)), (33, .int .i64 ((i : Nat) : Int)), (34, .bool (decide (((i : Nat) : Int) < ((l.length : Nat) : Int))))] ⟨rfl, rfl, rfl, rfl, rfl, rfl, rfl, rfl, rfl, trivial⟩ ?_
    refine To.thenN ?_
    refine To.seq ?_
    refine To.reg ?_
    refine To.rd rfl rfl rfl (Rd.load (i := 2) rfl rfl c73 rfl (box_gives1 rfl)) ?_
    refine To.rd rfl rfl rfl (Rd.makeFunc rfl rfl rfl) ?_
    refine To.rd rfl rfl rfl (Rd.nilCheck rfl rfl) ?_
    refine To.rd rfl rfl rfl (Rd.field rfl rfl fl79_7) ?_
    refine To.up rfl rfl (Up.store (i := 1) rfl rfl rfl c77 rfl rfl (box_takes1 rfl)) ?_
    refine To.nil ?_
    refine To.thenN ?_
    refine To.seq ?_
    refine To.reg ?_
    refine To.rd rfl rfl rfl (Rd.load (i := 2) rfl rfl c73 rfl (box_gives1 rfl)) ?_
    refine To.rd rfl rfl rfl (Rd.assign rfl rfl) ?_
    refine To.nil ?_
    refine To.thenN ?_
    refine To.ret ?_
    refine To.only [10, 0, 0, 0, 0, 0, 0, 0, 0, 0, 0, 0] rfl ?_
    refine To.layRow ?_
    refine To.only [8, 0, 0, 0, 0, 0, 0, 0, 0, 0, 0, 0] rfl ?_
    refine To.layRow ?_
    refine To.only [8, 0, 0, 0, 0, 0, 0, 0, 0, 0, 0, 0] rfl ?_
    refine To.layRow ?_
    refine To.only [9, 0, 0, 0, 0, 0, 0, 0, 0, 0, 0, 0] rfl ?_
    refine To.layNats ?_
    refine To.only [6, 0, 0, 0, 0, 0, 0, 0, 0, 0, 0, 0] rfl ?_
    refine To.layBox ?_
    refine To.nilRow encM 3 1 ?_
    refine To.only [7, 0, 5, 8, 2, 2, 1, 1, 0] rfl ?_
    refine To.end1 (.inl rfl) Try.results46 rfl ?_
    refine ⟨b27, b3, (some ⟨b19, 0, none⟩), Ak, some ⟨b131, 0, none⟩, (some ⟨b22, 0, none⟩), (some ⟨b25, 0, none⟩), l.length, qk, K.length, l.length, l.length, ch, K, af, hI.sd, rfl, ?_⟩
    rw [used_nil, there_nil, List.length_map]
    rfl
end Go.Proofs.Ytneimfacccgaeaa
