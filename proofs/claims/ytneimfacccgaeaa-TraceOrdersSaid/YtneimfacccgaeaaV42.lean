/- The walk of TraceOrders. Own text (walks printed by sx.py). -/
import Derived.Test.YtneimfacccgaeaaV41
namespace Go.Proofs.Ytneimfacccgaeaa
open Go.RowKit Go.Flow Go.Mem Go.Sep
theorem oks_stl {Γ : List Chunk} {T : List St} {k : Nat} {s : St} (i : Nat) (h : Γ[i]? = some (all (T.map St.ch))) (hs : T[k]? = some s) : ∀ w, oks Γ w → (ros Ev.cells s.A s.l).holds w := fun w hw =>
  oks_row (Γ := [rows Ev.cells 37 9 s.A s.cap s.l]) 0 rfl w (fun c hc => by rw [List.mem_singleton.1 hc]; exact oks_all i h (List.mem_map.2 ⟨s, List.mem_of_getElem? hs, rfl⟩) w hw)
theorem take_at2 {α : Type} {l : List α} {m k : Nat} {x y : α} (h1 : (l.take m)[k]? = some x) (h2 : l[k]? = some y) : x = y := by
  rw [List.getElem?_take] at h1
  split at h1
  · exact Option.some.inj (h1.symm.trans h2)
  · cases h1
set_option maxHeartbeats 2000000 in
set_option maxRecDepth 100000 in
theorem torders_fn (AX : Option Addr) (cX : Nat) (X : List Ev) (hcX : X.length ≤ cX) (hokX : ∀ e ∈ X, e.ok) (lim stp : Nat) (hlim : lim < 256) (hstp : stp < 256) :
    Does Try.prog 9 [.slice AX X.length cX, .int .u8 ((lim : Nat) : Int), .int .u8 ((stp : Nat) : Int)] [ros Ev.cells AX X, argsS (X.map Ev.ar)] (fun v _ => v = .bool true) := by
  refine Does.enterM Try.func9 rfl Try.ntmps9 rfl (fun w0 => ?_)
  refine To.seq ?_
  refine To.reg ?_
  refine To.boxed rfl rfl rfl rfl rfl rfl (fun b5 => ?_)
  refine To.alloc rfl rfl rfl rfl z4 (fun b6 => ?_)
  refine To.nil ?_
  refine To.thenN ?_
  refine To.seq ?_
  refine To.seq ?_
  refine To.reg ?_
  refine To.callV rfl rfl rfl (Ent.fn rfl rfl ca11) (awake_fn) rfl (oks_nil _) ?_
  refine To.rd rfl rfl rfl (Rd.not rfl rfl) ?_
  refine To.nil ?_
  refine To.thenN ?_
  refine To.condF rfl ?_
  refine To.skip ?_
  refine To.thenN ?_
  refine To.seq ?_
  refine To.reg ?_
  refine To.rd rfl rfl rfl (Rd.move rfl rfl) ?_
  refine To.callQ rfl rfl rfl (Ent.fn rfl rfl ca12) (few_fn AX cX X 7 (by decide) hcX (fun e he => (hokX e he).cap)) rfl (oks_cons (oks_at 2 rfl) (oks_nil _)) ?_
  rintro _ _ ⟨Aa, qa, rfl, rfl⟩
  refine ⟨rfl, ?_⟩
  refine To.as [rows Ev.cells 37 9 Aa qa ((X.take 7).map Ev.cut), box b6 [.bool false] 4, box b5 [.int .u8 ((stp : Nat) : Int)] 5, ros Ev.cells AX X, argsS (X.map Ev.ar)] rfl ?_
  refine To.rd rfl rfl rfl (Rd.assign rfl rfl) ?_
  refine To.nil ?_
  refine To.thenN ?_
  refine To.seq ?_
  refine To.know (p := ((X.take 7).map Ev.cut).length ≤ qa) (fun w hw => own_caps 0 rfl hw) (fun hqa => ?_)
  refine To.only [0, 0, 0, 0, 0] rfl ?_
  refine To.layRow ?_
  refine To.derive (argsS (((X.take 7).map Ev.cut).map Ev.ar)) rfl (argsS_cut 4 rfl).1 (argsS_cut 4 rfl).2 ?_
  have hal : ((X.take 7).map Ev.cut).length ≤ 7 := cut_len
  have haa : ∀ e ∈ ((X.take 7).map Ev.cut), e.args.length ≤ 1000000000000 := cut_args
  have hak : ∀ e ∈ ((X.take 7).map Ev.cut), 0 ≤ e.k ∧ e.k < 256 := cut_k hokX
  obtain ⟨a, ha⟩ : ∃ a, a = ((X.take 7).map Ev.cut) := ⟨_, rfl⟩
  rw [← ha] at hal haa hak hqa
  rw [← ha]
  refine To.reg ?_
  refine To.rd rfl rfl rfl (Rd.move rfl rfl) ?_
  refine To.rd rfl rfl rfl (Rd.remN (a := lim) (b := 40) rfl rfl rfl (by omega)) ?_
  refine To.rd rfl rfl rfl (Rd.conv rfl rfl Try.underlying5 Try.underlying3 (IntWalk.i64_in _ (by omega))) ?_
  refine To.rd rfl rfl rfl (Rd.sub64 rfl rfl rfl (by omega)) ?_
  refine To.rd rfl rfl rfl (Rd.assign rfl rfl) ?_
  refine To.nil ?_
  refine To.thenN ?_
  refine To.seq ?_
  obtain ⟨n, hn⟩ : ∃ n : Int, n = ((lim % 40 : Nat) : Int) - 1 := ⟨_, rfl⟩
  have hn38 : n ≤ 1000000 := by omega
  rw [← hn]
  refine To.reg ?_
  refine To.rd rfl rfl rfl (Rd.move rfl rfl) ?_
  refine To.rd rfl rfl rfl (Rd.move rfl rfl) ?_
  refine To.dup 1 rfl rfl ?_
  refine To.call [0] rfl rfl rfl (Ent.fn rfl rfl ca31) rfl (rorders_fn Aa qa a (Nat.le_trans hal (by decide)) n hn38) ?_
  rintro _ _ ⟨At, qt, T, rfl, rfl, hT⟩
  refine To.as [rows St.cells 22 1 At qt T, all (T.map St.ch), argsS (a.map Ev.ar), ros Ev.cells Aa a, box b6 [.bool false] 4, box b5 [.int .u8 ((stp : Nat) : Int)] 5, ros Ev.cells AX X, argsS (X.map Ev.ar)] rfl ?_
  refine To.alloc rfl rfl rfl rfl z26 (fun b8 => ?_)
  refine To.up rfl rfl (Up.store (i := 0) rfl rfl rfl c26 rfl rfl (box_takesAll rfl)) ?_
  refine To.nil ?_
  refine To.thenN ?_
  refine To.seq ?_
  refine To.reg ?_
  refine To.alloc rfl rfl rfl rfl z3 (fun b9 => ?_)
  refine To.up rfl rfl (Up.store (i := 0) rfl rfl rfl c3 rfl rfl (box_takesAll rfl)) ?_
  refine To.nil ?_
  refine To.thenN ?_
  refine To.seq ?_
  refine To.seq ?_
  refine To.reg ?_
  refine To.rd rfl rfl rfl (Rd.move rfl rfl) ?_
  refine To.rd rfl rfl rfl (Rd.move rfl rfl) ?_
  refine To.dup 5 rfl rfl ?_
  refine To.dup 5 rfl rfl ?_
  refine To.call [1, 0] rfl rfl rfl (Ent.fn rfl rfl ca32) rfl (orders_fn Aa qa a (Nat.le_trans hal (by decide)) haa n) ?_
  rintro _ _ ⟨b1, b2, Aw, qw, W, hW, hWa, rfl, rfl⟩
  refine To.as [ro (some ⟨b1, 0, none⟩) [.int .i64 n], ro (some ⟨b2, 0, none⟩) [.slice Aw W.length qw], ros Ev.cells Aw W, argsS (W.map Ev.ar), box b9 [.int .i64 0] 3, box b8 [.slice At T.length qt] 26, rows St.cells 22 1 At qt T, all (T.map St.ch), argsS (a.map Ev.ar), ros Ev.cells Aa a, box b6 [.bool false] 4, box b5 [.int .u8 ((stp : Nat) : Int)] 5, ros Ev.cells AX X, argsS (X.map Ev.ar)] rfl ?_
  refine To.nil ?_
  refine To.thenN ?_
  refine To.block ?_
  have hWl0 : W.length = a.length := by have := congrArg List.length hW; simpa using this
  refine To.sub [(5, .pointer (some ⟨b5, 0, none⟩)), (6, .pointer (some ⟨b6, 0, none⟩)), (8, .pointer (some ⟨b8, 0, none⟩)), (9, .pointer (some ⟨b9, 0, none⟩)), (24, .func (.func 45) #[] #[.pointer (some ⟨b1, 0, none⟩), .pointer (some ⟨b2, 0, none⟩)])] ⟨rfl, rfl, rfl, rfl, rfl, trivial⟩ ?_
  refine To.only [0, 0, 0, 0, 0, 6, 5, 0, 0, 0, 0] rfl ?_
  refine To.as [ro (some ⟨b1, 0, none⟩) [.int .i64 n], ro (some ⟨b2, 0, none⟩) [.slice Aw W.length qw], ros Ev.cells Aw W, argsS (W.map Ev.ar), box b9 [.int .i64 ((0 : Nat) : Int)] 3, box b5 [.int .u8 ((stp : Nat) : Int)] 5, box b6 [.bool false] 4, box b8 [.slice At T.length qt] 26, rows St.cells 22 1 At qt T, all (T.map St.ch), argsS (a.map Ev.ar)] rfl ?_
  refine To.rangeFunc (Γa := [ro (some ⟨b1, 0, none⟩) [.int .i64 n], ro (some ⟨b2, 0, none⟩) [.slice Aw W.length qw], ros Ev.cells Aw W, argsS (W.map Ev.ar)]) (Γc := [box b9 [.int .i64 ((0 : Nat) : Int)] 3, box b5 [.int .u8 ((stp : Nat) : Int)] 5, box b6 [.bool false] 4, box b8 [.slice At T.length qt] 26, rows St.cells 22 1 At qt T, all (T.map St.ch), argsS (a.map Ev.ar)]) (fun Γ2 => Γ2 = [box b9 [.int .i64 ((((ords W []).take n.toNat).length : Nat) : Int)] 3, box b5 [.int .u8 ((stp : Nat) : Int)] 5, box b6 [.bool false] 4, box b8 [.slice At T.length qt] 26, rows St.cells 22 1 At qt T, all (T.map St.ch), argsS (a.map Ev.ar)]) (fun Γ2 => ∃ (k : Nat), Γ2 = [box b9 [.int .i64 ((k : Nat) : Int)] 3, box b5 [.int .u8 ((stp : Nat) : Int)] 5, box b6 [.bool true] 4, box b8 [.slice At T.length qt] 26, rows St.cells 22 1 At qt T, all (T.map St.ch), argsS (a.map Ev.ar)]) rfl ca45 (fun lp L hLp hLa hLb hLt => ?_) ?_ ?_
  ·
    refine (iter_fn Aw qw W (by omega) hWa n hn38 b1 b2 lp (fun k c => c = all (recd lp L .ready none :: [box b9 [.int .i64 ((k : Nat) : Int)] 3, box b5 [.int .u8 ((stp : Nat) : Int)] 5, box b6 [.bool false] 4, box b8 [.slice At T.length qt] 26, rows St.cells 22 1 At qt T, all (T.map St.ch), argsS (a.map Ev.ar)])) (fun c => ∃ (k : Nat), c = all (recd lp L .done (some .ret) :: [box b9 [.int .i64 ((k : Nat) : Int)] 3, box b5 [.int .u8 ((stp : Nat) : Int)] 5, box b6 [.bool true] 4, box b8 [.slice At T.length qt] 26, rows St.cells 22 1 At qt T, all (T.map St.ch), argsS (a.map Ev.ar)])) _ ?_ rfl).mono ?_
    ·
      rintro k _ o AE qE E rfl hkn ho hE hEa hAE
      refine RoundDoes.of (Γe := [rows Ev.cells 37 9 AE qE E, argsS (E.map Ev.ar)]) hLp hLa hLb hLt rfl (fun w1 => ?_)
      refine To.as [recd lp L .ready none, rows Ev.cells 37 9 AE qE E, argsS (E.map Ev.ar), box b9 [.int .i64 ((k : Nat) : Int)] 3, box b5 [.int .u8 ((stp : Nat) : Int)] 5, box b6 [.bool false] 4, box b8 [.slice At T.length qt] 26, rows St.cells 22 1 At qt T, all (T.map St.ch), argsS (a.map Ev.ar)] rfl ?_
      have hWl : W.length = a.length := by have := congrArg List.length hW; simpa using this
      have ho2 : (ords a [])[k]? = some o := by rw [← ords_val hW]; exact ho
      have hkT : k < T.length := by
        rw [hT.1, List.length_take]
        have := (List.getElem?_eq_some_iff.1 ho2).1
        omega
      obtain ⟨s, hs⟩ : ∃ z0, T[k]? = some z0 := ⟨T[k]'(by omega), List.getElem?_eq_getElem _⟩
      obtain ⟨⟨o', ho', hsv'⟩, hsm⟩ := hT.2 k s hs
      have hsv : s.l.map Ev.val = valsO W o := by rw [hsv', take_at2 ho' ho2, valsO_val hW]
      have hEl : E.length ≤ 1000000 := by
        have h := congrArg List.length hE
        rw [List.length_map, valsO, List.length_map] at h
        have := (ords_rch (List.mem_of_getElem? ho)).2
        omega
      refine ToR.reg ?_
      refine ToR.rd rfl rfl rfl (Rd.assign rfl rfl) ?_
      refine ToR.nil ?_
      refine To.thenN (To.begins ?_)
      refine ToR.block ?_
      refine ToR.seq ?_
      refine ToR.seq ?_
      refine ToR.reg ?_
      refine ToR.rd rfl rfl rfl (Rd.load (i := 3) rfl rfl c3 rfl (box_gives1 rfl)) ?_
      refine ToR.rd rfl rfl rfl (Rd.load (i := 6) rfl rfl c26 rfl (box_gives1 rfl)) ?_
      refine ToR.rd rfl rfl rfl (Rd.len rfl rfl Try.underlying26) ?_
      refine ToR.rd rfl rfl rfl (Rd.geq rfl rfl rfl) ?_
      refine ToR.rdP rfl rfl rfl (Rd.move rfl rfl) (fun g30 => ?_) (fun g30 => ?_)
      ·
        omega
      ·
        refine ToR.rd rfl rfl rfl (Rd.move rfl rfl) ?_
        refine ToR.rd rfl rfl rfl (Rd.load (i := 6) rfl rfl c26 rfl (box_gives1 rfl)) ?_
        refine ToR.rd rfl rfl rfl (Rd.load (i := 3) rfl rfl c3 rfl (box_gives1 rfl)) ?_
        refine ToR.rd rfl rfl rfl (Rd.indexRows (i := 7) (j := k) rfl rfl rfl s26 rfl hs) ?_
        refine ToR.rd rfl rfl rfl (Rd.load (i := 7) rfl rfl c22 rfl (gives_1 (rows_gives encS hs) rfl)) ?_
        refine ToR.callV rfl rfl rfl (Ent.fn rfl rfl ca25) ((sames_fn AE s.A qE s.cap E s.l hEa (Nat.le_trans hEl (by decide))).mono (R' := fun v _ => v = .bool true) (fun v _ h => by rw [h, hE, hsv]; simp)) rfl (oks_cons (oks_row 1 rfl) (oks_cons (oks_stl 8 rfl hs) (oks_cons (oks_at 2 rfl) (oks_cons ((argsS_sub 9 rfl (fun p hp => by obtain ⟨e, he, rfl⟩ := List.mem_map.1 hp; exact List.mem_map.2 ⟨e, hsm e he, rfl⟩)).2) (oks_nil _))))) ?_
        refine ToR.rd rfl rfl rfl (Rd.not rfl rfl) ?_
        refine ToR.rd rfl rfl rfl (Rd.pickF rfl rfl rfl) ?_
        refine ToR.nil ?_
        refine To.thenN ?_
        refine ToR.condF rfl ?_
        refine ToR.skip ?_
        refine To.thenN ?_
        refine ToR.seq ?_
        refine ToR.reg ?_
        refine ToR.rd rfl rfl rfl (Rd.load (i := 3) rfl rfl c3 rfl (box_gives1 rfl)) ?_
        refine ToR.rd rfl rfl rfl (Rd.inc rfl rfl rfl (by omega)) ?_
        refine ToR.up rfl rfl (Up.store (i := 3) rfl rfl rfl c3 rfl rfl (box_takesAll rfl)) ?_
        refine ToR.nil ?_
        refine To.sub [(25, .slice AE E.length qE), (5, .pointer (some ⟨b5, 0, none⟩)), (6, .pointer (some ⟨b6, 0, none⟩)), (8, .pointer (some ⟨b8, 0, none⟩)), (9, .pointer (some ⟨b9, 0, none⟩)), (24, .func (.func 45) #[] #[.pointer (some ⟨b1, 0, none⟩), .pointer (some ⟨b2, 0, none⟩)]), (10, .slice AE E.length qE), (38, .bool false)] ⟨rfl, rfl, rfl, rfl, rfl, rfl, rfl, rfl, trivial⟩ ?_
        refine To.thenN ?_
        refine ToR.seq ?_
        refine ToR.reg ?_
        refine ToR.rd rfl rfl rfl (Rd.load (i := 3) rfl rfl c3 rfl (box_gives1 rfl)) ?_
        refine ToR.rd rfl rfl rfl (Rd.load (i := 4) rfl rfl c5 rfl (box_gives1 rfl)) ?_
        refine ToR.rd rfl rfl rfl (Rd.conv rfl rfl Try.underlying5 Try.underlying3 (IntWalk.i64_in _ (by omega))) ?_
        refine ToR.rd rfl rfl rfl (Rd.eql rfl rfl rfl) ?_
        refine ToR.nil ?_
        refine To.thenN ?_
        refine ToR.condP rfl (fun c44 => ?_) (fun c44 => ?_)
        ·
          refine ToR.seq ?_
          refine ToR.reg ?_
          refine ToR.up rfl rfl (Up.store (i := 5) rfl rfl rfl c4 rfl rfl (box_takesAll rfl)) ?_
          refine ToR.nil ?_
          refine To.thenN ?_
          refine ToR.ret ?_
          refine To.blockR ?_
          refine To.only [0, 2, 2, 2, 2, 2, 2, 2] rfl ?_
          refine To.roundR ?_
          exact ⟨_, rfl, .inr ⟨rfl, k + 1, rfl⟩⟩
        ·
          refine ToR.skip ?_
          refine To.blockN ?_
          refine To.only [0, 2, 2, 2, 2, 2, 2, 2] rfl ?_
          refine To.roundN ?_
          exact ⟨_, rfl, .inl ⟨rfl, rfl⟩⟩
    ·
      rintro v Γ' ⟨c', rfl, (rfl | ⟨k, rfl⟩)⟩
      · exact ⟨_, .inl ⟨rfl, rfl⟩⟩
      · exact ⟨_, .inr ⟨rfl, k, rfl⟩⟩
  ·
    rintro D _ rfl
    refine To.as [dfr D, box b9 [.int .i64 ((((ords W []).take n.toNat).length : Nat) : Int)] 3, box b5 [.int .u8 ((stp : Nat) : Int)] 5, box b6 [.bool false] 4, box b8 [.slice At T.length qt] 26, rows St.cells 22 1 At qt T, all (T.map St.ch), argsS (a.map Ev.ar)] rfl ?_
    refine To.blockN ?_
    refine To.thenN ?_
    refine To.seq ?_
    refine To.reg ?_
    refine To.rd rfl rfl rfl (Rd.load (i := 1) rfl rfl c3 rfl (box_gives1 rfl)) ?_
    refine To.rd rfl rfl rfl (Rd.load (i := 4) rfl rfl c26 rfl (box_gives1 rfl)) ?_
    refine To.rd rfl rfl rfl (Rd.len rfl rfl Try.underlying26) ?_
    refine To.rd rfl rfl rfl (Rd.eql rfl rfl rfl) ?_
    refine To.up rfl rfl (Up.store (i := 3) rfl rfl rfl c4 rfl rfl (box_takesAll rfl)) ?_
    refine To.nil ?_
    refine To.thenN ?_
    refine To.ret ?_
    refine To.endM (.inl rfl) Try.results9 rfl (i := 2) rfl c4 rfl rfl ?_
    have hm : ((ords W []).take n.toNat).length = T.length := by rw [hT.1, ords_val hW]
    rw [hm]; simp
  ·
    rintro D _ ⟨k, rfl⟩
    refine To.as [dfr D, box b9 [.int .i64 ((k : Nat) : Int)] 3, box b5 [.int .u8 ((stp : Nat) : Int)] 5, box b6 [.bool true] 4, box b8 [.slice At T.length qt] 26, rows St.cells 22 1 At qt T, all (T.map St.ch), argsS (a.map Ev.ar)] rfl ?_
    refine To.blockR ?_
    refine To.thenR ?_
    refine To.endM (.inl rfl) Try.results9 rfl (i := 2) rfl c4 rfl rfl ?_
    rfl
end Go.Proofs.Ytneimfacccgaeaa
