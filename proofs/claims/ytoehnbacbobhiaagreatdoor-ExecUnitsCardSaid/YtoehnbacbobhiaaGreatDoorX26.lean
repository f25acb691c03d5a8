/- States and calls out of worlds, with arguments and flags. Own text (walks printed by sx.py). -/
import Derived.Test.YtoehnbacbobhiaaGreatDoorL1
import Derived.Test.YtoehnbacbobhiaaGreatDoorX23
set_option linter.unusedVariables false
set_option linter.unusedSimpArgs false
namespace Go.Proofs.YtoehnbacbobhiaaGreatDoor
open Go.RowKit Go.Flow Go.Mem Go.Sep
def flagsV (f n : Nat) : List Bool := (List.range n).map fun m => decide ((((f / 2 ^ (m % 8)) &&& 1 : Nat) : Int) = 1)
theorem flags_succ (f n : Nat) : flagsV f (n + 1) = flagsV f n ++ [decide ((((f / 2 ^ (n % 8)) &&& 1 : Nat) : Int) = 1)] := by simp [flagsV, List.range_succ]
theorem flags_len (f n : Nat) : (flagsV f n).length = n := by simp [flagsV]
theorem caps_snoc {T : List Tb} {e : Tb} (h : ∀ x ∈ T, x.l.length ≤ x.q) (h2 : e.l.length ≤ e.q) : ∀ x ∈ T ++ [e], x.l.length ≤ x.q := fun x hx => by
  rcases List.mem_append.1 hx with h3 | h3
  · exact h x h3
  · rw [List.mem_singleton.1 h3]; exact h2
set_option maxHeartbeats 2000000 in
set_option maxRecDepth 100000 in
theorem make_fn (w : Wx) (hw : w.ok) (hfl : w.flags < 256) (nv nt na nf : Nat) (hnv : nv ≤ 1000) (hnt : nt ≤ 16) (hna : na ≤ 1000) (hnf : nf ≤ 1000) :
    Does Tryz.prog 4 [.agg #[.slice w.Av w.vars.length w.qv, .slice w.At w.tabs.length w.qt, .slice w.Ad w.disk.length w.qd, .slice w.Aa w.args.length w.qa, .int .i64 w.now, .int .u8 ((w.flags : Nat) : Int), .int .u8 ((w.before : Nat) : Int), .slice w.Af w.fail.length w.qf], .int .i64 ((nv : Nat) : Int), .int .i64 ((nt : Nat) : Int), .int .i64 ((na : Nat) : Int), .int .i64 ((nf : Nat) : Int)] [ros encI w.Av w.vars, ros encEn w.At w.tabs, ros encEn w.Ad w.disk, ros encI w.Aa w.args, ros encY w.Af w.fail] (fun v Γ' => ∃ (a b : Sx) (Fa : Option Addr) (qf : Nat) (Fl : List Int) (Ap : Option Addr) (qp : Nat) (P : List Int) (Gp : Option Addr) (qg : Nat) (G : List Bool), v = .tuple #[.agg a.cells.toArray, .agg b.cells.toArray, .agg #[.slice Ap P.length qp, .int .i64 w.now, .slice Gp G.length qg, .int .i64 ((w.before : Nat) : Int), .slice Fa Fl.length qf], .agg #[.slice Ap P.length qp, .int .i64 w.now, .slice Gp G.length qg, .int .i64 ((w.before : Nat) : Int), .slice Fa Fl.length qf]] ∧ Γ' = [rows encI 2 1 a.Av a.qv a.vars, rows Tb.cells 40 1 a.At a.qt a.tabs, rosS encEn (a.tabs.map Tb.ar), ros encEn a.dk.A a.dk.l, rows encI 2 1 b.Av b.qv b.vars, rows Tb.cells 44 1 b.At b.qt b.tabs, rosS encEn (b.tabs.map Tb.ar), ros encEn b.dk.A b.dk.l, rows encI 2 1 Ap qp P, rows encB 4 1 Gp qg G, rows encI 3 1 Fa qf Fl] ∧ a.val = stV w nv nt ∧ b.val = stV w nv nt ∧ Fl.length ≤ 8 ∧ P = padV w.args na ∧ G = flagsV w.flags nf ∧ (∀ x ∈ a.tabs, x.l.length ≤ x.q) ∧ a.dk.l.length ≤ a.dk.q) := by
  refine Does.enter Tryz.func4 rfl Tryz.ntmps4 rfl (fun w0 => ?_)
  refine To.seq (To.reg ?_)
  refine To.boxed rfl rfl rfl rfl rfl rfl (fun b5 => ?_)
  refine To.alloc rfl rfl rfl rfl z42 (fun b10 => ?_)
  refine To.alloc rfl rfl rfl rfl z46 (fun b11 => ?_)
  refine To.alloc rfl rfl rfl rfl z50 (fun b12 => ?_)
  refine To.alloc rfl rfl rfl rfl z51 (fun b13 => ?_)
  refine To.nil (To.thenN (To.seq (To.reg ?_)))
  refine To.r (Rd.build (vs := []) (cells := [.slice none 0 0, .slice none 0 0, .slice none 0 0]) rfl rfl rfl (by kernel_rfl)) ?_
  refine To.r (Rd.build (vs := []) (cells := [.slice none 0 0, .slice none 0 0, .slice none 0 0]) rfl rfl rfl (by kernel_rfl)) ?_
  refine To.alloc rfl rfl rfl rfl z42 (fun b14 => ?_)
  refine To.alloc rfl rfl rfl rfl z46 (fun b15 => ?_)
  refine To.u (Up.storeS (i := 1) rfl rfl rfl r42 rfl rfl rfl (box_takesAll rfl)) ?_
  refine To.u (Up.storeS (i := 0) rfl rfl rfl r46 rfl rfl rfl (box_takesAll rfl)) ?_
  refine To.nil (To.thenN (To.seq (To.seq (To.reg (To.m ?_)))))
  refine To.m (To.nil (To.thenN (To.block ?_)))
  refine To.nilRow (encI) 2 1 ?_
  refine To.sub [(5, .pointer (some ⟨b5, 0, none⟩)), (10, .pointer (some ⟨b10, 0, none⟩)), (11, .pointer (some ⟨b11, 0, none⟩)), (12, .pointer (some ⟨b12, 0, none⟩)), (13, .pointer (some ⟨b13, 0, none⟩)), (14, .pointer (some ⟨b14, 0, none⟩)), (15, .pointer (some ⟨b15, 0, none⟩)), (2, .int .i64 ((nt : Nat) : Int)), (3, .int .i64 ((na : Nat) : Int)), (4, .int .i64 ((nf : Nat) : Int)), (28, .int .i64 ((nv : Nat) : Int)), (29, .int .i64 ((0 : Nat) : Int))] ⟨rfl, rfl, rfl, rfl, rfl, rfl, rfl, rfl, rfl, rfl, rfl, rfl, trivial⟩ ?_
  refine To.up1 ?_
  refine To.up2 ?_
  refine To.up12 ?_
  refine To.up12 ?_
  refine To.up12 ?_
  refine To.up12 ?_
  refine To.up12 ?_
  refine To.up8 ?_
  refine To.up9 ?_
  refine To.up10 ?_
  refine To.up11 ?_
  refine To.up12 ?_
  refine To.loop (fun mz ρ Γ => ∃ (Ao : Option Addr) (qo : Nat) (O : List Int) (i : Nat), ρ = [(5, .pointer (some ⟨b5, 0, none⟩)), (10, .pointer (some ⟨b10, 0, none⟩)), (11, .pointer (some ⟨b11, 0, none⟩)), (12, .pointer (some ⟨b12, 0, none⟩)), (13, .pointer (some ⟨b13, 0, none⟩)), (14, .pointer (some ⟨b14, 0, none⟩)), (15, .pointer (some ⟨b15, 0, none⟩)), (2, .int .i64 ((nt : Nat) : Int)), (3, .int .i64 ((na : Nat) : Int)), (4, .int .i64 ((nf : Nat) : Int)), (28, .int .i64 ((nv : Nat) : Int)), (29, .int .i64 ((i : Nat) : Int))] ∧ Γ = [box b5 [.slice w.Av w.vars.length w.qv, .slice w.At w.tabs.length w.qt, .slice w.Ad w.disk.length w.qd, .slice w.Aa w.args.length w.qa, .int .i64 w.now, .int .u8 ((w.flags : Nat) : Int), .int .u8 ((w.before : Nat) : Int), .slice w.Af w.fail.length w.qf] 28, box b10 [.slice none 0 0, .slice none 0 0, .slice none 0 0] 42, box b11 [.slice none 0 0, .slice none 0 0, .slice none 0 0] 46, box b12 [.slice none 0 0, .int .i64 0, .slice none 0 0, .int .i64 0, .slice none 0 0] 50, box b13 [.slice none 0 0, .int .i64 0, .slice none 0 0, .int .i64 0, .slice none 0 0] 51, ros encI w.Av w.vars, ros encEn w.At w.tabs, ros encEn w.Ad w.disk, ros encI w.Aa w.args, ros encY w.Af w.fail, box b14 [.slice Ao O.length qo, .slice none 0 0, .slice none 0 0] 42, box b15 [.slice none 0 0, .slice none 0 0, .slice none 0 0] 46, rows encI 2 1 Ao qo O] ∧ mz = nv - i ∧ (i ≤ nv) ∧ (O = padV w.vars i)) (nv - 0) ⟨none, 0, ([] : List Int), 0, rfl, rfl, rfl, (Nat.zero_le _), rfl⟩ ?_
  rintro mz _ _ ⟨Ao, qo, O, i, rfl, rfl, rfl, hi, hO⟩
  have hOl : O.length = i := by rw [hO, pad_len]
  refine To.seq (To.reg ?_)
  refine To.r (Rd.lss rfl rfl rfl) ?_
  refine To.nil (To.thenN (To.seq ?_))
  refine To.condP rfl (fun k30 => ?_) (fun k30 => ?_)
  ·
   refine To.skip (To.thenN (To.seq (To.block (To.seq (To.reg (To.m ?_))))))
   refine To.a (To.nil (To.thenN (To.seq (To.reg ?_))))
   refine To.a (To.nil (To.thenN (To.seq (To.seq (To.reg ?_)))))
   refine To.m ?_
   refine To.f fl28_0 ?_
   refine To.lo 0 c24 ?_
   refine To.r (Rd.len rfl rfl Tryz.underlying24) ?_
   refine To.r (Rd.lss rfl rfl rfl) ?_
   refine To.nil (To.thenN ?_)
   refine To.condP rfl (fun k36 => ?_) (fun k36 => ?_)
   ·
    obtain ⟨y, hy⟩ : ∃ z0, w.vars[i]? = some z0 := ⟨w.vars[i]'(by omega), List.getElem?_eq_getElem _⟩
    refine To.reg ?_
    refine To.f fl28_0 ?_
    refine To.lo 0 c24 ?_
    refine To.m ?_
    refine To.r (Rd.indexRos encI_ok (i := 5) (j := i) rfl rfl rfl s24 rfl hy) ?_
    refine To.r (Rd.load (i := 5) rfl rfl c2 rfl (gives_1 (ros_gives encI_ok hy) rfl)) ?_
    refine To.a (To.nil (To.thenN (To.reg ?_)))
    refine To.f fl42_0 ?_
    refine To.lo 10 c24 ?_
    refine To.m ?_
    refine To.mk rfl rfl rfl (Mk.sliceN (us := [.int .i64 y]) rfl s24 rfl rfl rfl rfl rfl rfl) ?_
    rintro _ _ ⟨b45, rfl, rfl⟩
    refine To.ge rfl rfl rfl (Ge.append1 encI_ok (i := 13) (j := 0) (el := y) rfl s24 rfl rfl rfl rfl rfl (by first | omega | (simp only [List.length_append, List.length_cons, List.length_nil]; omega)) (by first | omega | (simp only [List.length_append, List.length_cons, List.length_nil]; omega))) ?_
    rintro _ _ ⟨A46, q46, rfl, rfl⟩
    refine To.f fl42_0 ?_
    refine To.u (Up.store (i := 11) rfl rfl rfl c24 rfl rfl (box_takes1 rfl)) ?_
    refine To.nil (To.blockN (To.thenN (To.reg ?_)))
    refine To.r (Rd.inc rfl rfl rfl (by omega)) ?_
    refine To.m (To.nil (To.thenN ?_))
    refine To.sub [(5, .pointer (some ⟨b5, 0, none⟩)), (10, .pointer (some ⟨b10, 0, none⟩)), (11, .pointer (some ⟨b11, 0, none⟩)), (12, .pointer (some ⟨b12, 0, none⟩)), (13, .pointer (some ⟨b13, 0, none⟩)), (14, .pointer (some ⟨b14, 0, none⟩)), (15, .pointer (some ⟨b15, 0, none⟩)), (2, .int .i64 ((nt : Nat) : Int)), (3, .int .i64 ((na : Nat) : Int)), (4, .int .i64 ((nf : Nat) : Int)), (28, .int .i64 ((nv : Nat) : Int)), (29, .int .i64 (((i + 1) : Nat) : Int))] ⟨rfl, rfl, rfl, rfl, rfl, rfl, rfl, rfl, rfl, rfl, rfl, rfl, trivial⟩ ?_
    refine To.del0 ?_
    refine To.again (nv - (i + 1)) (by omega) ⟨A46, q46, (O ++ [y]), i + 1, rfl, rfl, rfl, (by omega), (by rw [pad_succ, ← hO, List.getD_eq_getElem?_getD, hy]; rfl)⟩
   refine To.skip (To.thenN (To.reg ?_))
   refine To.f fl42_0 ?_
   refine To.lo 10 c24 ?_
   refine To.m ?_
   refine To.mk rfl rfl rfl (Mk.sliceN (us := [.int .i64 0]) rfl s24 rfl rfl rfl rfl rfl rfl) ?_
   rintro _ _ ⟨b45_2, rfl, rfl⟩
   refine To.ge rfl rfl rfl (Ge.append1 encI_ok (i := 13) (j := 0) (el := 0) rfl s24 rfl rfl rfl rfl rfl (by first | omega | (simp only [List.length_append, List.length_cons, List.length_nil]; omega)) (by first | omega | (simp only [List.length_append, List.length_cons, List.length_nil]; omega))) ?_
   rintro _ _ ⟨A46_2, q46_2, rfl, rfl⟩
   refine To.f fl42_0 ?_
   refine To.u (Up.store (i := 11) rfl rfl rfl c24 rfl rfl (box_takes1 rfl)) ?_
   refine To.nil (To.blockN (To.thenN (To.reg ?_)))
   refine To.r (Rd.inc rfl rfl rfl (by omega)) ?_
   refine To.m (To.nil (To.thenN ?_))
   refine To.sub [(5, .pointer (some ⟨b5, 0, none⟩)), (10, .pointer (some ⟨b10, 0, none⟩)), (11, .pointer (some ⟨b11, 0, none⟩)), (12, .pointer (some ⟨b12, 0, none⟩)), (13, .pointer (some ⟨b13, 0, none⟩)), (14, .pointer (some ⟨b14, 0, none⟩)), (15, .pointer (some ⟨b15, 0, none⟩)), (2, .int .i64 ((nt : Nat) : Int)), (3, .int .i64 ((na : Nat) : Int)), (4, .int .i64 ((nf : Nat) : Int)), (28, .int .i64 ((nv : Nat) : Int)), (29, .int .i64 (((i + 1) : Nat) : Int))] ⟨rfl, rfl, rfl, rfl, rfl, rfl, rfl, rfl, rfl, rfl, rfl, rfl, trivial⟩ ?_
   refine To.del0 ?_
   refine To.again (nv - (i + 1)) (by omega) ⟨A46_2, q46_2, (O ++ [0]), i + 1, rfl, rfl, rfl, (by omega), (by rw [pad_succ, ← hO, List.getD_eq_getElem?_getD, List.getElem?_eq_none (by omega)]; rfl)⟩
  refine To.exit (To.thenX (To.thenX (To.blockX (To.thenN (To.seq ?_)))))
  obtain rfl : i = nv := by omega
  refine To.sub [(5, .pointer (some ⟨b5, 0, none⟩)), (10, .pointer (some ⟨b10, 0, none⟩)), (11, .pointer (some ⟨b11, 0, none⟩)), (12, .pointer (some ⟨b12, 0, none⟩)), (13, .pointer (some ⟨b13, 0, none⟩)), (14, .pointer (some ⟨b14, 0, none⟩)), (15, .pointer (some ⟨b15, 0, none⟩)), (2, .int .i64 ((nt : Nat) : Int)), (3, .int .i64 ((na : Nat) : Int)), (4, .int .i64 ((nf : Nat) : Int))] ⟨rfl, rfl, rfl, rfl, rfl, rfl, rfl, rfl, rfl, rfl, trivial⟩ ?_
  refine To.nilRow (encI) 2 1 ?_
  refine To.reg ?_
  refine To.f fl46_0 ?_
  refine To.lo 12 c24 ?_
  refine To.f fl42_0 ?_
  refine To.lo 11 c24 ?_
  refine To.ge rfl rfl rfl (Ge.appendL encI_ok (i := 0) (m := O) rfl s24 rfl rfl rfl (src_row (i := 13) rfl) (by first | omega | (simp only [List.length_append, List.length_cons, List.length_nil]; omega)) (by first | omega | (simp only [List.length_append, List.length_cons, List.length_nil]; omega))) ?_
  rintro _ _ ⟨A53, q53, rfl, rfl⟩
  refine To.f fl46_0 ?_
  refine To.u (Up.store (i := 12) rfl rfl rfl c24 rfl rfl (box_takes1 rfl)) ?_
  refine To.nil (To.thenN (To.seq (To.seq (To.reg (To.m ?_)))))
  refine To.m (To.nil (To.thenN (To.block ?_)))
  refine To.nilRow (Tb.cells) 40 1 ?_
  refine To.nilS (enc := encEn) ?_
  refine To.nilRow (Tb.cells) 44 1 ?_
  refine To.nilS (enc := encEn) ?_
  refine To.sub [(5, .pointer (some ⟨b5, 0, none⟩)), (10, .pointer (some ⟨b10, 0, none⟩)), (11, .pointer (some ⟨b11, 0, none⟩)), (12, .pointer (some ⟨b12, 0, none⟩)), (13, .pointer (some ⟨b13, 0, none⟩)), (14, .pointer (some ⟨b14, 0, none⟩)), (15, .pointer (some ⟨b15, 0, none⟩)), (3, .int .i64 ((na : Nat) : Int)), (4, .int .i64 ((nf : Nat) : Int)), (55, .int .i64 ((nt : Nat) : Int)), (56, .int .i64 ((0 : Nat) : Int))] ⟨rfl, rfl, rfl, rfl, rfl, rfl, rfl, rfl, rfl, rfl, rfl, trivial⟩ ?_
  refine To.up1 ?_
  refine To.up2 ?_
  refine To.up3 ?_
  refine To.up4 ?_
  refine To.up17 ?_
  refine To.up17 ?_
  refine To.up17 ?_
  refine To.up17 ?_
  refine To.up17 ?_
  refine To.up17 ?_
  refine To.up17 ?_
  refine To.up17 ?_
  refine To.up17 ?_
  refine To.up17 ?_
  refine To.up17 ?_
  refine To.up17 ?_
  refine To.up17 ?_
  refine To.loop (fun mz ρ Γ => ∃ (Ta : Option Addr) (qa : Nat) (T : List Tb) (Tr : Option Addr) (qr : Nat) (R : List Tb) (i : Nat), ρ = [(5, .pointer (some ⟨b5, 0, none⟩)), (10, .pointer (some ⟨b10, 0, none⟩)), (11, .pointer (some ⟨b11, 0, none⟩)), (12, .pointer (some ⟨b12, 0, none⟩)), (13, .pointer (some ⟨b13, 0, none⟩)), (14, .pointer (some ⟨b14, 0, none⟩)), (15, .pointer (some ⟨b15, 0, none⟩)), (3, .int .i64 ((na : Nat) : Int)), (4, .int .i64 ((nf : Nat) : Int)), (55, .int .i64 ((nt : Nat) : Int)), (56, .int .i64 ((i : Nat) : Int))] ∧ Γ = [box b5 [.slice w.Av w.vars.length w.qv, .slice w.At w.tabs.length w.qt, .slice w.Ad w.disk.length w.qd, .slice w.Aa w.args.length w.qa, .int .i64 w.now, .int .u8 ((w.flags : Nat) : Int), .int .u8 ((w.before : Nat) : Int), .slice w.Af w.fail.length w.qf] 28, box b10 [.slice none 0 0, .slice none 0 0, .slice none 0 0] 42, box b11 [.slice none 0 0, .slice none 0 0, .slice none 0 0] 46, box b12 [.slice none 0 0, .int .i64 0, .slice none 0 0, .int .i64 0, .slice none 0 0] 50, box b13 [.slice none 0 0, .int .i64 0, .slice none 0 0, .int .i64 0, .slice none 0 0] 51, ros encI w.Av w.vars, ros encEn w.At w.tabs, ros encEn w.Ad w.disk, ros encI w.Aa w.args, ros encY w.Af w.fail, box b14 [.slice Ao O.length qo, .slice Ta T.length qa, .slice none 0 0] 42, box b15 [.slice A53 O.length q53, .slice Tr R.length qr, .slice none 0 0] 46, rows encI 2 1 Ao qo O, rows encI 2 1 A53 q53 O, rows Tb.cells 40 1 Ta qa T, rosS encEn (T.map Tb.ar), rows Tb.cells 44 1 Tr qr R, rosS encEn (R.map Tb.ar)] ∧ mz = nt - i ∧ (i ≤ nt) ∧ (T.map Tb.l = tabsV w.tabs i) ∧ (R.map Tb.l = tabsV w.tabs i) ∧ (∀ x ∈ T, x.l.length ≤ x.q)) (nt - 0) ⟨none, 0, ([] : List Tb), none, 0, ([] : List Tb), 0, rfl, rfl, rfl, (Nat.zero_le _), rfl, rfl, (fun x hx => by simp at hx)⟩ ?_
  rintro mz _ _ ⟨Ta, qa, T, Tr, qr, R, i, rfl, rfl, rfl, hi, hT, hR, hTq⟩
  have hTl : T.length = i := by have := congrArg List.length hT; rw [List.length_map, tabs_len] at this; exact this
  have hRl : R.length = i := by have := congrArg List.length hR; rw [List.length_map, tabs_len] at this; exact this
  refine To.seq (To.reg ?_)
  refine To.r (Rd.lss rfl rfl rfl) ?_
  refine To.nil (To.thenN (To.seq ?_))
  refine To.condP rfl (fun k57 => ?_) (fun k57 => ?_)
  ·
   refine To.skip (To.thenN (To.seq (To.block (To.seq (To.reg (To.m ?_))))))
   refine To.a (To.nil (To.thenN (To.seq (To.reg ?_))))
   refine To.f fl28_1 ?_
   refine To.lo 0 c25 ?_
   refine To.m ?_
   refine To.r (Rd.as (v' := .int .i64 ((16 - i : Nat) : Int)) (congrArg (Value.int .i64) (by omega)) (Rd.sub64 rfl rfl rfl (by omega))) ?_
   refine To.callV rfl rfl rfl (Ent.fn rfl rfl ca12) (pairs_fn w.At w.qt (16 - i) w.tabs hw.qt) rfl (oks_nil _) ?_
   refine To.a (To.nil (To.thenN (To.seq ?_)))
   have htk : (w.tabs.take (16 - i)).length ≤ 16 := by rw [List.length_take]; omega
   refine To.take (16 - i) 6 rfl ?_
   refine To.flow [] [⟨0, [], 0⟩, ⟨2, [], 0⟩, ⟨3, [], 4⟩, ⟨1, [], 1⟩, ⟨4, [3], 2⟩, ⟨5, [3, 4], 5⟩, ⟨6, [], 0⟩, ⟨7, [], 5⟩] mixed (by kernel_rfl) (oks_nil _) ?_
   refine FlowS.fi fl42_1 ?_
   refine FlowS.mo ?_
   refine FlowS.callM rfl rfl rfl rfl rfl (Ent.fn rfl rfl ca13) (tof_fn w.At w.qt (w.tabs.take (16 - i)) (by omega)) rfl (oks_cons (oks_at 0 rfl) (oks_nil _)) ?_
   rintro _ _ ⟨Bo, qo_, rfl, rfl⟩
   refine ⟨rfl, ?_⟩
   refine FlowS.lo 11 c37 ?_
   refine FlowS.mk rfl rfl rfl rfl rfl (Mk.sliceN (us := [.slice Bo ((ofT (w.tabs.take (16 - i))).length) qo_]) rfl s37 rfl rfl rfl rfl rfl rfl) ?_
   rintro _ _ ⟨b68, rfl, rfl⟩
   refine FlowS.ge rfl rfl rfl rfl (Ge.append1 encTb (i := 17) (j := 0) (el := (⟨Bo, qo_, (ofT (w.tabs.take (16 - i)))⟩ : Tb)) rfl s37 rfl rfl rfl rfl rfl (by first | omega | (simp only [List.length_append, List.length_cons, List.length_nil]; omega)) (by first | omega | (simp only [List.length_append, List.length_cons, List.length_nil]; omega))) ?_
   rintro _ _ ⟨A69, q69, rfl, rfl⟩
   refine ⟨oks_nil _, ?_⟩
   refine FlowS.fi fl42_1 ?_
   refine FlowS.up rfl rfl rfl (Up.store (i := 13) rfl rfl rfl c37 rfl rfl (box_takes1 rfl)) (oks_nil _) ?_
   refine FlowS.fin ?_
   refine To.thenN ?_
   refine To.know (p := (ofT (w.tabs.take (16 - i))).length ≤ qo_) (fun w hw => rows_capD 1 rfl hw) (fun hcq => ?_)
   refine To.up1 ?_
   refine To.layRow ?_
   refine To.famS ((T ++ [(⟨Bo, qo_, (ofT (w.tabs.take (16 - i)))⟩ : Tb)]).map Tb.ar) 18 rfl (fam_snoc rfl) ?_
   refine To.flow [] [⟨0, [], 0⟩, ⟨2, [], 0⟩, ⟨3, [], 4⟩, ⟨1, [], 1⟩, ⟨4, [3], 2⟩, ⟨5, [3, 4], 5⟩, ⟨6, [], 0⟩, ⟨7, [], 5⟩] mixed (by kernel_rfl) (oks_nil _) ?_
   refine FlowS.fi fl46_1 ?_
   refine FlowS.mo ?_
   refine FlowS.callM rfl rfl rfl rfl rfl (Ent.fn rfl rfl ca14) (rof_fn w.At w.qt (w.tabs.take (16 - i)) (by omega)) rfl (oks_cons (oks_at 3 rfl) (oks_nil _)) ?_
   rintro _ _ ⟨Br, qr_, rfl, rfl⟩
   refine ⟨rfl, ?_⟩
   refine FlowS.lo 15 c43 ?_
   refine FlowS.mk rfl rfl rfl rfl rfl (Mk.sliceN (us := [.slice Br ((rofT (w.tabs.take (16 - i))).length) qr_]) rfl s43 rfl rfl rfl rfl rfl rfl) ?_
   rintro _ _ ⟨b75, rfl, rfl⟩
   refine FlowS.ge rfl rfl rfl rfl (Ge.append1 encTb (i := 22) (j := 0) (el := (⟨Br, qr_, (rofT (w.tabs.take (16 - i)))⟩ : Tb)) rfl s43 rfl rfl rfl rfl rfl (by first | omega | (simp only [List.length_append, List.length_cons, List.length_nil]; omega)) (by first | omega | (simp only [List.length_append, List.length_cons, List.length_nil]; omega))) ?_
   rintro _ _ ⟨A76, q76, rfl, rfl⟩
   refine ⟨oks_nil _, ?_⟩
   refine FlowS.fi fl46_1 ?_
   refine FlowS.up rfl rfl rfl (Up.store (i := 17) rfl rfl rfl c43 rfl rfl (box_takes1 rfl)) (oks_nil _) ?_
   refine FlowS.fin ?_
   refine To.blockN (To.thenN ?_)
   refine To.up1 ?_
   refine To.layRow ?_
   refine To.famS ((R ++ [(⟨Br, qr_, (rofT (w.tabs.take (16 - i)))⟩ : Tb)]).map Tb.ar) 23 rfl (fam_snoc rfl) ?_
   refine To.reg ?_
   refine To.r (Rd.inc rfl rfl rfl (by omega)) ?_
   refine To.m (To.nil (To.thenN ?_))
   refine To.sub [(5, .pointer (some ⟨b5, 0, none⟩)), (10, .pointer (some ⟨b10, 0, none⟩)), (11, .pointer (some ⟨b11, 0, none⟩)), (12, .pointer (some ⟨b12, 0, none⟩)), (13, .pointer (some ⟨b13, 0, none⟩)), (14, .pointer (some ⟨b14, 0, none⟩)), (15, .pointer (some ⟨b15, 0, none⟩)), (3, .int .i64 ((na : Nat) : Int)), (4, .int .i64 ((nf : Nat) : Int)), (55, .int .i64 ((nt : Nat) : Int)), (56, .int .i64 (((i + 1) : Nat) : Int))] ⟨rfl, rfl, rfl, rfl, rfl, rfl, rfl, rfl, rfl, rfl, rfl, trivial⟩ ?_
   refine To.del24 ?_
   refine To.del22 ?_
   refine To.del6 ?_
   refine To.del5 ?_
   refine To.del4 ?_
   refine To.del2 ?_
   refine To.del1 ?_
   refine To.up17 ?_
   refine To.up2 ?_
   refine To.up17 ?_
   refine To.up17 ?_
   refine To.up17 ?_
   refine To.up17 ?_
   refine To.up17 ?_
   refine To.up17 ?_
   refine To.up17 ?_
   refine To.up17 ?_
   refine To.up17 ?_
   refine To.up17 ?_
   refine To.up17 ?_
   refine To.up17 ?_
   refine To.up17 ?_
   refine To.up17 ?_
   refine To.up17 ?_
   refine To.again (nt - (i + 1)) (by omega) ⟨A69, q69, (T ++ [(⟨Bo, qo_, (ofT (w.tabs.take (16 - i)))⟩ : Tb)]), A76, q76, (R ++ [(⟨Br, qr_, (rofT (w.tabs.take (16 - i)))⟩ : Tb)]), i + 1, rfl, rfl, rfl, (by omega), (by rw [List.map_append, hT, tabs_succ]; rfl), (by rw [List.map_append, hR, tabs_succ, ← (rof_eq _).1]; rfl), (caps_snoc hTq hcq)⟩
  refine To.exit (To.thenX (To.thenX (To.blockX (To.thenN (To.seq ?_)))))
  have hbf := hw.before
  have hin : i = nt := by omega
  have hdk : (w.disk.take 16).length ≤ 16 := by rw [List.length_take]; omega
  refine To.take 16 7 rfl ?_
  refine To.flow [box b5 [.slice w.Av w.vars.length w.qv, .slice w.At w.tabs.length w.qt, .slice w.Ad w.disk.length w.qd, .slice w.Aa w.args.length w.qa, .int .i64 w.now, .int .u8 ((w.flags : Nat) : Int), .int .u8 ((w.before : Nat) : Int), .slice w.Af w.fail.length w.qf] 28] [⟨0, [], 0⟩, ⟨1, [], 0⟩, ⟨4, [], 0⟩, ⟨5, [], 0⟩, ⟨2, [], 3⟩, ⟨3, [], 4⟩, ⟨8, [3], 0⟩, ⟨6, [3], 3⟩, ⟨7, [3], 4⟩, ⟨9, [3, 7], 5⟩, ⟨10, [], 0⟩, ⟨11, [], 5⟩] mixed (by kernel_rfl) (oks_cons (oks_at 1 rfl) (oks_nil _)) ?_
  refine FlowS.fi fl28_2 ?_
  refine FlowS.th 0 c25 ?_
  refine FlowS.fi fl28_2 ?_
  refine FlowS.th 0 c25 ?_
  refine FlowS.callQ rfl rfl rfl rfl (Ent.fn rfl rfl ca12) (pairs_fn w.Ad w.qd 16 w.disk hw.qd) rfl (oks_nil _) ?_
  refine FlowS.callM rfl rfl rfl rfl rfl (Ent.fn rfl rfl ca13) (tof_fn w.Ad w.qd (w.disk.take 16) (by omega)) rfl (oks_cons (oks_at 0 rfl) (oks_nil _)) ?_
  rintro _ _ ⟨Bo_2, qo__2, rfl, rfl⟩
  refine ⟨rfl, ?_⟩
  refine FlowS.fi fl42_2 ?_
  refine FlowS.callQ rfl rfl rfl rfl (Ent.fn rfl rfl ca12) (pairs_fn w.Ad w.qd 16 w.disk hw.qd) rfl (oks_nil _) ?_
  refine FlowS.callM rfl rfl rfl rfl rfl (Ent.fn rfl rfl ca14) (rof_fn w.Ad w.qd (w.disk.take 16) (by omega)) rfl (oks_cons (oks_at 1 rfl) (oks_nil _)) ?_
  rintro _ _ ⟨Br_2, qr__2, rfl, rfl⟩
  refine ⟨rfl, ?_⟩
  refine FlowS.up rfl rfl rfl (Up.storeS (i := 13) rfl rfl rfl r40 rfl rfl rfl (box_takes (ds := [.slice Ao O.length qo, .slice Ta T.length qa, .slice Bo_2 ((ofT (w.disk.take 16)).length) qo__2]) rfl rfl)) (oks_cons (oks_at 3 rfl) (oks_nil _)) ?_
  refine FlowS.fi fl46_2 ?_
  refine FlowS.up rfl rfl rfl (Up.store (i := 14) rfl rfl rfl c44 rfl rfl (box_takes1 rfl)) (oks_cons (oks_at 3 rfl) (oks_nil _)) ?_
  refine FlowS.fin ?_
  refine To.thenN (To.seq ?_)
  refine To.know (p := (ofT (w.disk.take 16)).length ≤ qo__2) (fun w hw => rows_capD 1 rfl hw) (fun hdq => ?_)
  refine To.up1 ?_
  refine To.layRow ?_
  refine To.up1 ?_
  refine To.layRow ?_
  refine To.reg ?_
  refine To.f fl28_4 ?_
  refine To.lo 3 c2 ?_
  refine To.f fl28_6 ?_
  refine To.lo 3 c5 ?_
  refine To.r (Rd.conv rfl rfl Tryz.underlying5 Tryz.underlying3 (IntWalk.i64_in _ (by omega))) ?_
  refine To.r (Rd.build (vs := [(1, .int .i64 w.now), (3, .int .i64 ((w.before : Nat) : Int))]) (cells := [.slice none 0 0, .int .i64 w.now, .slice none 0 0, .int .i64 ((w.before : Nat) : Int), .slice none 0 0]) rfl rfl rfl (by kernel_rfl)) ?_
  refine To.alloc rfl rfl rfl rfl z50 (fun b20 => ?_)
  refine To.u (Up.storeS (i := 0) rfl rfl rfl r50 rfl rfl rfl (box_takesAll rfl)) ?_
  refine To.nil (To.thenN (To.seq (To.seq (To.reg (To.m ?_)))))
  refine To.m (To.nil (To.thenN (To.block ?_)))
  refine To.nilRow (encI) 2 1 ?_
  refine To.sub [(5, .pointer (some ⟨b5, 0, none⟩)), (10, .pointer (some ⟨b10, 0, none⟩)), (11, .pointer (some ⟨b11, 0, none⟩)), (12, .pointer (some ⟨b12, 0, none⟩)), (13, .pointer (some ⟨b13, 0, none⟩)), (14, .pointer (some ⟨b14, 0, none⟩)), (15, .pointer (some ⟨b15, 0, none⟩)), (20, .pointer (some ⟨b20, 0, none⟩)), (4, .int .i64 ((nf : Nat) : Int)), (95, .int .i64 ((na : Nat) : Int)), (96, .int .i64 ((0 : Nat) : Int))] ⟨rfl, rfl, rfl, rfl, rfl, rfl, rfl, rfl, rfl, rfl, rfl, trivial⟩ ?_
  refine To.del4 ?_
  refine To.up1 ?_
  refine To.loop (fun mz ρ Γ => ∃ (Ap : Option Addr) (qp : Nat) (P : List Int) (m : Nat), ρ = [(5, .pointer (some ⟨b5, 0, none⟩)), (10, .pointer (some ⟨b10, 0, none⟩)), (11, .pointer (some ⟨b11, 0, none⟩)), (12, .pointer (some ⟨b12, 0, none⟩)), (13, .pointer (some ⟨b13, 0, none⟩)), (14, .pointer (some ⟨b14, 0, none⟩)), (15, .pointer (some ⟨b15, 0, none⟩)), (20, .pointer (some ⟨b20, 0, none⟩)), (4, .int .i64 ((nf : Nat) : Int)), (95, .int .i64 ((na : Nat) : Int)), (96, .int .i64 ((m : Nat) : Int))] ∧ Γ = [box b20 [.slice Ap P.length qp, .int .i64 w.now, .slice none 0 0, .int .i64 ((w.before : Nat) : Int), .slice none 0 0] 50, rows encI 2 1 Ap qp P, ros encEn Br_2 (rofT (w.disk.take 16)), ros encEn Bo_2 (ofT (w.disk.take 16)), box b5 [.slice w.Av w.vars.length w.qv, .slice w.At w.tabs.length w.qt, .slice w.Ad w.disk.length w.qd, .slice w.Aa w.args.length w.qa, .int .i64 w.now, .int .u8 ((w.flags : Nat) : Int), .int .u8 ((w.before : Nat) : Int), .slice w.Af w.fail.length w.qf] 28, box b10 [.slice none 0 0, .slice none 0 0, .slice none 0 0] 42, box b11 [.slice none 0 0, .slice none 0 0, .slice none 0 0] 46, box b12 [.slice none 0 0, .int .i64 0, .slice none 0 0, .int .i64 0, .slice none 0 0] 50, box b13 [.slice none 0 0, .int .i64 0, .slice none 0 0, .int .i64 0, .slice none 0 0] 51, ros encI w.Av w.vars, ros encEn w.At w.tabs, ros encEn w.Ad w.disk, ros encI w.Aa w.args, ros encY w.Af w.fail, box b14 [.slice Ao O.length qo, .slice Ta T.length qa, .slice Bo_2 ((ofT (w.disk.take 16)).length) qo__2] 42, box b15 [.slice A53 O.length q53, .slice Tr R.length qr, .slice Br_2 ((rofT (w.disk.take 16)).length) qr__2] 46, rows encI 2 1 Ao qo O, rows encI 2 1 A53 q53 O, rows Tb.cells 40 1 Ta qa T, rosS encEn (T.map Tb.ar), rows Tb.cells 44 1 Tr qr R, rosS encEn (R.map Tb.ar)] ∧ mz = na - m ∧ (m ≤ na) ∧ (P = padV w.args m)) (na - 0) ⟨none, 0, ([] : List Int), 0, rfl, rfl, rfl, (Nat.zero_le _), rfl⟩ ?_
  rintro mz _ _ ⟨Ap, qp, P, m, rfl, rfl, rfl, hm, hP⟩
  have hPl : P.length = m := by rw [hP, pad_len]
  refine To.seq (To.reg ?_)
  refine To.r (Rd.lss rfl rfl rfl) ?_
  refine To.nil (To.thenN (To.seq ?_))
  refine To.condP rfl (fun k97 => ?_) (fun k97 => ?_)
  ·
   refine To.skip (To.thenN (To.seq (To.block (To.seq (To.reg (To.m ?_))))))
   refine To.a (To.nil (To.thenN (To.seq (To.reg ?_))))
   refine To.a (To.nil (To.thenN (To.seq (To.seq (To.reg ?_)))))
   refine To.m ?_
   refine To.f fl28_3 ?_
   refine To.lo 4 c24 ?_
   refine To.r (Rd.len rfl rfl Tryz.underlying24) ?_
   refine To.r (Rd.lss rfl rfl rfl) ?_
   refine To.nil (To.thenN ?_)
   refine To.condP rfl (fun k103 => ?_) (fun k103 => ?_)
   ·
    obtain ⟨y, hy⟩ : ∃ z0, w.args[m]? = some z0 := ⟨w.args[m]'(by omega), List.getElem?_eq_getElem _⟩
    refine To.reg ?_
    refine To.f fl28_3 ?_
    refine To.lo 4 c24 ?_
    refine To.m ?_
    refine To.r (Rd.indexRos encI_ok (i := 12) (j := m) rfl rfl rfl s24 rfl hy) ?_
    refine To.r (Rd.load (i := 12) rfl rfl c2 rfl (gives_1 (ros_gives encI_ok hy) rfl)) ?_
    refine To.a (To.nil (To.thenN (To.reg ?_)))
    refine To.f fl50_0 ?_
    refine To.lo 0 c24 ?_
    refine To.m ?_
    refine To.mk rfl rfl rfl (Mk.sliceN (us := [.int .i64 y]) rfl s24 rfl rfl rfl rfl rfl rfl) ?_
    rintro _ _ ⟨b112, rfl, rfl⟩
    refine To.ge rfl rfl rfl (Ge.append1 encI_ok (i := 2) (j := 0) (el := y) rfl s24 rfl rfl rfl rfl rfl (by first | omega | (simp only [List.length_append, List.length_cons, List.length_nil]; omega)) (by first | omega | (simp only [List.length_append, List.length_cons, List.length_nil]; omega))) ?_
    rintro _ _ ⟨A113, q113, rfl, rfl⟩
    refine To.f fl50_0 ?_
    refine To.u (Up.store (i := 1) rfl rfl rfl c24 rfl rfl (box_takes1 rfl)) ?_
    refine To.nil (To.blockN (To.thenN (To.reg ?_)))
    refine To.r (Rd.inc rfl rfl rfl (by omega)) ?_
    refine To.m (To.nil (To.thenN ?_))
    refine To.sub [(5, .pointer (some ⟨b5, 0, none⟩)), (10, .pointer (some ⟨b10, 0, none⟩)), (11, .pointer (some ⟨b11, 0, none⟩)), (12, .pointer (some ⟨b12, 0, none⟩)), (13, .pointer (some ⟨b13, 0, none⟩)), (14, .pointer (some ⟨b14, 0, none⟩)), (15, .pointer (some ⟨b15, 0, none⟩)), (20, .pointer (some ⟨b20, 0, none⟩)), (4, .int .i64 ((nf : Nat) : Int)), (95, .int .i64 ((na : Nat) : Int)), (96, .int .i64 (((m + 1) : Nat) : Int))] ⟨rfl, rfl, rfl, rfl, rfl, rfl, rfl, rfl, rfl, rfl, rfl, trivial⟩ ?_
    refine To.del0 ?_
    refine To.again (na - (m + 1)) (by omega) ⟨A113, q113, (P ++ [y]), m + 1, rfl, rfl, rfl, (by omega), (by rw [pad_succ, ← hP, List.getD_eq_getElem?_getD, hy]; rfl)⟩
   refine To.skip (To.thenN (To.reg ?_))
   refine To.f fl50_0 ?_
   refine To.lo 0 c24 ?_
   refine To.m ?_
   refine To.mk rfl rfl rfl (Mk.sliceN (us := [.int .i64 0]) rfl s24 rfl rfl rfl rfl rfl rfl) ?_
   rintro _ _ ⟨b112_2, rfl, rfl⟩
   refine To.ge rfl rfl rfl (Ge.append1 encI_ok (i := 2) (j := 0) (el := 0) rfl s24 rfl rfl rfl rfl rfl (by first | omega | (simp only [List.length_append, List.length_cons, List.length_nil]; omega)) (by first | omega | (simp only [List.length_append, List.length_cons, List.length_nil]; omega))) ?_
   rintro _ _ ⟨A113_2, q113_2, rfl, rfl⟩
   refine To.f fl50_0 ?_
   refine To.u (Up.store (i := 1) rfl rfl rfl c24 rfl rfl (box_takes1 rfl)) ?_
   refine To.nil (To.blockN (To.thenN (To.reg ?_)))
   refine To.r (Rd.inc rfl rfl rfl (by omega)) ?_
   refine To.m (To.nil (To.thenN ?_))
   refine To.sub [(5, .pointer (some ⟨b5, 0, none⟩)), (10, .pointer (some ⟨b10, 0, none⟩)), (11, .pointer (some ⟨b11, 0, none⟩)), (12, .pointer (some ⟨b12, 0, none⟩)), (13, .pointer (some ⟨b13, 0, none⟩)), (14, .pointer (some ⟨b14, 0, none⟩)), (15, .pointer (some ⟨b15, 0, none⟩)), (20, .pointer (some ⟨b20, 0, none⟩)), (4, .int .i64 ((nf : Nat) : Int)), (95, .int .i64 ((na : Nat) : Int)), (96, .int .i64 (((m + 1) : Nat) : Int))] ⟨rfl, rfl, rfl, rfl, rfl, rfl, rfl, rfl, rfl, rfl, rfl, trivial⟩ ?_
   refine To.del0 ?_
   refine To.again (na - (m + 1)) (by omega) ⟨A113_2, q113_2, (P ++ [0]), m + 1, rfl, rfl, rfl, (by omega), (by rw [pad_succ, ← hP, List.getD_eq_getElem?_getD, List.getElem?_eq_none (by omega)]; rfl)⟩
  refine To.exit (To.thenX (To.thenX (To.blockX (To.thenN (To.seq (To.seq ?_))))))
  have hmn : m = na := by omega
  refine To.reg (To.m ?_)
  refine To.m (To.nil (To.thenN (To.block ?_)))
  refine To.nilRow (encB) 4 1 ?_
  refine To.sub [(5, .pointer (some ⟨b5, 0, none⟩)), (10, .pointer (some ⟨b10, 0, none⟩)), (11, .pointer (some ⟨b11, 0, none⟩)), (12, .pointer (some ⟨b12, 0, none⟩)), (13, .pointer (some ⟨b13, 0, none⟩)), (14, .pointer (some ⟨b14, 0, none⟩)), (15, .pointer (some ⟨b15, 0, none⟩)), (20, .pointer (some ⟨b20, 0, none⟩)), (116, .int .i64 ((nf : Nat) : Int)), (117, .int .i64 ((0 : Nat) : Int))] ⟨rfl, rfl, rfl, rfl, rfl, rfl, rfl, rfl, rfl, rfl, trivial⟩ ?_
  refine To.up1 ?_
  refine To.loop (fun mz ρ Γ => ∃ (Gp : Option Addr) (qg : Nat) (G : List Bool) (m2 : Nat), ρ = [(5, .pointer (some ⟨b5, 0, none⟩)), (10, .pointer (some ⟨b10, 0, none⟩)), (11, .pointer (some ⟨b11, 0, none⟩)), (12, .pointer (some ⟨b12, 0, none⟩)), (13, .pointer (some ⟨b13, 0, none⟩)), (14, .pointer (some ⟨b14, 0, none⟩)), (15, .pointer (some ⟨b15, 0, none⟩)), (20, .pointer (some ⟨b20, 0, none⟩)), (116, .int .i64 ((nf : Nat) : Int)), (117, .int .i64 ((m2 : Nat) : Int))] ∧ Γ = [box b20 [.slice Ap P.length qp, .int .i64 w.now, .slice Gp G.length qg, .int .i64 ((w.before : Nat) : Int), .slice none 0 0] 50, rows encB 4 1 Gp qg G, rows encI 2 1 Ap qp P, ros encEn Br_2 (rofT (w.disk.take 16)), ros encEn Bo_2 (ofT (w.disk.take 16)), box b5 [.slice w.Av w.vars.length w.qv, .slice w.At w.tabs.length w.qt, .slice w.Ad w.disk.length w.qd, .slice w.Aa w.args.length w.qa, .int .i64 w.now, .int .u8 ((w.flags : Nat) : Int), .int .u8 ((w.before : Nat) : Int), .slice w.Af w.fail.length w.qf] 28, box b10 [.slice none 0 0, .slice none 0 0, .slice none 0 0] 42, box b11 [.slice none 0 0, .slice none 0 0, .slice none 0 0] 46, box b12 [.slice none 0 0, .int .i64 0, .slice none 0 0, .int .i64 0, .slice none 0 0] 50, box b13 [.slice none 0 0, .int .i64 0, .slice none 0 0, .int .i64 0, .slice none 0 0] 51, ros encI w.Av w.vars, ros encEn w.At w.tabs, ros encEn w.Ad w.disk, ros encI w.Aa w.args, ros encY w.Af w.fail, box b14 [.slice Ao O.length qo, .slice Ta T.length qa, .slice Bo_2 ((ofT (w.disk.take 16)).length) qo__2] 42, box b15 [.slice A53 O.length q53, .slice Tr R.length qr, .slice Br_2 ((rofT (w.disk.take 16)).length) qr__2] 46, rows encI 2 1 Ao qo O, rows encI 2 1 A53 q53 O, rows Tb.cells 40 1 Ta qa T, rosS encEn (T.map Tb.ar), rows Tb.cells 44 1 Tr qr R, rosS encEn (R.map Tb.ar)] ∧ mz = nf - m2 ∧ (m2 ≤ nf) ∧ (G = flagsV w.flags m2)) (nf - 0) ⟨none, 0, ([] : List Bool), 0, rfl, rfl, rfl, (Nat.zero_le _), rfl⟩ ?_
  rintro mz _ _ ⟨Gp, qg, G, m2, rfl, rfl, rfl, hm2, hG⟩
  have hGl : G.length = m2 := by rw [hG, flags_len]
  refine To.seq (To.reg ?_)
  refine To.r (Rd.lss rfl rfl rfl) ?_
  refine To.nil (To.thenN (To.seq ?_))
  refine To.condP rfl (fun k118 => ?_) (fun k118 => ?_)
  ·
   refine To.skip (To.thenN (To.seq (To.block (To.seq (To.reg (To.m ?_))))))
   refine To.a (To.nil (To.thenN ?_))
   refine To.flow [box b5 [.slice w.Av w.vars.length w.qv, .slice w.At w.tabs.length w.qt, .slice w.Ad w.disk.length w.qd, .slice w.Aa w.args.length w.qa, .int .i64 w.now, .int .u8 ((w.flags : Nat) : Int), .int .u8 ((w.before : Nat) : Int), .slice w.Af w.fail.length w.qf] 28] [⟨0, [], 0⟩, ⟨2, [], 0⟩, ⟨4, [], 0⟩, ⟨5, [], 0⟩, ⟨1, [], 1⟩, ⟨3, [], 1⟩, ⟨6, [], 0⟩, ⟨7, [], 0⟩, ⟨8, [], 0⟩, ⟨9, [], 2⟩, ⟨10, [9], 5⟩, ⟨11, [], 0⟩, ⟨12, [], 5⟩] mixed (by kernel_rfl) (oks_cons (oks_at 5 rfl) (oks_nil _)) ?_
   refine FlowS.fi fl50_2 ?_
   refine FlowS.fi fl28_5 ?_
   refine FlowS.mo ?_
   refine FlowS.f rfl (Rd.remN (a := m2) (b := 8) rfl rfl rfl (by omega)) ?_
   refine FlowS.lo 0 c47 ?_
   refine FlowS.lo 5 c5 ?_
   refine FlowS.f rfl (Rd.shrK (a := w.flags) (j := (m2 % 8)) rfl rfl rfl (by simp only [IntKind.bits]; omega)) ?_
   refine FlowS.f rfl (Rd.and8 (a := (w.flags / 2 ^ (m2 % 8))) (b := 1) rfl rfl rfl (Nat.lt_of_le_of_lt (Nat.div_le_self _ _) hfl) (by omega)) ?_
   refine FlowS.f rfl (Rd.eql rfl rfl rfl) ?_
   refine FlowS.mk rfl rfl rfl rfl rfl (Mk.sliceN (us := [.bool (decide ((((w.flags / 2 ^ (m2 % 8)) &&& 1 : Nat) : Int) = 1))]) rfl s47 rfl rfl rfl rfl rfl rfl) ?_
   rintro _ _ ⟨b129, rfl, rfl⟩
   refine FlowS.ge rfl rfl rfl rfl (Ge.append1 encB_ok (i := 2) (j := 0) (el := decide ((((w.flags / 2 ^ (m2 % 8)) &&& 1 : Nat) : Int) = 1)) rfl s47 rfl rfl rfl rfl rfl (by first | omega | (simp only [List.length_append, List.length_cons, List.length_nil]; omega)) (by first | omega | (simp only [List.length_append, List.length_cons, List.length_nil]; omega))) ?_
   rintro _ _ ⟨A130, q130, rfl, rfl⟩
   refine ⟨oks_cons (oks_at 6 rfl) (oks_nil _), ?_⟩
   refine FlowS.fi fl50_2 ?_
   refine FlowS.up rfl rfl rfl (Up.store (i := 1) rfl rfl rfl c47 rfl rfl (box_takes1 rfl)) (oks_cons (oks_at 6 rfl) (oks_nil _)) ?_
   refine FlowS.fin ?_
   refine To.blockN (To.thenN (To.reg ?_))
   refine To.r (Rd.inc rfl rfl rfl (by omega)) ?_
   refine To.m (To.nil (To.thenN ?_))
   refine To.sub [(5, .pointer (some ⟨b5, 0, none⟩)), (10, .pointer (some ⟨b10, 0, none⟩)), (11, .pointer (some ⟨b11, 0, none⟩)), (12, .pointer (some ⟨b12, 0, none⟩)), (13, .pointer (some ⟨b13, 0, none⟩)), (14, .pointer (some ⟨b14, 0, none⟩)), (15, .pointer (some ⟨b15, 0, none⟩)), (20, .pointer (some ⟨b20, 0, none⟩)), (116, .int .i64 ((nf : Nat) : Int)), (117, .int .i64 (((m2 + 1) : Nat) : Int))] ⟨rfl, rfl, rfl, rfl, rfl, rfl, rfl, rfl, rfl, rfl, trivial⟩ ?_
   refine To.del0 ?_
   refine To.again (nf - (m2 + 1)) (by omega) ⟨A130, q130, (G ++ [decide ((((w.flags / 2 ^ (m2 % 8)) &&& 1 : Nat) : Int) = 1)]), m2 + 1, rfl, rfl, rfl, (by omega), (by rw [flags_succ, ← hG])⟩
  refine To.exit (To.thenX (To.thenX (To.blockX (To.thenN (To.seq (To.reg (To.a (To.nil (To.thenN (To.seq (To.seq (To.reg ?_))))))))))))
  refine To.a (To.nil (To.thenN (To.block ?_)))
  refine To.nilRow (encI) 3 1 ?_
  refine To.sub [(5, .pointer (some ⟨b5, 0, none⟩)), (10, .pointer (some ⟨b10, 0, none⟩)), (11, .pointer (some ⟨b11, 0, none⟩)), (12, .pointer (some ⟨b12, 0, none⟩)), (13, .pointer (some ⟨b13, 0, none⟩)), (14, .pointer (some ⟨b14, 0, none⟩)), (15, .pointer (some ⟨b15, 0, none⟩)), (20, .pointer (some ⟨b20, 0, none⟩)), (24, .int .i64 (-1)), (25, .int .i64 ((0 : Nat) : Int))] ⟨rfl, rfl, rfl, rfl, rfl, rfl, rfl, rfl, rfl, rfl, trivial⟩ ?_
  refine To.up1 ?_
  refine To.loop (fun mz ρ Γ => ∃ (Fa : Option Addr) (qf : Nat) (Fl : List Int) (la : Int) (k : Nat), ρ = [(5, .pointer (some ⟨b5, 0, none⟩)), (10, .pointer (some ⟨b10, 0, none⟩)), (11, .pointer (some ⟨b11, 0, none⟩)), (12, .pointer (some ⟨b12, 0, none⟩)), (13, .pointer (some ⟨b13, 0, none⟩)), (14, .pointer (some ⟨b14, 0, none⟩)), (15, .pointer (some ⟨b15, 0, none⟩)), (20, .pointer (some ⟨b20, 0, none⟩)), (24, .int .i64 la), (25, .int .i64 ((k : Nat) : Int))] ∧ Γ = [box b20 [.slice Ap P.length qp, .int .i64 w.now, .slice Gp G.length qg, .int .i64 ((w.before : Nat) : Int), .slice Fa Fl.length qf] 50, rows encI 3 1 Fa qf Fl, rows encB 4 1 Gp qg G, rows encI 2 1 Ap qp P, ros encEn Br_2 (rofT (w.disk.take 16)), ros encEn Bo_2 (ofT (w.disk.take 16)), box b5 [.slice w.Av w.vars.length w.qv, .slice w.At w.tabs.length w.qt, .slice w.Ad w.disk.length w.qd, .slice w.Aa w.args.length w.qa, .int .i64 w.now, .int .u8 ((w.flags : Nat) : Int), .int .u8 ((w.before : Nat) : Int), .slice w.Af w.fail.length w.qf] 28, box b10 [.slice none 0 0, .slice none 0 0, .slice none 0 0] 42, box b11 [.slice none 0 0, .slice none 0 0, .slice none 0 0] 46, box b12 [.slice none 0 0, .int .i64 0, .slice none 0 0, .int .i64 0, .slice none 0 0] 50, box b13 [.slice none 0 0, .int .i64 0, .slice none 0 0, .int .i64 0, .slice none 0 0] 51, ros encI w.Av w.vars, ros encEn w.At w.tabs, ros encEn w.Ad w.disk, ros encI w.Aa w.args, ros encY w.Af w.fail, box b14 [.slice Ao O.length qo, .slice Ta T.length qa, .slice Bo_2 ((ofT (w.disk.take 16)).length) qo__2] 42, box b15 [.slice A53 O.length q53, .slice Tr R.length qr, .slice Br_2 ((rofT (w.disk.take 16)).length) qr__2] 46, rows encI 2 1 Ao qo O, rows encI 2 1 A53 q53 O, rows Tb.cells 40 1 Ta qa T, rosS encEn (T.map Tb.ar), rows Tb.cells 44 1 Tr qr R, rosS encEn (R.map Tb.ar)] ∧ mz = 8 - k ∧ (k ≤ 8) ∧ (Fl.length = k) ∧ (-1 ≤ la ∧ la ≤ 256 + 4 * k)) (8 - 0) ⟨none, 0, ([] : List Int), (-1), 0, rfl, rfl, rfl, (Nat.zero_le _), rfl, (by omega)⟩ ?_
  rintro mz _ _ ⟨Fa, qf, Fl, la, k, rfl, rfl, rfl, hk8, hFl, hla⟩
  refine To.seq (To.seq (To.reg (To.m ?_)))
  refine To.f fl28_7 ?_
  refine To.lo 6 c26 ?_
  refine To.r (Rd.len rfl rfl Tryz.underlying26) ?_
  refine To.r (Rd.lss rfl rfl rfl) ?_
  refine To.rdP rfl rfl rfl (Rd.move rfl rfl) (fun g138 => ?_) (fun g138 => ?_)
  ·
   refine To.m ?_
   refine To.r (Rd.lss rfl rfl rfl) ?_
   refine To.r (Rd.pickT rfl rfl rfl) ?_
   refine To.nil (To.thenN ?_)
   refine To.condP rfl (fun k141 => ?_) (fun k141 => ?_)
   ·
    refine To.skip (To.thenN (To.seq (To.block (To.seq ?_))))
    obtain ⟨y, hy⟩ : ∃ z0, w.fail[k]? = some z0 := ⟨w.fail[k]'(by omega), List.getElem?_eq_getElem _⟩
    have hym : y % 4 < 4 := Nat.mod_lt _ (by decide)
    refine To.flow [box b5 [.slice w.Av w.vars.length w.qv, .slice w.At w.tabs.length w.qt, .slice w.Ad w.disk.length w.qd, .slice w.Aa w.args.length w.qa, .int .i64 w.now, .int .u8 ((w.flags : Nat) : Int), .int .u8 ((w.before : Nat) : Int), .slice w.Af w.fail.length w.qf] 28] [⟨0, [], 0⟩, ⟨1, [], 0⟩, ⟨2, [], 0⟩, ⟨6, [], 0⟩, ⟨8, [], 0⟩, ⟨3, [], 1⟩, ⟨4, [], 0⟩, ⟨5, [], 0⟩, ⟨7, [], 1⟩, ⟨9, [], 1⟩, ⟨10, [], 1⟩, ⟨11, [], 0⟩, ⟨12, [], 0⟩, ⟨13, [], 0⟩, ⟨14, [], 0⟩] mixed (by kernel_rfl) (oks_cons (oks_at 6 rfl) (oks_nil _)) ?_
    refine FlowS.mo ?_
    refine FlowS.f rfl (Rd.add64 rfl rfl rfl (by omega)) ?_
    refine FlowS.fi fl28_6 ?_
    refine FlowS.fi fl28_7 ?_
    refine FlowS.mo ?_
    refine FlowS.lo 6 c5 ?_
    refine FlowS.f rfl (Rd.conv rfl rfl Tryz.underlying5 Tryz.underlying3 (IntWalk.i64_in _ (by omega))) ?_
    refine FlowS.f rfl (Rd.max rfl rfl rfl) ?_
    refine FlowS.lo 6 c26 ?_
    refine FlowS.r rfl (Rd.indexRos encY_ok (i := 15) (j := k) rfl rfl rfl s26 rfl hy) ?_
    refine FlowS.r rfl (Rd.load (i := 15) rfl rfl c5 rfl (gives_1 (ros_gives encY_ok hy) rfl)) ?_
    refine FlowS.f rfl (Rd.remN (a := y) (b := 4) rfl rfl rfl (by omega)) ?_
    refine FlowS.f rfl (Rd.conv rfl rfl Tryz.underlying5 Tryz.underlying3 (IntWalk.i64_in _ (by omega))) ?_
    refine FlowS.f rfl (Rd.add64 rfl rfl rfl (by omega)) ?_
    refine FlowS.f rfl (Rd.assign rfl rfl) ?_
    refine FlowS.fin ?_
    refine To.thenN (To.reg ?_)
    refine To.f fl50_4 ?_
    refine To.lo 0 c48 ?_
    refine To.m ?_
    refine To.mk rfl rfl rfl (Mk.sliceN (us := [.int .i64 ((max (la + 1) ((w.before : Nat) : Int)) + ((y % 4 : Nat) : Int))]) rfl s48 rfl rfl rfl rfl rfl rfl) ?_
    rintro _ _ ⟨b161, rfl, rfl⟩
    refine To.ge rfl rfl rfl (Ge.append1 encI_ok (i := 2) (j := 0) (el := (max (la + 1) ((w.before : Nat) : Int)) + ((y % 4 : Nat) : Int)) rfl s48 rfl rfl rfl rfl rfl (by first | omega | (simp only [List.length_append, List.length_cons, List.length_nil]; omega)) (by first | omega | (simp only [List.length_append, List.length_cons, List.length_nil]; omega))) ?_
    rintro _ _ ⟨A162, q162, rfl, rfl⟩
    refine To.f fl50_4 ?_
    refine To.u (Up.store (i := 1) rfl rfl rfl c48 rfl rfl (box_takes1 rfl)) ?_
    refine To.nil (To.blockN (To.thenN (To.reg (To.m ?_))))
    refine To.r (Rd.inc rfl rfl rfl (by omega)) ?_
    refine To.a (To.nil (To.thenN ?_))
    refine To.sub [(5, .pointer (some ⟨b5, 0, none⟩)), (10, .pointer (some ⟨b10, 0, none⟩)), (11, .pointer (some ⟨b11, 0, none⟩)), (12, .pointer (some ⟨b12, 0, none⟩)), (13, .pointer (some ⟨b13, 0, none⟩)), (14, .pointer (some ⟨b14, 0, none⟩)), (15, .pointer (some ⟨b15, 0, none⟩)), (20, .pointer (some ⟨b20, 0, none⟩)), (24, .int .i64 ((max (la + 1) ((w.before : Nat) : Int)) + ((y % 4 : Nat) : Int))), (25, .int .i64 (((k + 1) : Nat) : Int))] ⟨rfl, rfl, rfl, rfl, rfl, rfl, rfl, rfl, rfl, rfl, trivial⟩ ?_
    refine To.del0 ?_
    refine To.again (8 - (k + 1)) (by omega) ⟨A162, q162, (Fl ++ [(max (la + 1) ((w.before : Nat) : Int)) + ((y % 4 : Nat) : Int)]), (max (la + 1) ((w.before : Nat) : Int)) + ((y % 4 : Nat) : Int), k + 1, rfl, rfl, rfl, (by omega), (by rw [List.length_append, hFl]; rfl), (by omega)⟩
   refine To.exit (To.thenX (To.thenX (To.blockX (To.thenN (To.seq ?_)))))
   refine To.flow [box b14 [.slice Ao O.length qo, .slice Ta T.length qa, .slice Bo_2 ((ofT (w.disk.take 16)).length) qo__2] 42, box b15 [.slice A53 O.length q53, .slice Tr R.length qr, .slice Br_2 ((rofT (w.disk.take 16)).length) qr__2] 46, box b20 [.slice Ap P.length qp, .int .i64 w.now, .slice Gp G.length qg, .int .i64 ((w.before : Nat) : Int), .slice Fa Fl.length qf] 50] [⟨0, [], 0⟩, ⟨1, [], 0⟩, ⟨2, [], 0⟩, ⟨3, [], 0⟩, ⟨4, [], 0⟩, ⟨5, [], 0⟩, ⟨6, [], 0⟩, ⟨7, [], 0⟩, ⟨8, [], 0⟩, ⟨9, [], 0⟩, ⟨10, [], 0⟩, ⟨11, [], 0⟩, ⟨12, [], 0⟩, ⟨13, [], 0⟩, ⟨14, [], 5⟩, ⟨15, [], 5⟩, ⟨16, [], 5⟩, ⟨17, [], 5⟩] mixed (by kernel_rfl) (oks_cons (oks_at 16 rfl) (oks_cons (oks_at 17 rfl) (oks_cons (oks_at 0 rfl) (oks_nil _)))) ?_
   refine FlowS.f rfl (Rd.loadS (i := 0) rfl rfl r42 rfl box_whole rfl) ?_
   refine FlowS.f rfl (Rd.loadS (i := 1) rfl rfl r46 rfl box_whole rfl) ?_
   refine FlowS.f rfl (Rd.loadS (i := 2) rfl rfl r50 rfl box_whole rfl) ?_
   refine FlowS.fi fl50_0 ?_
   refine FlowS.th 2 c24 ?_
   refine FlowS.fi fl50_1 ?_
   refine FlowS.th 2 c2 ?_
   refine FlowS.fi fl50_2 ?_
   refine FlowS.th 2 c47 ?_
   refine FlowS.fi fl50_3 ?_
   refine FlowS.th 2 c3 ?_
   refine FlowS.fi fl50_4 ?_
   refine FlowS.th 2 c48 ?_
   refine FlowS.f rfl (Rd.build (vs := [(0, .slice Ap P.length qp), (1, .int .i64 w.now), (2, .slice Gp G.length qg), (3, .int .i64 ((w.before : Nat) : Int)), (4, .slice Fa Fl.length qf)]) (cells := [.slice Ap P.length qp, .int .i64 w.now, .slice Gp G.length qg, .int .i64 ((w.before : Nat) : Int), .slice Fa Fl.length qf]) rfl rfl rfl (by kernel_rfl)) ?_
   refine FlowS.up rfl rfl rfl (Up.storeS (i := 7) rfl rfl rfl r42 rfl rfl rfl (box_takesAll rfl)) (oks_cons (oks_at 16 rfl) (oks_cons (oks_at 17 rfl) (oks_cons (oks_at 0 rfl) (oks_nil _)))) ?_
   refine FlowS.up rfl rfl rfl (Up.storeS (i := 8) rfl rfl rfl r46 rfl rfl rfl (box_takesAll rfl)) (oks_cons (oks_at 16 rfl) (oks_cons (oks_at 17 rfl) (oks_cons (oks_at 0 rfl) (oks_nil _)))) ?_
   refine FlowS.up rfl rfl rfl (Up.storeS (i := 9) rfl rfl rfl r50 rfl rfl rfl (box_takesAll rfl)) (oks_cons (oks_at 16 rfl) (oks_cons (oks_at 17 rfl) (oks_cons (oks_at 0 rfl) (oks_nil _)))) ?_
   refine FlowS.up rfl rfl rfl (Up.storeS (i := 10) rfl rfl rfl r51 rfl rfl rfl (box_takesAll rfl)) (oks_cons (oks_at 16 rfl) (oks_cons (oks_at 17 rfl) (oks_cons (oks_at 0 rfl) (oks_nil _)))) ?_
   refine FlowS.fin ?_
   refine To.thenN (To.ret ?_)
   have hFl8 : Fl.length ≤ 8 := by omega
   refine To.endC4 (i1 := 7) (i2 := 8) (i3 := 9) (i4 := 10) [18, 19, 19, 5, 17, 17, 17, 4, 3, 2, 1] rfl (.inl rfl) Tryz.results4 rfl rfl r42 rfl rfl rfl r46 rfl rfl rfl r50 rfl rfl rfl r51 rfl ?_
   exact ⟨⟨Ao, qo, O, Ta, qa, T, ⟨Bo_2, qo__2, (ofT (w.disk.take 16))⟩⟩, ⟨A53, q53, O, Tr, qr, R, ⟨Br_2, qr__2, (rofT (w.disk.take 16))⟩⟩, Fa, qf, Fl, Ap, qp, P, Gp, qg, G, rfl, rfl, by unfold Sx.val stV; rw [hT, hO, hin], by unfold Sx.val stV; rw [hR, hO, hin, ← (rof_eq (w.disk.take 16)).1], hFl8, by rw [hP, hmn], by rw [hG, show m2 = nf from by omega], hTq, hdq⟩
  refine To.k ?_
  refine To.k ?_
  refine To.r (Rd.pickF rfl rfl rfl) ?_
  refine To.nil (To.thenN ?_)
  refine To.condF rfl ?_
  refine To.exit (To.thenX (To.thenX (To.blockX (To.thenN (To.seq ?_)))))
  refine To.flow [box b14 [.slice Ao O.length qo, .slice Ta T.length qa, .slice Bo_2 ((ofT (w.disk.take 16)).length) qo__2] 42, box b15 [.slice A53 O.length q53, .slice Tr R.length qr, .slice Br_2 ((rofT (w.disk.take 16)).length) qr__2] 46, box b20 [.slice Ap P.length qp, .int .i64 w.now, .slice Gp G.length qg, .int .i64 ((w.before : Nat) : Int), .slice Fa Fl.length qf] 50] [⟨0, [], 0⟩, ⟨1, [], 0⟩, ⟨2, [], 0⟩, ⟨3, [], 0⟩, ⟨4, [], 0⟩, ⟨5, [], 0⟩, ⟨6, [], 0⟩, ⟨7, [], 0⟩, ⟨8, [], 0⟩, ⟨9, [], 0⟩, ⟨10, [], 0⟩, ⟨11, [], 0⟩, ⟨12, [], 0⟩, ⟨13, [], 0⟩, ⟨14, [], 5⟩, ⟨15, [], 5⟩, ⟨16, [], 5⟩, ⟨17, [], 5⟩] mixed (by kernel_rfl) (oks_cons (oks_at 16 rfl) (oks_cons (oks_at 17 rfl) (oks_cons (oks_at 0 rfl) (oks_nil _)))) ?_
  refine FlowS.f rfl (Rd.loadS (i := 0) rfl rfl r42 rfl box_whole rfl) ?_
  refine FlowS.f rfl (Rd.loadS (i := 1) rfl rfl r46 rfl box_whole rfl) ?_
  refine FlowS.f rfl (Rd.loadS (i := 2) rfl rfl r50 rfl box_whole rfl) ?_
  refine FlowS.fi fl50_0 ?_
  refine FlowS.th 2 c24 ?_
  refine FlowS.fi fl50_1 ?_
  refine FlowS.th 2 c2 ?_
  refine FlowS.fi fl50_2 ?_
  refine FlowS.th 2 c47 ?_
  refine FlowS.fi fl50_3 ?_
  refine FlowS.th 2 c3 ?_
  refine FlowS.fi fl50_4 ?_
  refine FlowS.th 2 c48 ?_
  refine FlowS.f rfl (Rd.build (vs := [(0, .slice Ap P.length qp), (1, .int .i64 w.now), (2, .slice Gp G.length qg), (3, .int .i64 ((w.before : Nat) : Int)), (4, .slice Fa Fl.length qf)]) (cells := [.slice Ap P.length qp, .int .i64 w.now, .slice Gp G.length qg, .int .i64 ((w.before : Nat) : Int), .slice Fa Fl.length qf]) rfl rfl rfl (by kernel_rfl)) ?_
  refine FlowS.up rfl rfl rfl (Up.storeS (i := 7) rfl rfl rfl r42 rfl rfl rfl (box_takesAll rfl)) (oks_cons (oks_at 16 rfl) (oks_cons (oks_at 17 rfl) (oks_cons (oks_at 0 rfl) (oks_nil _)))) ?_
  refine FlowS.up rfl rfl rfl (Up.storeS (i := 8) rfl rfl rfl r46 rfl rfl rfl (box_takesAll rfl)) (oks_cons (oks_at 16 rfl) (oks_cons (oks_at 17 rfl) (oks_cons (oks_at 0 rfl) (oks_nil _)))) ?_
  refine FlowS.up rfl rfl rfl (Up.storeS (i := 9) rfl rfl rfl r50 rfl rfl rfl (box_takesAll rfl)) (oks_cons (oks_at 16 rfl) (oks_cons (oks_at 17 rfl) (oks_cons (oks_at 0 rfl) (oks_nil _)))) ?_
  refine FlowS.up rfl rfl rfl (Up.storeS (i := 10) rfl rfl rfl r51 rfl rfl rfl (box_takesAll rfl)) (oks_cons (oks_at 16 rfl) (oks_cons (oks_at 17 rfl) (oks_cons (oks_at 0 rfl) (oks_nil _)))) ?_
  refine FlowS.fin ?_
  refine To.thenN (To.ret ?_)
  have hFl8 : Fl.length ≤ 8 := by omega
  refine To.endC4 (i1 := 7) (i2 := 8) (i3 := 9) (i4 := 10) [18, 19, 19, 5, 17, 17, 17, 4, 3, 2, 1] rfl (.inl rfl) Tryz.results4 rfl rfl r42 rfl rfl rfl r46 rfl rfl rfl r50 rfl rfl rfl r51 rfl ?_
  exact ⟨⟨Ao, qo, O, Ta, qa, T, ⟨Bo_2, qo__2, (ofT (w.disk.take 16))⟩⟩, ⟨A53, q53, O, Tr, qr, R, ⟨Br_2, qr__2, (rofT (w.disk.take 16))⟩⟩, Fa, qf, Fl, Ap, qp, P, Gp, qg, G, rfl, rfl, by unfold Sx.val stV; rw [hT, hO, hin], by unfold Sx.val stV; rw [hR, hO, hin, ← (rof_eq (w.disk.take 16)).1], hFl8, by rw [hP, hmn], by rw [hG, show m2 = nf from by omega], hTq, hdq⟩
end Go.Proofs.YtoehnbacbobhiaaGreatDoor
