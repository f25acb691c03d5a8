/- Tables compared with the reference's: a range over a table. Own text (walks printed by sx.py). -/
import Derived.Test.YtoehnbacbobhiaaGreatDoorL1
import Derived.Test.YtoehnbacbobhiaaGreatDoorX42
import Derived.Test.YtoehnbacbobhiaaGreatDoorL3
set_option linter.unusedVariables false
set_option linter.unusedSimpArgs false
namespace Go.Proofs.YtoehnbacbobhiaaGreatDoor
open Go.RowKit Go.Flow Go.Mem Go.Sep
set_option maxHeartbeats 2000000 in
set_option maxRecDepth 100000 in
theorem tall_fn (A : Option Addr) (n ca : Nat) :
    Does Tryz.prog 72 [.agg #[.slice A n ca]] [] (fun v Γ' => ∃ b, v = .func (.func 92) #[] #[.pointer (some ⟨b, 0, none⟩)] ∧ Γ' = [ro (some ⟨b, 0, none⟩) [.slice A n ca]]) := by
  refine Does.enter Tryz.func72 rfl Tryz.ntmps72 rfl (fun w0 => ?_)
  refine To.seq (To.reg ?_)
  refine To.boxed rfl rfl rfl rfl rfl rfl (fun b1 => ?_)
  refine To.a (To.nil (To.thenN (To.seq (To.reg ?_))))
  refine To.r (Rd.makeFunc rfl rfl rfl) ?_
  refine To.a (To.nil (To.thenN (To.ret ?_)))
  refine To.layBox ?_
  refine To.end1 (.inl rfl) Tryz.results72 rfl ?_
  exact ⟨_, rfl, rfl⟩
set_option maxHeartbeats 2000000 in
set_option maxRecDepth 100000 in
theorem titer_fn (A : Option Addr) (ca : Nat) (l : List (Int × Int)) (hl : l.length ≤ 1000000) (b1 lp : Nat) (J : Nat → Chunk → Prop) (X : Chunk → Prop) (c : Chunk)
    (hY : ∀ (k : Nat) (c : Chunk) (x : Int × Int), J k c → l[k]? = some x → RoundDoes Tryz.prog lp [.int .i64 x.1, .int .i64 x.2] [c] (fun v Γ' => ∃ c', Γ' = [c'] ∧ ((v = .bool true ∧ J (k + 1) c') ∨ (v = .bool false ∧ X c')))) (h0 : J 0 c) :
    Does Tryz.prog 92 [.func (.yield lp) #[] #[], .pointer (some ⟨b1, 0, none⟩)] [ro (some ⟨b1, 0, none⟩) [.slice A l.length ca], ros encEn A l, c] (fun _ Γ' => ∃ c', Γ' = [c'] ∧ (J l.length c' ∨ X c')) := by
  refine Does.enterR Tryz.func92 rfl Tryz.ntmps92 rfl (fun w0 => ?_)
  refine ToR.seq ?_
  refine ToR.reg ?_
  refine ToR.rd rfl rfl rfl (Rd.field rfl rfl fl40_0) ?_
  refine ToR.rd rfl rfl rfl (Rd.load (i := 0) rfl rfl c38 rfl (ro_gives (A := some ⟨b1, 0, none⟩) (o := 0) (k := 1) rfl)) ?_
  refine ToR.rd rfl rfl rfl (Rd.len rfl rfl Tryz.underlying38) ?_
  refine ToR.rd rfl rfl rfl (Rd.move rfl rfl) ?_
  refine ToR.nil ?_
  refine To.thenN ?_
  refine ToR.block ?_
  refine To.sub [(0, .func (.yield lp) #[] #[]), (6, .slice A l.length ca), (7, .int .i64 ((l.length : Nat) : Int)), (8, .int .i64 ((0 : Nat) : Int))] ⟨rfl, rfl, rfl, rfl, trivial⟩ ?_
  refine ToR.loop (fun mz ρ Γ => ∃ (i : Nat) (c : Chunk), ρ = [(0, .func (.yield lp) #[] #[]), (6, .slice A l.length ca), (7, .int .i64 ((l.length : Nat) : Int)), (8, .int .i64 ((i : Nat) : Int))] ∧ Γ = [ro (some ⟨b1, 0, none⟩) [.slice A l.length ca], ros encEn A l, c] ∧ mz = l.length - i ∧ (i ≤ l.length) ∧ (J i c)) (l.length - 0) ⟨0, c, rfl, rfl, rfl, (Nat.zero_le _), h0⟩ ?_
  rintro mz _ _ ⟨i, c, rfl, rfl, rfl, hi, hJ⟩
  refine ToR.seq ?_
  refine ToR.reg ?_
  refine ToR.rd rfl rfl rfl (Rd.lss rfl rfl rfl) ?_
  refine ToR.nil ?_
  refine To.thenN ?_
  refine ToR.seq ?_
  refine ToR.condP rfl (fun k9 => ?_) (fun k9 => ?_)
  ·
   obtain ⟨x, hx⟩ : ∃ z0, l[i]? = some z0 := ⟨l[i]'(by omega), List.getElem?_eq_getElem _⟩
   refine ToR.skip ?_
   refine To.thenN ?_
   refine ToR.seq ?_
   refine ToR.block ?_
   refine ToR.seq ?_
   refine ToR.reg ?_
   refine ToR.rd rfl rfl rfl (Rd.indexRos encEn_ok (i := 1) (j := i) rfl rfl rfl s38 rfl hx) ?_
   refine ToR.rd rfl rfl rfl (Rd.loadS (i := 1) rfl rfl r110 rfl (ros_gives encEn_ok hx) (encEn_ok.len _)) ?_
   refine ToR.alloc rfl rfl rfl rfl z110 (fun b4 => ?_)
   refine ToR.up rfl rfl (Up.storeS (i := 0) rfl rfl rfl r110 rfl rfl rfl (box_takesAll rfl)) ?_
   refine ToR.nil ?_
   refine To.thenN ?_
   refine ToR.seq ?_
   refine ToR.reg ?_
   refine ToR.rd rfl rfl rfl (Rd.move rfl rfl) ?_
   refine ToR.rd rfl rfl rfl (Rd.field rfl rfl fl110_0) ?_
   refine ToR.rd rfl rfl rfl (Rd.load (i := 0) rfl rfl c2 rfl (box_gives1 rfl)) ?_
   refine ToR.rd rfl rfl rfl (Rd.field rfl rfl fl110_1) ?_
   refine ToR.rd rfl rfl rfl (Rd.load (i := 0) rfl rfl c2 rfl (box_gives1 rfl)) ?_
   refine ToR.round [3] rfl rfl rfl (EntY.of rfl rfl rfl) rfl (hY i c x hJ hx) ?_
   rintro _ _ ⟨c', rfl, (⟨rfl, hJ'⟩ | ⟨rfl, hX⟩)⟩
   ·
    refine ToR.rd rfl rfl rfl (Rd.not rfl rfl) ?_
    refine ToR.nil ?_
    refine To.thenN ?_
    refine ToR.condF rfl ?_
    refine ToR.skip ?_
    refine To.blockN (To.thenN ?_)
    refine ToR.reg ?_
    refine ToR.rd rfl rfl rfl (Rd.inc rfl rfl rfl (by omega)) ?_
    refine ToR.rd rfl rfl rfl (Rd.move rfl rfl) ?_
    refine ToR.nil ?_
    refine To.thenN ?_
    refine To.sub [(0, .func (.yield lp) #[] #[]), (6, .slice A l.length ca), (7, .int .i64 ((l.length : Nat) : Int)), (8, .int .i64 (((i + 1) : Nat) : Int))] ⟨rfl, rfl, rfl, rfl, trivial⟩ ?_
    refine To.del1 ?_
    refine To.up2 ?_
    refine To.up2 ?_
    refine To.again (l.length - (i + 1)) (by omega) ⟨i + 1, c', rfl, rfl, rfl, (by omega), hJ'⟩
   refine ToR.rd rfl rfl rfl (Rd.not rfl rfl) ?_
   refine ToR.nil ?_
   refine To.thenN ?_
   refine ToR.condT rfl ?_
   refine ToR.ret ?_
   refine To.blockR (To.thenR (To.thenR (To.blockR ?_)))
   refine To.del3 ?_
   refine To.del2 ?_
   refine To.del1 ?_
   refine To.end0 (.inl rfl) Tryz.results92 ?_
   exact ⟨c', rfl, .inr hX⟩
  refine ToR.exit ?_
  refine To.thenX (To.thenX (To.blockX ?_))
  refine To.del1 ?_
  refine To.del0 ?_
  refine To.end0 (.inr rfl) Tryz.results92 ?_
  refine ⟨c, rfl, .inl ?_⟩
  rw [show l.length = i by omega]; exact hJ
set_option maxHeartbeats 2000000 in
set_option maxRecDepth 100000 in
theorem sameTable_fn (A B : Option Addr) (ca cb : Nat) (l m : List (Int × Int)) (hl : l.length ≤ 1000000) :
    Does Tryz.prog 39 [.agg #[.slice A l.length ca], .slice B m.length cb] [ros encEn A l, ros encEn B m] (fun v _ => v = .bool (decide (l = m))) := by
  refine Does.enterM Tryz.func39 rfl Tryz.ntmps39 rfl (fun w0 => ?_)
  refine To.seq (To.reg ?_)
  refine To.boxed rfl rfl rfl rfl rfl rfl (fun b2 => ?_)
  refine To.boxed rfl rfl rfl rfl rfl rfl (fun b3 => ?_)
  refine To.alloc rfl rfl rfl rfl z4 (fun b4 => ?_)
  refine To.nil (To.thenN (To.seq (To.reg ?_)))
  refine To.alloc rfl rfl rfl rfl z3 (fun b5 => ?_)
  refine To.u (Up.store (i := 0) rfl rfl rfl c3 rfl rfl (box_takesAll rfl)) ?_
  refine To.nil (To.thenN (To.seq (To.seq (To.reg ?_))))
  refine To.r (Rd.loadS (i := 3) rfl rfl r40 rfl box_whole rfl) ?_
  refine To.call [] rfl rfl rfl (Ent.fn rfl rfl ca72) rfl (tall_fn A l.length ca) ?_
  rintro _ _ ⟨bt, rfl, rfl⟩
  refine To.nil (To.thenN (To.block ?_))
  refine To.sub [(3, .pointer (some ⟨b3, 0, none⟩)), (4, .pointer (some ⟨b4, 0, none⟩)), (5, .pointer (some ⟨b5, 0, none⟩)), (9, .func (.func 92) #[] #[.pointer (some ⟨bt, 0, none⟩)])] ⟨rfl, rfl, rfl, rfl, trivial⟩ ?_
  refine To.del4 ?_
  refine To.up2 ?_
  refine To.up4 ?_
  refine To.up2 ?_
  refine To.as [ro (some ⟨bt, 0, none⟩) [.slice A l.length ca], ros encEn A l, box b4 [.bool false] 4, box b5 [.int .i64 ((0 : Nat) : Int)] 3, box b3 [.slice B m.length cb] 44, ros encEn B m] rfl ?_
  refine To.rangeFuncA (Γa := [ro (some ⟨bt, 0, none⟩) [.slice A l.length ca], ros encEn A l]) (Γc := [box b4 [.bool false] 4, box b5 [.int .i64 ((0 : Nat) : Int)] 3, box b3 [.slice B m.length cb] 44, ros encEn B m]) (fun Γ2 => (l.take l.length = m.take l.length ∧ l.length ≤ m.length) ∧ Γ2 = [box b4 [.bool false] 4, box b5 [.int .i64 ((l.length : Nat) : Int)] 3, box b3 [.slice B m.length cb] 44, ros encEn B m]) (fun Γ2 => l ≠ m ∧ ∃ k : Nat, Γ2 = [box b4 [.bool false] 4, box b5 [.int .i64 ((k : Nat) : Int)] 3, box b3 [.slice B m.length cb] 44, ros encEn B m]) rfl ca92 (fun lp L hLp hLa hLb hLt => ?_) ?_ ?_
  ·
   refine (titer_fn A ca l hl bt lp (fun k c => (l.take k = m.take k ∧ k ≤ m.length) ∧ c = all (recd lp L .ready none :: [box b4 [.bool false] 4, box b5 [.int .i64 ((k : Nat) : Int)] 3, box b3 [.slice B m.length cb] 44, ros encEn B m])) (fun c => l ≠ m ∧ ∃ k : Nat, c = all (recd lp L .done (some .ret) :: [box b4 [.bool false] 4, box b5 [.int .i64 ((k : Nat) : Int)] 3, box b3 [.slice B m.length cb] 44, ros encEn B m])) _ ?_ ⟨⟨rfl, Nat.zero_le _⟩, rfl⟩).mono ?_
   ·
    rintro k _ x ⟨⟨hI, hkm⟩, rfl⟩ hx
    have hkl := (List.getElem?_eq_some_iff.1 hx).1
    refine RoundDoes.of2 (Γe := []) hLp hLa hLb hLt rfl rfl (fun w1 => ?_)
    refine To.as [recd lp L .ready none, box b4 [.bool false] 4, box b5 [.int .i64 ((k : Nat) : Int)] 3, box b3 [.slice B m.length cb] 44, ros encEn B m] rfl ?_
    refine ToR.seq ?_
    refine ToR.reg ?_
    refine ToR.rd rfl rfl rfl (Rd.assign rfl rfl) ?_
    refine ToR.nil ?_
    refine To.thenN ?_
    refine ToR.reg ?_
    refine ToR.rd rfl rfl rfl (Rd.assign rfl rfl) ?_
    refine ToR.nil ?_
    refine To.thenN (To.begins ?_)
    refine ToR.block ?_
    refine ToR.seq ?_
    refine ToR.seq ?_
    refine ToR.reg ?_
    refine ToR.rd rfl rfl rfl (Rd.load (i := 2) rfl rfl c3 rfl (box_gives1 rfl)) ?_
    refine ToR.rd rfl rfl rfl (Rd.load (i := 3) rfl rfl c44 rfl (box_gives1 rfl)) ?_
    refine ToR.rd rfl rfl rfl (Rd.len rfl rfl Tryz.underlying44) ?_
    refine ToR.rd rfl rfl rfl (Rd.geq rfl rfl rfl) ?_
    refine ToR.rdP rfl rfl rfl (Rd.move rfl rfl) (fun g16 => ?_) (fun g16 => ?_)
    ·
     refine ToR.sk rfl rfl rfl ?_
     refine ToR.sk rfl rfl rfl ?_
     refine ToR.sk rfl rfl rfl ?_
     refine ToR.sk rfl rfl rfl ?_
     refine ToR.sk rfl rfl rfl ?_
     refine ToR.sk rfl rfl rfl ?_
     refine ToR.sk rfl rfl rfl ?_
     refine ToR.sk rfl rfl rfl ?_
     refine ToR.rd rfl rfl rfl (Rd.pickT rfl rfl rfl) ?_
     refine ToR.nil ?_
     refine To.thenN ?_
     refine ToR.condT rfl ?_
     refine ToR.seq ?_
     refine ToR.reg ?_
     refine ToR.up rfl rfl (Up.store (i := 1) rfl rfl rfl c4 rfl rfl (box_takesAll rfl)) ?_
     refine ToR.nil ?_
     refine To.thenN ?_
     refine ToR.ret ?_
     refine To.thenR (To.blockR ?_)
     refine To.roundR ?_
     exact ⟨_, rfl, .inr ⟨rfl, fun e => by rw [e] at hkl; omega, k, rfl⟩⟩
    obtain ⟨y, hy⟩ : ∃ z0, m[k]? = some z0 := ⟨m[k]'(by omega), List.getElem?_eq_getElem _⟩
    refine ToR.rd rfl rfl rfl (Rd.load (i := 3) rfl rfl c44 rfl (box_gives1 rfl)) ?_
    refine ToR.rd rfl rfl rfl (Rd.load (i := 2) rfl rfl c3 rfl (box_gives1 rfl)) ?_
    refine ToR.rd rfl rfl rfl (Rd.indexRos encEn_ok (i := 4) (j := k) rfl rfl rfl s44 rfl hy) ?_
    refine ToR.rd rfl rfl rfl (Rd.loadS (i := 4) rfl rfl r108 rfl (ros_gives encEn_ok hy) (encEn_ok.len _)) ?_
    refine ToR.rd rfl rfl rfl (Rd.move rfl rfl) ?_
    refine ToR.rd rfl rfl rfl (Rd.move rfl rfl) ?_
    refine ToR.rd rfl rfl rfl (Rd.build (vs := [(0, .int .i64 x.1), (1, .int .i64 x.2)]) (cells := [.int .i64 x.1, .int .i64 x.2]) rfl rfl rfl (by kernel_rfl)) ?_
    refine ToR.rd rfl rfl rfl (Rd.neqA2 (p := y) (q := x) arrPr rfl rfl rfl) ?_
    refine ToR.rd rfl rfl rfl (Rd.pickF rfl rfl rfl) ?_
    refine ToR.nil ?_
    refine To.thenN ?_
    refine ToR.condP rfl (fun k25 => ?_) (fun k25 => ?_)
    ·
     refine ToR.seq ?_
     refine ToR.reg ?_
     refine ToR.up rfl rfl (Up.store (i := 1) rfl rfl rfl c4 rfl rfl (box_takesAll rfl)) ?_
     refine ToR.nil ?_
     refine To.thenN ?_
     refine ToR.ret ?_
     refine To.thenR (To.blockR ?_)
     refine To.roundR ?_
     exact ⟨_, rfl, .inr ⟨rfl, fun e => k25 (by rw [e, hy] at hx; exact Option.some.inj hx), k, rfl⟩⟩
    refine ToR.skip ?_
    refine To.thenN ?_
    refine ToR.reg ?_
    refine ToR.rd rfl rfl rfl (Rd.load (i := 2) rfl rfl c3 rfl (box_gives1 rfl)) ?_
    refine ToR.rd rfl rfl rfl (Rd.inc rfl rfl rfl (by omega)) ?_
    refine ToR.up rfl rfl (Up.store (i := 2) rfl rfl rfl c3 rfl rfl (box_takesAll rfl)) ?_
    refine ToR.nil ?_
    refine To.blockN ?_
    refine To.roundN ?_
    exact ⟨_, rfl, .inl ⟨rfl, ⟨by rw [take_of_get hx, take_of_get hy, hI, show x = y from (Decidable.of_not_not k25).symm], by omega⟩, rfl⟩⟩
   rintro v Γ' ⟨c', rfl, (⟨hJ, rfl⟩ | ⟨hX, k, rfl⟩)⟩
   · exact ⟨_, .inl ⟨rfl, hJ, rfl⟩⟩
   · exact ⟨_, .inr ⟨rfl, hX, k, rfl⟩⟩
  ·
   rintro D _ ⟨⟨hI, hlm⟩, rfl⟩
   refine To.as [dfr D, box b4 [.bool false] 4, box b5 [.int .i64 ((l.length : Nat) : Int)] 3, box b3 [.slice B m.length cb] 44, ros encEn B m] rfl ?_
   refine To.blockN (To.thenN (To.seq (To.reg ?_)))
   refine To.lo 2 c3 ?_
   refine To.lo 3 c44 ?_
   refine To.r (Rd.len rfl rfl Tryz.underlying44) ?_
   refine To.r (Rd.eql rfl rfl rfl) ?_
   refine To.u (Up.store (i := 1) rfl rfl rfl c4 rfl rfl (box_takesAll rfl)) ?_
   refine To.nil (To.thenN (To.ret ?_))
   refine To.endM (.inl rfl) Tryz.results39 rfl (i := 0) rfl c4 rfl rfl ?_
   refine congrArg Value.bool (decide_eq_decide.2 ⟨fun h => ?_, fun h => by rw [h]⟩)
   have h2 : l.length = m.length := by omega
   rw [List.take_length, h2, List.take_length] at hI
   exact hI
  rintro D _ ⟨hne, k, rfl⟩
  refine To.as [dfr D, box b4 [.bool false] 4, box b5 [.int .i64 ((k : Nat) : Int)] 3, box b3 [.slice B m.length cb] 44, ros encEn B m] rfl ?_
  refine To.blockR (To.thenR ?_)
  refine To.endM (.inl rfl) Tryz.results39 rfl (i := 0) rfl c4 rfl rfl ?_
  exact congrArg Value.bool (decide_eq_false hne).symm
end Go.Proofs.YtoehnbacbobhiaaGreatDoor
