/- The table of the operations, and the form of an instruction. Own text (walks printed by sx.py). -/
import Derived.Test.YtllalpnmagpkfaaGreatDoorC1
set_option linter.unusedVariables false
set_option linter.unusedSimpArgs false
set_option maxHeartbeats 2000000
set_option maxRecDepth 100000
namespace Go.Proofs.YtllalpnmagpkfaaGreatDoor
open Go.RowKit Go.Flow Go.Mem Go.Sep
structure Rw where
 text : ByteArray
 uses : ByteArray
 pops : Int
 pushes : Int
def Rw.cells (e : Rw) : List Value := [.string e.text, .string e.uses, .int .i64 e.pops, .int .i64 e.pushes]
theorem encRw : Enc Rw.cells 4 := ⟨fun _ => rfl, fun e u hu => by
 simp only [Rw.cells, List.mem_cons, List.not_mem_nil, or_false] at hu
 rcases hu with rfl | rfl | rfl | rfl <;> rfl⟩
def rowTab : List Rw := [⟨⟨#[]⟩, ⟨#[]⟩, 0, 0⟩, ⟨⟨#[99, 111, 110, 115, 116]⟩, ⟨#[78]⟩, 0, 1⟩, ⟨⟨#[118, 97, 114]⟩, ⟨#[65]⟩, 0, 1⟩, ⟨⟨#[112, 97, 114, 97, 109]⟩, ⟨#[65]⟩, 0, 1⟩, ⟨⟨#[102, 108, 97, 103]⟩, ⟨#[65]⟩, 0, 1⟩, ⟨⟨#[110, 111, 119]⟩, ⟨#[]⟩, 0, 1⟩, ⟨⟨#[103, 101, 116]⟩, ⟨#[65]⟩, 1, 1⟩, ⟨⟨#[104, 97, 115]⟩, ⟨#[65]⟩, 1, 1⟩, ⟨⟨#[115, 105, 122, 101]⟩, ⟨#[65]⟩, 0, 1⟩, ⟨⟨#[110, 101, 103]⟩, ⟨#[]⟩, 1, 1⟩, ⟨⟨#[110, 111, 116]⟩, ⟨#[]⟩, 1, 1⟩, ⟨⟨#[109, 117, 108]⟩, ⟨#[]⟩, 2, 1⟩, ⟨⟨#[100, 105, 118]⟩, ⟨#[]⟩, 2, 1⟩, ⟨⟨#[109, 111, 100]⟩, ⟨#[]⟩, 2, 1⟩, ⟨⟨#[97, 100, 100]⟩, ⟨#[]⟩, 2, 1⟩, ⟨⟨#[115, 117, 98]⟩, ⟨#[]⟩, 2, 1⟩, ⟨⟨#[101, 113]⟩, ⟨#[]⟩, 2, 1⟩, ⟨⟨#[110, 101]⟩, ⟨#[]⟩, 2, 1⟩, ⟨⟨#[108, 116]⟩, ⟨#[]⟩, 2, 1⟩, ⟨⟨#[108, 101]⟩, ⟨#[]⟩, 2, 1⟩, ⟨⟨#[103, 116]⟩, ⟨#[]⟩, 2, 1⟩, ⟨⟨#[103, 101]⟩, ⟨#[]⟩, 2, 1⟩, ⟨⟨#[97, 110, 100]⟩, ⟨#[]⟩, 2, 1⟩, ⟨⟨#[111, 114]⟩, ⟨#[]⟩, 2, 1⟩, ⟨⟨#[115, 101, 116, 118, 97, 114]⟩, ⟨#[65]⟩, 1, 0⟩, ⟨⟨#[112, 117, 116]⟩, ⟨#[65]⟩, 2, 0⟩, ⟨⟨#[100, 101, 108, 101, 116, 101]⟩, ⟨#[65]⟩, 1, 0⟩, ⟨⟨#[106, 117, 109, 112]⟩, ⟨#[65]⟩, 0, 0⟩, ⟨⟨#[98, 114, 97, 110, 99, 104]⟩, ⟨#[65]⟩, 1, 0⟩, ⟨⟨#[99, 111, 115, 116]⟩, ⟨#[]⟩, 0, 0⟩, ⟨⟨#[115, 101, 110, 100]⟩, ⟨#[65, 66, 78]⟩, 0, 0⟩, ⟨⟨#[97, 102, 116, 101, 114]⟩, ⟨#[66, 78]⟩, 1, 0⟩, ⟨⟨#[115, 116, 111, 114, 101]⟩, ⟨#[66]⟩, 2, 0⟩, ⟨⟨#[102, 101, 116, 99, 104]⟩, ⟨#[65, 66]⟩, 1, 0⟩, ⟨⟨#[115, 116, 111, 112]⟩, ⟨#[]⟩, 0, 0⟩]
def rowOf (o : Nat) : Rw := rowTab.getD o ⟨⟨#[]⟩, ⟨#[]⟩, 0, 0⟩
theorem row_at {o : Nat} (h : o ≤ 34) : rowTab[o]? = some (rowOf o) := by
 have hl : o < rowTab.length := by show o < 35; omega
 rw [rowOf, List.getD_eq_getElem?_getD, gge hl]; rfl
theorem row_out {o : Nat} (h : ¬ o ≤ 34) : rowOf o = ⟨⟨#[]⟩, ⟨#[]⟩, 0, 0⟩ := by
 rw [rowOf, List.getD_eq_getElem?_getD, List.getElem?_eq_none (by show 35 ≤ o; omega)]; rfl
def usesB (o : Nat) (c : Int) : Bool := decide (0 ≤ Lib.indexByte (rowOf o).uses.data.toList c.toNat.toUInt8)
abbrev tabC : Chunk := ros Rw.cells (some ⟨0, 0, none⟩) rowTab
theorem row_fn (o : Nat) :
    Does Tryz.prog 49 [.int .u8 ((o : Nat) : Int)] [tabC] (fun v Γ' => v = .agg (Rw.cells (rowOf o)).toArray ∧ Γ' = []) := by
 refine Does.enter Tryz.func49 rfl Tryz.ntmps49 rfl (fun w0 => ?_)
 refine To.s (To.g ?_)
 refine To.alloc rfl rfl rfl rfl z180 (fun b2 => ?_)
 refine To.n (To.t (To.s (To.s (To.g (To.m ?_)))))
 refine To.gt ?_
 refine To.n (To.t ?_)
 refine To.cp rfl (fun c4 => ?_) (fun c4 => ?_)
 refine To.s (To.g ?_)
 refine To.r (Rd.build (vs := []) (cells := [.string bE, .string bE, .int .i64 0, .int .i64 0]) rfl rfl rfl (by kernel_rfl)) ?_
 refine To.u (Up.storeS (i := 0) rfl rfl rfl r180 rfl rfl rfl (bta rfl)) ?_
 refine To.n (To.t (To.rt (To.tr ?_)))
 refine To.endC [] rfl (.inl rfl) Tryz.results49 rfl (i := 0) rfl r180 rfl ?_
 exact ⟨by rw [row_out (by omega)]; rfl, rfl⟩
 refine To.sp (To.t (To.s (To.g (To.m ?_))))
 refine To.r (Rd.indexArr (j := o) rfl (ArrTy.of (size := 4) Tryz.underlying274 (by kernel_rfl)) rfl rfl (by omega)) ?_
 refine To.r (Rd.lS (i := 1) rfl rfl r180 rfl (rsg encRw (A := some ⟨0, 0, none⟩) (row_at (o := o) (by omega))) (encRw.len _)) ?_
 refine To.u (Up.storeS (i := 0) rfl rfl rfl r180 rfl rfl rfl (bta rfl)) ?_
 refine To.n (To.t (To.rt ?_))
 refine To.endC [] rfl (.inl rfl) Tryz.results49 rfl (i := 0) rfl r180 rfl ?_
 exact ⟨rfl, rfl⟩
theorem sib_fn (s : ByteArray) (c : Int) :
    Does Tryz.prog 171 [.string s, .int .u8 c] [] (fun v _ => v = .int .i64 (Lib.indexByte s.data.toList c.toNat.toUInt8)) := by
 refine Does.enter Tryz.func171 rfl Tryz.ntmps171 rfl (fun w0 => ?_)
 refine To.s (To.g (To.a (To.n (To.t (To.s (To.g ?_))))))
 refine To.m ?_
 refine To.m ?_
 refine To.r (Rd.indexByte rfl Tryz.func204 (by kernel_rfl) (by kernel_rfl) (by kernel_rfl) (by kernel_rfl) rfl rfl) ?_
 refine To.a (To.n (To.t (To.rt ?_)))
 refine To.end1 (.inl rfl) Tryz.results171 rfl ?_
 rfl
theorem ib_fn (s : ByteArray) (c : Int) :
    Does Tryz.prog 108 [.string s, .int .u8 c] [] (fun v _ => v = .int .i64 (Lib.indexByte s.data.toList c.toNat.toUInt8)) := by
 refine Does.enter Tryz.func108 rfl Tryz.ntmps108 rfl (fun w0 => ?_)
 refine To.s (To.g (To.a (To.n (To.t (To.s (To.g ?_))))))
 refine To.m ?_
 refine To.m ?_
 refine To.cV rfl rfl rfl (Ent.fn rfl rfl ca171) (sib_fn s c) rfl (ocn _) ?_
 refine To.a (To.n (To.t (To.rt ?_)))
 refine To.end1 (.inl rfl) Tryz.results108 rfl ?_
 rfl
theorem uses_fn (o : Nat) (c : Int) :
    Does Tryz.prog 50 [.int .u8 ((o : Nat) : Int), .int .u8 c] [tabC] (fun v _ => v = .bool (usesB o c)) := by
 refine Does.enter Tryz.func50 rfl Tryz.ntmps50 rfl (fun w0 => ?_)
 refine To.s (To.g (To.a (To.n (To.t (To.s (To.g ?_))))))
 refine To.m ?_
 refine To.cV rfl rfl rfl (Ent.fn rfl rfl ca49) ((row_fn o).mono (R' := fun v _ => v = .agg (Rw.cells (rowOf o)).toArray) (fun _ _ h => h.1)) rfl (ocs (oca 0 rfl) (ocn _)) ?_
 refine To.r (Rd.fieldV (vs := Rw.cells (rowOf o)) rfl Tryz.underlying180 rfl Tryz.underlying9 rfl rfl rfl) ?_
 refine To.m ?_
 refine To.cV rfl rfl rfl (Ent.fn rfl rfl ca108) (ib_fn ((rowOf o).uses) c) rfl (ocn _) ?_
 refine To.gq ?_
 refine To.a (To.n (To.t (To.rt ?_)))
 refine To.end1 (.inl rfl) Tryz.results50 rfl ?_
 rfl
end Go.Proofs.YtllalpnmagpkfaaGreatDoor
