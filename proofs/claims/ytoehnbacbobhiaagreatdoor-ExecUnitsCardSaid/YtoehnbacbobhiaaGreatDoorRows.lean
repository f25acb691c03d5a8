/-
  NARROWER THAN 'FOR EVERY INPUT', by the rows' own cells (each row's printed sentence says how): ExecUnits: laid.
  DERIVED. THE GIVEN ROWS OF THIS SEAT. 1 by the template 'for every input the law returns true; each argument reads behind the call as it read before'; 0 by the template 'total and deterministic' (their statements: YtoehnbacbobhiaaGreatDoorTotals.lean).
  GIVEN WITH THE SEED: the statements are not yours to turn. If you find one false, say at which input.
  Laid BY PROGRAM, IN A SANDBOX (cutbox-rows.mjs): the forced cells as the released guide's own fill.sh prints them over the translation 7fb8474070c3041c… (all of the seat's roots in one cut). By AI agents, Wed Nov 11 2026. No macro, syntax, notation, axiom, sorry.
-/
import Derived.Test.YtoehnbacbobhiaaGreatDoorChecked
import GoSem.Claim
import GoSem.ClaimJoined
import GoSem.ClaimMapViews
import Derived.JoinedTies
import Derived.KernelRfl
namespace Go.Proofs.YtoehnbacbobhiaaGreatDoor
/- THE CELL 'sum', in the pinned program and in every row, IS THE sha256 OF THE DUMP (.gsa) THAT YtoehnbacbobhiaaGreatDoorProg.lean LOADS. Nothing in Lean hashes anything: it is a label: what it is worth is what the hold of that sum in a sandbox is worth. -/
noncomputable def Tryz.pinned : Pinned := { name := "ytoehnbacbobhiaagreatdoor", sum := "7fb8474070c3041c037381d37f0dbbdb41881901610547535ffb10991deb0df0", checked := Tryz.checked }
namespace Rows
def none {H : Type} : Left H := { results := [], args := [] }

/- WHAT THE LISTED PACKAGE-LEVEL VARIABLES READ AS WHEN THE CALL BEGINS. Each datum BY PROGRAM (the guide's laid-datum.mjs) off the statement by which the dump's own 'gosem.cut.vars' lays the variable. In a bare row this is a premise. The card (YtoehnbacbobhiaaGreatDoorCards.lean) ties it to the program's text. -/
def laid_rootcause_code_rows {H : Type} : DataW H := .agg [.agg [.lit (.string []), .lit (.string []), .lit (.int .i64 0), .lit (.int .i64 0)], .agg [.lit (.string [99, 111, 110, 115, 116]), .lit (.string [78]), .lit (.int .i64 0), .lit (.int .i64 1)], .agg [.lit (.string [118, 97, 114]), .lit (.string [65]), .lit (.int .i64 0), .lit (.int .i64 1)], .agg [.lit (.string [112, 97, 114, 97, 109]), .lit (.string [65]), .lit (.int .i64 0), .lit (.int .i64 1)], .agg [.lit (.string [102, 108, 97, 103]), .lit (.string [65]), .lit (.int .i64 0), .lit (.int .i64 1)], .agg [.lit (.string [110, 111, 119]), .lit (.string []), .lit (.int .i64 0), .lit (.int .i64 1)], .agg [.lit (.string [103, 101, 116]), .lit (.string [65]), .lit (.int .i64 1), .lit (.int .i64 1)], .agg [.lit (.string [104, 97, 115]), .lit (.string [65]), .lit (.int .i64 1), .lit (.int .i64 1)], .agg [.lit (.string [115, 105, 122, 101]), .lit (.string [65]), .lit (.int .i64 0), .lit (.int .i64 1)], .agg [.lit (.string [110, 101, 103]), .lit (.string []), .lit (.int .i64 1), .lit (.int .i64 1)], .agg [.lit (.string [110, 111, 116]), .lit (.string []), .lit (.int .i64 1), .lit (.int .i64 1)], .agg [.lit (.string [109, 117, 108]), .lit (.string []), .lit (.int .i64 2), .lit (.int .i64 1)], .agg [.lit (.string [100, 105, 118]), .lit (.string []), .lit (.int .i64 2), .lit (.int .i64 1)], .agg [.lit (.string [109, 111, 100]), .lit (.string []), .lit (.int .i64 2), .lit (.int .i64 1)], .agg [.lit (.string [97, 100, 100]), .lit (.string []), .lit (.int .i64 2), .lit (.int .i64 1)], .agg [.lit (.string [115, 117, 98]), .lit (.string []), .lit (.int .i64 2), .lit (.int .i64 1)], .agg [.lit (.string [101, 113]), .lit (.string []), .lit (.int .i64 2), .lit (.int .i64 1)], .agg [.lit (.string [110, 101]), .lit (.string []), .lit (.int .i64 2), .lit (.int .i64 1)], .agg [.lit (.string [108, 116]), .lit (.string []), .lit (.int .i64 2), .lit (.int .i64 1)], .agg [.lit (.string [108, 101]), .lit (.string []), .lit (.int .i64 2), .lit (.int .i64 1)], .agg [.lit (.string [103, 116]), .lit (.string []), .lit (.int .i64 2), .lit (.int .i64 1)], .agg [.lit (.string [103, 101]), .lit (.string []), .lit (.int .i64 2), .lit (.int .i64 1)], .agg [.lit (.string [97, 110, 100]), .lit (.string []), .lit (.int .i64 2), .lit (.int .i64 1)], .agg [.lit (.string [111, 114]), .lit (.string []), .lit (.int .i64 2), .lit (.int .i64 1)], .agg [.lit (.string [115, 101, 116, 118, 97, 114]), .lit (.string [65]), .lit (.int .i64 1), .lit (.int .i64 0)], .agg [.lit (.string [112, 117, 116]), .lit (.string [65]), .lit (.int .i64 2), .lit (.int .i64 0)], .agg [.lit (.string [100, 101, 108, 101, 116, 101]), .lit (.string [65]), .lit (.int .i64 1), .lit (.int .i64 0)], .agg [.lit (.string [106, 117, 109, 112]), .lit (.string [65]), .lit (.int .i64 0), .lit (.int .i64 0)], .agg [.lit (.string [98, 114, 97, 110, 99, 104]), .lit (.string [65]), .lit (.int .i64 1), .lit (.int .i64 0)], .agg [.lit (.string [99, 111, 115, 116]), .lit (.string []), .lit (.int .i64 0), .lit (.int .i64 0)], .agg [.lit (.string [115, 101, 110, 100]), .lit (.string [65, 66, 78]), .lit (.int .i64 0), .lit (.int .i64 0)], .agg [.lit (.string [97, 102, 116, 101, 114]), .lit (.string [66, 78]), .lit (.int .i64 1), .lit (.int .i64 0)], .agg [.lit (.string [115, 116, 111, 114, 101]), .lit (.string [66]), .lit (.int .i64 2), .lit (.int .i64 0)], .agg [.lit (.string [102, 101, 116, 99, 104]), .lit (.string [65, 66]), .lit (.int .i64 1), .lit (.int .i64 0)], .agg [.lit (.string [115, 116, 111, 112]), .lit (.string []), .lit (.int .i64 0), .lit (.int .i64 0)]]

/-- 'rootcauselaw12.ExecUnits': WHATEVER THE INPUT: true; the input reads as it did. -/
def execUnitsSpec : ChangeSpec := { name := "execUnits", fn := fun _ => fun
  | [d1, d2, d3] => { results := [.lit (.bool true)], args := [d1, d2, d3] }
  | _ => none }
def execUnitsRow : OpenClaim := { program := "ytoehnbacbobhiaagreatdoor", sum := "7fb8474070c3041c037381d37f0dbbdb41881901610547535ffb10991deb0df0", func := "rootcause/rootcauselaw12.ExecUnits", spec := "execUnits", inPlace := ["internal/bytealg.IndexByteString"], unfollowed := true, recurses := true, named := ["rootcause/code.rows"], apart := false, laid := [("rootcause/code.rows", laid_rootcause_code_rows)] }
def ExecUnitsSaid : Prop := execUnitsRow.holds Tryz.pinned (OpenSpec.ofChange execUnitsSpec)

/-- ITS FALSE NEIGHBOUR: 'it returns false'. Refute it at one input. -/
def execUnitsWrong : ChangeSpec := { name := "execUnits", fn := fun _ => fun
  | [d1, d2, d3] => { results := [.lit (.bool false)], args := [d1, d2, d3] }
  | _ => none }
def ExecUnitsWrongFalsely : Prop := execUnitsRow.holds Tryz.pinned (OpenSpec.ofChange execUnitsWrong)

/- THE SECOND FORM. 'bulk': how many values and letters a reading holds, each counted each time it is reached (what is shared counts as often as it is met; a slice's spare places count too). A statement '..UptoSaid' is the law's where the arguments, and the package variables that the reading takes, are together of bulk at most 1048576: NARROWER than '..Said'. Prove '..Said' where nothing that the law and all that it calls make is longer than what came in: it says more and counts as full. Else prove '..UptoSaid'. A law counts once. -/
mutual
def uptoBulk {H : Type} : DataW H → Nat
  | .lit (.string bytes) => bytes.length + 1
  | .lit _ => 1
  | .nil => 1
  | .ptr d => uptoBulk d + 1
  | .slice elems spare => uptoBulkAll elems + uptoBulkAll spare + 1
  | .agg parts => uptoBulkAll parts + 1
  | .iface _ d => uptoBulk d + 1
  | .map entries => uptoBulkEntries entries + 1
  | .held _ => 1
def uptoBulkAll {H : Type} : List (DataW H) → Nat
  | [] => 0
  | d :: r => uptoBulk d + uptoBulkAll r
def uptoBulkEntries {H : Type} : List (Lit × DataW H) → Nat
  | [] => 0
  | x :: r => uptoBulkEntry x + uptoBulkEntries r
def uptoBulkEntry {H : Type} : Lit × DataW H → Nat
  | (.string bytes, d) => bytes.length + uptoBulk d + 1
  | (_, d) => uptoBulk d + 1
 end
def uptoSmall : (H : Type) → List (DataW H) → Bool := fun _ ds => decide (uptoBulkAll ds ≤ 1048576)
def OpenSpec.upto (s : _root_.Go.ChangeSpec) : _root_.Go.OpenSpec := { _root_.Go.OpenSpec.ofChange s with cond := some uptoSmall }

/-- 'rootcauselaw12.ExecUnits', WHERE WHAT IT READS IS OF BULK AT MOST 1048576: true; the input reads as it did. -/
def execUnitsUptoRow : OpenClaim := { program := "ytoehnbacbobhiaagreatdoor", sum := "7fb8474070c3041c037381d37f0dbbdb41881901610547535ffb10991deb0df0", func := "rootcause/rootcauselaw12.ExecUnits", spec := "execUnits", inPlace := ["internal/bytealg.IndexByteString"], unfollowed := true, recurses := true, named := ["rootcause/code.rows"], apart := false, laid := [("rootcause/code.rows", laid_rootcause_code_rows)], narrowed := true }
def ExecUnitsUptoSaid : Prop := execUnitsUptoRow.holds Tryz.pinned (OpenSpec.upto execUnitsSpec)

end Rows
end Go.Proofs.YtoehnbacbobhiaaGreatDoor
