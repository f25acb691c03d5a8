/-
  NARROWER THAN 'FOR EVERY INPUT', by the rows' own cells (each row's printed sentence says how): ExecLoops: laid · ExecEqual: laid.
  DERIVED. THE GIVEN ROWS OF THIS SEAT. 2 by the template 'for every input the law returns true; each argument reads behind the call as it read before'; 0 by the template 'total and deterministic' (their statements: YtoehnbacbobhiaaDoorTotals.lean).
  GIVEN WITH THE SEED: the statements are not yours to turn. If you find one false, say at which input.
  Laid BY PROGRAM, IN A SANDBOX (cutbox-rows.mjs): the forced cells as the released guide's own fill.sh prints them over the translation 3a8e8db7602ee108… (all of the seat's roots in one cut). By AI agents, Wed Nov 11 2026. No macro, syntax, notation, axiom, sorry.
-/
import Derived.Test.YtoehnbacbobhiaaDoorChecked
import GoSem.Claim
import GoSem.ClaimJoined
import GoSem.ClaimMapViews
import Derived.JoinedTies
import Derived.KernelRfl
namespace Go.Proofs.YtoehnbacbobhiaaDoor
/- THE CELL 'sum', in the pinned program and in every row, IS THE sha256 OF THE DUMP (.gsa) THAT YtoehnbacbobhiaaDoorProg.lean LOADS. Nothing in Lean hashes anything: it is a label: what it is worth is what the hold of that sum in a sandbox is worth. -/
noncomputable def Tryd.pinned : Pinned := { name := "ytoehnbacbobhiaadoor", sum := "3a8e8db7602ee108bb51a23c87b27f58292038e8a379cb18295b56bf71b9fa15", checked := Tryd.checked }
namespace Rows
def none {H : Type} : Left H := { results := [], args := [] }

/- WHAT THE LISTED PACKAGE-LEVEL VARIABLES READ AS WHEN THE CALL BEGINS. Each datum BY PROGRAM (the guide's laid-datum.mjs) off the statement by which the dump's own 'gosem.cut.vars' lays the variable. In a bare row this is a premise. The card (YtoehnbacbobhiaaDoorCards.lean) ties it to the program's text. -/
def laid_rootcause_code_rows {H : Type} : DataW H := .agg [.agg [.lit (.string []), .lit (.string []), .lit (.int .i64 0), .lit (.int .i64 0)], .agg [.lit (.string [99, 111, 110, 115, 116]), .lit (.string [78]), .lit (.int .i64 0), .lit (.int .i64 1)], .agg [.lit (.string [118, 97, 114]), .lit (.string [65]), .lit (.int .i64 0), .lit (.int .i64 1)], .agg [.lit (.string [112, 97, 114, 97, 109]), .lit (.string [65]), .lit (.int .i64 0), .lit (.int .i64 1)], .agg [.lit (.string [102, 108, 97, 103]), .lit (.string [65]), .lit (.int .i64 0), .lit (.int .i64 1)], .agg [.lit (.string [110, 111, 119]), .lit (.string []), .lit (.int .i64 0), .lit (.int .i64 1)], .agg [.lit (.string [103, 101, 116]), .lit (.string [65]), .lit (.int .i64 1), .lit (.int .i64 1)], .agg [.lit (.string [104, 97, 115]), .lit (.string [65]), .lit (.int .i64 1), .lit (.int .i64 1)], .agg [.lit (.string [115, 105, 122, 101]), .lit (.string [65]), .lit (.int .i64 0), .lit (.int .i64 1)], .agg [.lit (.string [110, 101, 103]), .lit (.string []), .lit (.int .i64 1), .lit (.int .i64 1)], .agg [.lit (.string [110, 111, 116]), .lit (.string []), .lit (.int .i64 1), .lit (.int .i64 1)], .agg [.lit (.string [109, 117, 108]), .lit (.string []), .lit (.int .i64 2), .lit (.int .i64 1)], .agg [.lit (.string [100, 105, 118]), .lit (.string []), .lit (.int .i64 2), .lit (.int .i64 1)], .agg [.lit (.string [109, 111, 100]), .lit (.string []), .lit (.int .i64 2), .lit (.int .i64 1)], .agg [.lit (.string [97, 100, 100]), .lit (.string []), .lit (.int .i64 2), .lit (.int .i64 1)], .agg [.lit (.string [115, 117, 98]), .lit (.string []), .lit (.int .i64 2), .lit (.int .i64 1)], .agg [.lit (.string [101, 113]), .lit (.string []), .lit (.int .i64 2), .lit (.int .i64 1)], .agg [.lit (.string [110, 101]), .lit (.string []), .lit (.int .i64 2), .lit (.int .i64 1)], .agg [.lit (.string [108, 116]), .lit (.string []), .lit (.int .i64 2), .lit (.int .i64 1)], .agg [.lit (.string [108, 101]), .lit (.string []), .lit (.int .i64 2), .lit (.int .i64 1)], .agg [.lit (.string [103, 116]), .lit (.string []), .lit (.int .i64 2), .lit (.int .i64 1)], .agg [.lit (.string [103, 101]), .lit (.string []), .lit (.int .i64 2), .lit (.int .i64 1)], .agg [.lit (.string [97, 110, 100]), .lit (.string []), .lit (.int .i64 2), .lit (.int .i64 1)], .agg [.lit (.string [111, 114]), .lit (.string []), .lit (.int .i64 2), .lit (.int .i64 1)], .agg [.lit (.string [115, 101, 116, 118, 97, 114]), .lit (.string [65]), .lit (.int .i64 1), .lit (.int .i64 0)], .agg [.lit (.string [112, 117, 116]), .lit (.string [65]), .lit (.int .i64 2), .lit (.int .i64 0)], .agg [.lit (.string [100, 101, 108, 101, 116, 101]), .lit (.string [65]), .lit (.int .i64 1), .lit (.int .i64 0)], .agg [.lit (.string [106, 117, 109, 112]), .lit (.string [65]), .lit (.int .i64 0), .lit (.int .i64 0)], .agg [.lit (.string [98, 114, 97, 110, 99, 104]), .lit (.string [65]), .lit (.int .i64 1), .lit (.int .i64 0)], .agg [.lit (.string [99, 111, 115, 116]), .lit (.string []), .lit (.int .i64 0), .lit (.int .i64 0)], .agg [.lit (.string [115, 101, 110, 100]), .lit (.string [65, 66, 78]), .lit (.int .i64 0), .lit (.int .i64 0)], .agg [.lit (.string [97, 102, 116, 101, 114]), .lit (.string [66, 78]), .lit (.int .i64 1), .lit (.int .i64 0)], .agg [.lit (.string [115, 116, 111, 114, 101]), .lit (.string [66]), .lit (.int .i64 2), .lit (.int .i64 0)], .agg [.lit (.string [102, 101, 116, 99, 104]), .lit (.string [65, 66]), .lit (.int .i64 1), .lit (.int .i64 0)], .agg [.lit (.string [115, 116, 111, 112]), .lit (.string []), .lit (.int .i64 0), .lit (.int .i64 0)]]

/-- 'rootcauselaw12.ExecLoops': WHATEVER THE INPUT: true; the input reads as it did. -/
def execLoopsSpec : ChangeSpec := { name := "execLoops", fn := fun _ => fun
  | [d1, d2] => { results := [.lit (.bool true)], args := [d1, d2] }
  | _ => none }
def execLoopsRow : OpenClaim := { program := "ytoehnbacbobhiaadoor", sum := "3a8e8db7602ee108bb51a23c87b27f58292038e8a379cb18295b56bf71b9fa15", func := "rootcause/rootcauselaw12.ExecLoops", spec := "execLoops", inPlace := ["internal/bytealg.IndexByteString"], unfollowed := true, recurses := true, named := ["rootcause/code.rows"], apart := false, laid := [("rootcause/code.rows", laid_rootcause_code_rows)] }
def ExecLoopsSaid : Prop := execLoopsRow.holds Tryd.pinned (OpenSpec.ofChange execLoopsSpec)

/-- ITS FALSE NEIGHBOUR: 'it returns false'. Refute it at one input. -/
def execLoopsWrong : ChangeSpec := { name := "execLoops", fn := fun _ => fun
  | [d1, d2] => { results := [.lit (.bool false)], args := [d1, d2] }
  | _ => none }
def ExecLoopsWrongFalsely : Prop := execLoopsRow.holds Tryd.pinned (OpenSpec.ofChange execLoopsWrong)

/-- 'rootcauselaw12.ExecEqual': WHATEVER THE INPUT: true; the input reads as it did. -/
def execEqualSpec : ChangeSpec := { name := "execEqual", fn := fun _ => fun
  | [d1, d2, d3] => { results := [.lit (.bool true)], args := [d1, d2, d3] }
  | _ => none }
def execEqualRow : OpenClaim := { program := "ytoehnbacbobhiaadoor", sum := "3a8e8db7602ee108bb51a23c87b27f58292038e8a379cb18295b56bf71b9fa15", func := "rootcause/rootcauselaw12.ExecEqual", spec := "execEqual", inPlace := ["internal/bytealg.IndexByteString"], unfollowed := true, recurses := true, named := ["rootcause/code.rows"], apart := false, laid := [("rootcause/code.rows", laid_rootcause_code_rows)] }
def ExecEqualSaid : Prop := execEqualRow.holds Tryd.pinned (OpenSpec.ofChange execEqualSpec)

/-- ITS FALSE NEIGHBOUR: 'it returns false'. Refute it at one input. -/
def execEqualWrong : ChangeSpec := { name := "execEqual", fn := fun _ => fun
  | [d1, d2, d3] => { results := [.lit (.bool false)], args := [d1, d2, d3] }
  | _ => none }
def ExecEqualWrongFalsely : Prop := execEqualRow.holds Tryd.pinned (OpenSpec.ofChange execEqualWrong)

/- THE SECOND FORM. 'bulk': how many values and letters a reading holds, each counted each time it is reached (what is shared counts as often as it is met; a slice's spare places count too). A statement '..UptoSaid' is the law's where the arguments, and the package variables that the reading takes, are together of bulk at most 1048576: NARROWER than '..Said'. Prove '..Said' where nothing that the law and all that it calls make is longer than what came in: it says more and counts as full. Else prove '..UptoSaid'. A law counts once. -/
mutual
def uptoBulk {H : Type} : DataW H → Nat
  | .lit (.string bytes) => bytes.length + 1
  | .lit _ => 1
  | .nil => 1
  | .ptr d => uptoBulk d + 1
  | .slice elems spare => uptoBulkAll elems + uptoBulkAll spare + 1
  | .agg parts => uptoBulkAll parts + 1
  | .iface _ d => uptoBulk d + 1
  | .map entries => uptoBulkEntries entries + 1
  | .held _ => 1
def uptoBulkAll {H : Type} : List (DataW H) → Nat
  | [] => 0
  | d :: r => uptoBulk d + uptoBulkAll r
def uptoBulkEntries {H : Type} : List (Lit × DataW H) → Nat
  | [] => 0
  | x :: r => uptoBulkEntry x + uptoBulkEntries r
def uptoBulkEntry {H : Type} : Lit × DataW H → Nat
  | (.string bytes, d) => bytes.length + uptoBulk d + 1
  | (_, d) => uptoBulk d + 1
 end
def uptoSmall : (H : Type) → List (DataW H) → Bool := fun _ ds => decide (uptoBulkAll ds ≤ 1048576)
def OpenSpec.upto (s : _root_.Go.ChangeSpec) : _root_.Go.OpenSpec := { _root_.Go.OpenSpec.ofChange s with cond := some uptoSmall }

/-- 'rootcauselaw12.ExecLoops', WHERE WHAT IT READS IS OF BULK AT MOST 1048576: true; the input reads as it did. -/
def execLoopsUptoRow : OpenClaim := { program := "ytoehnbacbobhiaadoor", sum := "3a8e8db7602ee108bb51a23c87b27f58292038e8a379cb18295b56bf71b9fa15", func := "rootcause/rootcauselaw12.ExecLoops", spec := "execLoops", inPlace := ["internal/bytealg.IndexByteString"], unfollowed := true, recurses := true, named := ["rootcause/code.rows"], apart := false, laid := [("rootcause/code.rows", laid_rootcause_code_rows)], narrowed := true }
def ExecLoopsUptoSaid : Prop := execLoopsUptoRow.holds Tryd.pinned (OpenSpec.upto execLoopsSpec)

/-- 'rootcauselaw12.ExecEqual', WHERE WHAT IT READS IS OF BULK AT MOST 1048576: true; the input reads as it did. -/
def execEqualUptoRow : OpenClaim := { program := "ytoehnbacbobhiaadoor", sum := "3a8e8db7602ee108bb51a23c87b27f58292038e8a379cb18295b56bf71b9fa15", func := "rootcause/rootcauselaw12.ExecEqual", spec := "execEqual", inPlace := ["internal/bytealg.IndexByteString"], unfollowed := true, recurses := true, named := ["rootcause/code.rows"], apart := false, laid := [("rootcause/code.rows", laid_rootcause_code_rows)], narrowed := true }
def ExecEqualUptoSaid : Prop := execEqualUptoRow.holds Tryd.pinned (OpenSpec.upto execEqualSpec)

end Rows
end Go.Proofs.YtoehnbacbobhiaaDoor
