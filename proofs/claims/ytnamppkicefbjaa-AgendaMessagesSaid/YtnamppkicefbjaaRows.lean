/-
  No cell of these rows narrows 'for every input' (looked for: loops, veiled, ifaces, maps, wideKeys, modest, calm, conditions, laid).
  DERIVED. THE GIVEN ROWS OF THIS SEAT. 8 by the template 'for every input the law returns true; each argument reads behind the call as it read before'; 0 by the template 'total and deterministic' (their statements: YtnamppkicefbjaaTotals.lean).
  GIVEN WITH THE SEED: the statements are not yours to turn. If you find one false, say at which input.
  Laid BY PROGRAM, IN A SANDBOX (cutbox-rows.mjs): the forced cells as the released guide's own fill.sh prints them over the translation a9e4ad628c2ece9a… (all of the seat's roots in one cut). By AI agents, Wed Nov 11 2026. No macro, syntax, notation, axiom, sorry.
-/
import Derived.Test.YtnamppkicefbjaaChecked
import GoSem.Claim
import GoSem.ClaimJoined
import GoSem.ClaimMapViews
import Derived.JoinedTies
import Derived.KernelRfl
namespace Go.Proofs.Ytnamppkicefbjaa
/- THE CELL 'sum', in the pinned program and in every row, IS THE sha256 OF THE DUMP (.gsa) THAT YtnamppkicefbjaaProg.lean LOADS. Nothing in Lean hashes anything: it is a label: what it is worth is what the hold of that sum in a sandbox is worth. -/
noncomputable def Try.pinned : Pinned := { name := "ytnamppkicefbjaa", sum := "a9e4ad628c2ece9a26ac571aa2a51e8363e3871df8bc2f26a0abd67e2dd73985", checked := Try.checked }
namespace Rows
def none {H : Type} : Left H := { results := [], args := [] }

/-- 'rootcauselaw15.AgendaOrders': WHATEVER THE INPUT: true; the input reads as it did. -/
def agendaOrdersSpec : ChangeSpec := { name := "agendaOrders", fn := fun _ => fun
  | [d1, d2] => { results := [.lit (.bool true)], args := [d1, d2] }
  | _ => none }
def agendaOrdersRow : OpenClaim := { program := "ytnamppkicefbjaa", sum := "a9e4ad628c2ece9a26ac571aa2a51e8363e3871df8bc2f26a0abd67e2dd73985", func := "rootcause/rootcauselaw15.AgendaOrders", spec := "agendaOrders", inPlace := ["slices.overlaps[rootcause/agenda.entry]"], unfollowed := true, recurses := true, plainKeys := false, apart := false }
def AgendaOrdersSaid : Prop := agendaOrdersRow.holds Try.pinned (OpenSpec.ofChange agendaOrdersSpec)

/-- ITS FALSE NEIGHBOUR: 'it returns false'. Refute it at one input. -/
def agendaOrdersWrong : ChangeSpec := { name := "agendaOrders", fn := fun _ => fun
  | [d1, d2] => { results := [.lit (.bool false)], args := [d1, d2] }
  | _ => none }
def AgendaOrdersWrongFalsely : Prop := agendaOrdersRow.holds Try.pinned (OpenSpec.ofChange agendaOrdersWrong)

/-- 'rootcauselaw15.AgendaKeeps': WHATEVER THE INPUT: true; the input reads as it did. -/
def agendaKeepsSpec : ChangeSpec := { name := "agendaKeeps", fn := fun _ => fun
  | [d1, d2] => { results := [.lit (.bool true)], args := [d1, d2] }
  | _ => none }
def agendaKeepsRow : OpenClaim := { program := "ytnamppkicefbjaa", sum := "a9e4ad628c2ece9a26ac571aa2a51e8363e3871df8bc2f26a0abd67e2dd73985", func := "rootcause/rootcauselaw15.AgendaKeeps", spec := "agendaKeeps", inPlace := ["slices.overlaps[rootcause/agenda.entry]"], unfollowed := true, recurses := true, plainKeys := false, apart := false }
def AgendaKeepsSaid : Prop := agendaKeepsRow.holds Try.pinned (OpenSpec.ofChange agendaKeepsSpec)

/-- ITS FALSE NEIGHBOUR: 'it returns false'. Refute it at one input. -/
def agendaKeepsWrong : ChangeSpec := { name := "agendaKeeps", fn := fun _ => fun
  | [d1, d2] => { results := [.lit (.bool false)], args := [d1, d2] }
  | _ => none }
def AgendaKeepsWrongFalsely : Prop := agendaKeepsRow.holds Try.pinned (OpenSpec.ofChange agendaKeepsWrong)

/-- 'rootcauselaw15.AgendaSteps': WHATEVER THE INPUT: true; the input reads as it did. -/
def agendaStepsSpec : ChangeSpec := { name := "agendaSteps", fn := fun _ => fun
  | [d] => { results := [.lit (.bool true)], args := [d] }
  | _ => none }
def agendaStepsRow : OpenClaim := { program := "ytnamppkicefbjaa", sum := "a9e4ad628c2ece9a26ac571aa2a51e8363e3871df8bc2f26a0abd67e2dd73985", func := "rootcause/rootcauselaw15.AgendaSteps", spec := "agendaSteps", inPlace := ["slices.overlaps[rootcause/agenda.entry]"], unfollowed := true, recurses := true, plainKeys := false, apart := false }
def AgendaStepsSaid : Prop := agendaStepsRow.holds Try.pinned (OpenSpec.ofChange agendaStepsSpec)

/-- ITS FALSE NEIGHBOUR: 'it returns false'. Refute it at one input. -/
def agendaStepsWrong : ChangeSpec := { name := "agendaSteps", fn := fun _ => fun
  | [d] => { results := [.lit (.bool false)], args := [d] }
  | _ => none }
def AgendaStepsWrongFalsely : Prop := agendaStepsRow.holds Try.pinned (OpenSpec.ofChange agendaStepsWrong)

/-- 'rootcauselaw15.AgendaCancels': WHATEVER THE INPUT: true; the input reads as it did. -/
def agendaCancelsSpec : ChangeSpec := { name := "agendaCancels", fn := fun _ => fun
  | [d1, d2] => { results := [.lit (.bool true)], args := [d1, d2] }
  | _ => none }
def agendaCancelsRow : OpenClaim := { program := "ytnamppkicefbjaa", sum := "a9e4ad628c2ece9a26ac571aa2a51e8363e3871df8bc2f26a0abd67e2dd73985", func := "rootcause/rootcauselaw15.AgendaCancels", spec := "agendaCancels", inPlace := ["slices.overlaps[rootcause/agenda.entry]"], unfollowed := true, recurses := true, plainKeys := false, apart := false }
def AgendaCancelsSaid : Prop := agendaCancelsRow.holds Try.pinned (OpenSpec.ofChange agendaCancelsSpec)

/-- ITS FALSE NEIGHBOUR: 'it returns false'. Refute it at one input. -/
def agendaCancelsWrong : ChangeSpec := { name := "agendaCancels", fn := fun _ => fun
  | [d1, d2] => { results := [.lit (.bool false)], args := [d1, d2] }
  | _ => none }
def AgendaCancelsWrongFalsely : Prop := agendaCancelsRow.holds Try.pinned (OpenSpec.ofChange agendaCancelsWrong)

/-- 'rootcauselaw15.AgendaEquals': WHATEVER THE INPUT: true; the input reads as it did. -/
def agendaEqualsSpec : ChangeSpec := { name := "agendaEquals", fn := fun _ => fun
  | [d1, d2, d3] => { results := [.lit (.bool true)], args := [d1, d2, d3] }
  | _ => none }
def agendaEqualsRow : OpenClaim := { program := "ytnamppkicefbjaa", sum := "a9e4ad628c2ece9a26ac571aa2a51e8363e3871df8bc2f26a0abd67e2dd73985", func := "rootcause/rootcauselaw15.AgendaEquals", spec := "agendaEquals", inPlace := ["slices.overlaps[rootcause/agenda.entry]"], unfollowed := true, recurses := true, plainKeys := false, apart := false }
def AgendaEqualsSaid : Prop := agendaEqualsRow.holds Try.pinned (OpenSpec.ofChange agendaEqualsSpec)

/-- ITS FALSE NEIGHBOUR: 'it returns false'. Refute it at one input. -/
def agendaEqualsWrong : ChangeSpec := { name := "agendaEquals", fn := fun _ => fun
  | [d1, d2, d3] => { results := [.lit (.bool false)], args := [d1, d2, d3] }
  | _ => none }
def AgendaEqualsWrongFalsely : Prop := agendaEqualsRow.holds Try.pinned (OpenSpec.ofChange agendaEqualsWrong)

/-- 'rootcauselaw15.AgendaPlays': WHATEVER THE INPUT: true; the input reads as it did. -/
def agendaPlaysSpec : ChangeSpec := { name := "agendaPlays", fn := fun _ => fun
  | [d] => { results := [.lit (.bool true)], args := [d] }
  | _ => none }
def agendaPlaysRow : OpenClaim := { program := "ytnamppkicefbjaa", sum := "a9e4ad628c2ece9a26ac571aa2a51e8363e3871df8bc2f26a0abd67e2dd73985", func := "rootcause/rootcauselaw15.AgendaPlays", spec := "agendaPlays", inPlace := ["slices.overlaps[rootcause/agenda.entry]"], unfollowed := true, recurses := true, plainKeys := false, apart := false }
def AgendaPlaysSaid : Prop := agendaPlaysRow.holds Try.pinned (OpenSpec.ofChange agendaPlaysSpec)

/-- ITS FALSE NEIGHBOUR: 'it returns false'. Refute it at one input. -/
def agendaPlaysWrong : ChangeSpec := { name := "agendaPlays", fn := fun _ => fun
  | [d] => { results := [.lit (.bool false)], args := [d] }
  | _ => none }
def AgendaPlaysWrongFalsely : Prop := agendaPlaysRow.holds Try.pinned (OpenSpec.ofChange agendaPlaysWrong)

/-- 'rootcauselaw15.AgendaErrors': WHATEVER THE INPUT: true; the input reads as it did. -/
def agendaErrorsSpec : ChangeSpec := { name := "agendaErrors", fn := fun _ => fun
  | [d1, d2, d3] => { results := [.lit (.bool true)], args := [d1, d2, d3] }
  | _ => none }
def agendaErrorsRow : OpenClaim := { program := "ytnamppkicefbjaa", sum := "a9e4ad628c2ece9a26ac571aa2a51e8363e3871df8bc2f26a0abd67e2dd73985", func := "rootcause/rootcauselaw15.AgendaErrors", spec := "agendaErrors", inPlace := ["slices.overlaps[rootcause/agenda.entry]"], unfollowed := true, recurses := true, plainKeys := false, apart := false }
def AgendaErrorsSaid : Prop := agendaErrorsRow.holds Try.pinned (OpenSpec.ofChange agendaErrorsSpec)

/-- ITS FALSE NEIGHBOUR: 'it returns false'. Refute it at one input. -/
def agendaErrorsWrong : ChangeSpec := { name := "agendaErrors", fn := fun _ => fun
  | [d1, d2, d3] => { results := [.lit (.bool false)], args := [d1, d2, d3] }
  | _ => none }
def AgendaErrorsWrongFalsely : Prop := agendaErrorsRow.holds Try.pinned (OpenSpec.ofChange agendaErrorsWrong)

/-- 'rootcauselaw15.AgendaMessages': WHATEVER THE INPUT: true; the input reads as it did. -/
def agendaMessagesSpec : ChangeSpec := { name := "agendaMessages", fn := fun _ => fun
  | [d1, d2] => { results := [.lit (.bool true)], args := [d1, d2] }
  | _ => none }
def agendaMessagesRow : OpenClaim := { program := "ytnamppkicefbjaa", sum := "a9e4ad628c2ece9a26ac571aa2a51e8363e3871df8bc2f26a0abd67e2dd73985", func := "rootcause/rootcauselaw15.AgendaMessages", spec := "agendaMessages", inPlace := ["slices.overlaps[rootcause/agenda.entry]"], unfollowed := true, recurses := true, plainKeys := false, apart := false }
def AgendaMessagesSaid : Prop := agendaMessagesRow.holds Try.pinned (OpenSpec.ofChange agendaMessagesSpec)

/-- ITS FALSE NEIGHBOUR: 'it returns false'. Refute it at one input. -/
def agendaMessagesWrong : ChangeSpec := { name := "agendaMessages", fn := fun _ => fun
  | [d1, d2] => { results := [.lit (.bool false)], args := [d1, d2] }
  | _ => none }
def AgendaMessagesWrongFalsely : Prop := agendaMessagesRow.holds Try.pinned (OpenSpec.ofChange agendaMessagesWrong)

/- THE SECOND FORM. 'bulk': how many values and letters a reading holds, each counted each time it is reached (what is shared counts as often as it is met; a slice's spare places count too). A statement '..UptoSaid' is the law's where the arguments, and the package variables that the reading takes, are together of bulk at most 1048576: NARROWER than '..Said'. Prove '..Said' where nothing that the law and all that it calls make is longer than what came in: it says more and counts as full. Else prove '..UptoSaid'. A law counts once. -/
mutual
def uptoBulk {H : Type} : DataW H → Nat
  | .lit (.string bytes) => bytes.length + 1
  | .lit _ => 1
  | .nil => 1
  | .ptr d => uptoBulk d + 1
  | .slice elems spare => uptoBulkAll elems + uptoBulkAll spare + 1
  | .agg parts => uptoBulkAll parts + 1
  | .iface _ d => uptoBulk d + 1
  | .map entries => uptoBulkEntries entries + 1
  | .held _ => 1
def uptoBulkAll {H : Type} : List (DataW H) → Nat
  | [] => 0
  | d :: r => uptoBulk d + uptoBulkAll r
def uptoBulkEntries {H : Type} : List (Lit × DataW H) → Nat
  | [] => 0
  | x :: r => uptoBulkEntry x + uptoBulkEntries r
def uptoBulkEntry {H : Type} : Lit × DataW H → Nat
  | (.string bytes, d) => bytes.length + uptoBulk d + 1
  | (_, d) => uptoBulk d + 1
 end
def uptoSmall : (H : Type) → List (DataW H) → Bool := fun _ ds => decide (uptoBulkAll ds ≤ 1048576)
def OpenSpec.upto (s : _root_.Go.ChangeSpec) : _root_.Go.OpenSpec := { _root_.Go.OpenSpec.ofChange s with cond := some uptoSmall }

/-- 'rootcauselaw15.AgendaOrders', WHERE WHAT IT READS IS OF BULK AT MOST 1048576: true; the input reads as it did. -/
def agendaOrdersUptoRow : OpenClaim := { program := "ytnamppkicefbjaa", sum := "a9e4ad628c2ece9a26ac571aa2a51e8363e3871df8bc2f26a0abd67e2dd73985", func := "rootcause/rootcauselaw15.AgendaOrders", spec := "agendaOrders", inPlace := ["slices.overlaps[rootcause/agenda.entry]"], unfollowed := true, recurses := true, plainKeys := false, apart := false, narrowed := true }
def AgendaOrdersUptoSaid : Prop := agendaOrdersUptoRow.holds Try.pinned (OpenSpec.upto agendaOrdersSpec)

/-- 'rootcauselaw15.AgendaKeeps', WHERE WHAT IT READS IS OF BULK AT MOST 1048576: true; the input reads as it did. -/
def agendaKeepsUptoRow : OpenClaim := { program := "ytnamppkicefbjaa", sum := "a9e4ad628c2ece9a26ac571aa2a51e8363e3871df8bc2f26a0abd67e2dd73985", func := "rootcause/rootcauselaw15.AgendaKeeps", spec := "agendaKeeps", inPlace := ["slices.overlaps[rootcause/agenda.entry]"], unfollowed := true, recurses := true, plainKeys := false, apart := false, narrowed := true }
def AgendaKeepsUptoSaid : Prop := agendaKeepsUptoRow.holds Try.pinned (OpenSpec.upto agendaKeepsSpec)

/-- 'rootcauselaw15.AgendaSteps', WHERE WHAT IT READS IS OF BULK AT MOST 1048576: true; the input reads as it did. -/
def agendaStepsUptoRow : OpenClaim := { program := "ytnamppkicefbjaa", sum := "a9e4ad628c2ece9a26ac571aa2a51e8363e3871df8bc2f26a0abd67e2dd73985", func := "rootcause/rootcauselaw15.AgendaSteps", spec := "agendaSteps", inPlace := ["slices.overlaps[rootcause/agenda.entry]"], unfollowed := true, recurses := true, plainKeys := false, apart := false, narrowed := true }
def AgendaStepsUptoSaid : Prop := agendaStepsUptoRow.holds Try.pinned (OpenSpec.upto agendaStepsSpec)

/-- 'rootcauselaw15.AgendaCancels', WHERE WHAT IT READS IS OF BULK AT MOST 1048576: true; the input reads as it did. -/
def agendaCancelsUptoRow : OpenClaim := { program := "ytnamppkicefbjaa", sum := "a9e4ad628c2ece9a26ac571aa2a51e8363e3871df8bc2f26a0abd67e2dd73985", func := "rootcause/rootcauselaw15.AgendaCancels", spec := "agendaCancels", inPlace := ["slices.overlaps[rootcause/agenda.entry]"], unfollowed := true, recurses := true, plainKeys := false, apart := false, narrowed := true }
def AgendaCancelsUptoSaid : Prop := agendaCancelsUptoRow.holds Try.pinned (OpenSpec.upto agendaCancelsSpec)

/-- 'rootcauselaw15.AgendaEquals', WHERE WHAT IT READS IS OF BULK AT MOST 1048576: true; the input reads as it did. -/
def agendaEqualsUptoRow : OpenClaim := { program := "ytnamppkicefbjaa", sum := "a9e4ad628c2ece9a26ac571aa2a51e8363e3871df8bc2f26a0abd67e2dd73985", func := "rootcause/rootcauselaw15.AgendaEquals", spec := "agendaEquals", inPlace := ["slices.overlaps[rootcause/agenda.entry]"], unfollowed := true, recurses := true, plainKeys := false, apart := false, narrowed := true }
def AgendaEqualsUptoSaid : Prop := agendaEqualsUptoRow.holds Try.pinned (OpenSpec.upto agendaEqualsSpec)

/-- 'rootcauselaw15.AgendaPlays', WHERE WHAT IT READS IS OF BULK AT MOST 1048576: true; the input reads as it did. -/
def agendaPlaysUptoRow : OpenClaim := { program := "ytnamppkicefbjaa", sum := "a9e4ad628c2ece9a26ac571aa2a51e8363e3871df8bc2f26a0abd67e2dd73985", func := "rootcause/rootcauselaw15.AgendaPlays", spec := "agendaPlays", inPlace := ["slices.overlaps[rootcause/agenda.entry]"], unfollowed := true, recurses := true, plainKeys := false, apart := false, narrowed := true }
def AgendaPlaysUptoSaid : Prop := agendaPlaysUptoRow.holds Try.pinned (OpenSpec.upto agendaPlaysSpec)

/-- 'rootcauselaw15.AgendaErrors', WHERE WHAT IT READS IS OF BULK AT MOST 1048576: true; the input reads as it did. -/
def agendaErrorsUptoRow : OpenClaim := { program := "ytnamppkicefbjaa", sum := "a9e4ad628c2ece9a26ac571aa2a51e8363e3871df8bc2f26a0abd67e2dd73985", func := "rootcause/rootcauselaw15.AgendaErrors", spec := "agendaErrors", inPlace := ["slices.overlaps[rootcause/agenda.entry]"], unfollowed := true, recurses := true, plainKeys := false, apart := false, narrowed := true }
def AgendaErrorsUptoSaid : Prop := agendaErrorsUptoRow.holds Try.pinned (OpenSpec.upto agendaErrorsSpec)

/-- 'rootcauselaw15.AgendaMessages', WHERE WHAT IT READS IS OF BULK AT MOST 1048576: true; the input reads as it did. -/
def agendaMessagesUptoRow : OpenClaim := { program := "ytnamppkicefbjaa", sum := "a9e4ad628c2ece9a26ac571aa2a51e8363e3871df8bc2f26a0abd67e2dd73985", func := "rootcause/rootcauselaw15.AgendaMessages", spec := "agendaMessages", inPlace := ["slices.overlaps[rootcause/agenda.entry]"], unfollowed := true, recurses := true, plainKeys := false, apart := false, narrowed := true }
def AgendaMessagesUptoSaid : Prop := agendaMessagesUptoRow.holds Try.pinned (OpenSpec.upto agendaMessagesSpec)

end Rows
end Go.Proofs.Ytnamppkicefbjaa
