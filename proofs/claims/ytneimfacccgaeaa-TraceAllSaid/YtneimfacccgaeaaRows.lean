/-
  No cell of these rows narrows 'for every input' (looked for: loops, veiled, ifaces, maps, wideKeys, modest, calm, conditions, laid).
  DERIVED. THE GIVEN ROWS OF THIS SEAT. 8 by the template 'for every input the law returns true; each argument reads behind the call as it read before'; 0 by the template 'total and deterministic' (their statements: YtneimfacccgaeaaTotals.lean).
  GIVEN WITH THE SEED: the statements are not yours to turn. If you find one false, say at which input.
  Laid BY PROGRAM, IN A SANDBOX (cutbox-rows.mjs): the forced cells as the released guide's own fill.sh prints them over the translation 8ccb0b1eeb24d3a8… (all of the seat's roots in one cut). By AI agents, Wed Nov 11 2026. No macro, syntax, notation, axiom, sorry.
-/
import Derived.Test.YtneimfacccgaeaaChecked
import GoSem.Claim
import GoSem.ClaimJoined
import GoSem.ClaimMapViews
import Derived.JoinedTies
import Derived.KernelRfl
namespace Go.Proofs.Ytneimfacccgaeaa
/- THE CELL 'sum', in the pinned program and in every row, IS THE sha256 OF THE DUMP (.gsa) THAT YtneimfacccgaeaaProg.lean LOADS. Nothing in Lean hashes anything: it is a label: what it is worth is what the hold of that sum in a sandbox is worth. -/
noncomputable def Try.pinned : Pinned := { name := "ytneimfacccgaeaa", sum := "8ccb0b1eeb24d3a8108a100b016b0baad48a083fa10241c3aa7c05128abef79a", checked := Try.checked }
namespace Rows
def none {H : Type} : Left H := { results := [], args := [] }

/-- 'rootcauselaw18.TraceNormal': WHATEVER THE INPUT: true; the input reads as it did. -/
def traceNormalSpec : ChangeSpec := { name := "traceNormal", fn := fun _ => fun
  | [d] => { results := [.lit (.bool true)], args := [d] }
  | _ => none }
def traceNormalRow : OpenClaim := { program := "ytneimfacccgaeaa", sum := "8ccb0b1eeb24d3a8108a100b016b0baad48a083fa10241c3aa7c05128abef79a", func := "rootcause/rootcauselaw18.TraceNormal", spec := "traceNormal", unfollowed := true, recurses := true, plainKeys := false, apart := false }
def TraceNormalSaid : Prop := traceNormalRow.holds Try.pinned (OpenSpec.ofChange traceNormalSpec)

/-- ITS FALSE NEIGHBOUR: 'it returns false'. Refute it at one input. -/
def traceNormalWrong : ChangeSpec := { name := "traceNormal", fn := fun _ => fun
  | [d] => { results := [.lit (.bool false)], args := [d] }
  | _ => none }
def TraceNormalWrongFalsely : Prop := traceNormalRow.holds Try.pinned (OpenSpec.ofChange traceNormalWrong)

/-- 'rootcauselaw18.TraceCounts': WHATEVER THE INPUT: true; the input reads as it did. -/
def traceCountsSpec : ChangeSpec := { name := "traceCounts", fn := fun _ => fun
  | [d1, d2] => { results := [.lit (.bool true)], args := [d1, d2] }
  | _ => none }
def traceCountsRow : OpenClaim := { program := "ytneimfacccgaeaa", sum := "8ccb0b1eeb24d3a8108a100b016b0baad48a083fa10241c3aa7c05128abef79a", func := "rootcause/rootcauselaw18.TraceCounts", spec := "traceCounts", unfollowed := true, recurses := true, plainKeys := false, apart := false }
def TraceCountsSaid : Prop := traceCountsRow.holds Try.pinned (OpenSpec.ofChange traceCountsSpec)

/-- ITS FALSE NEIGHBOUR: 'it returns false'. Refute it at one input. -/
def traceCountsWrong : ChangeSpec := { name := "traceCounts", fn := fun _ => fun
  | [d1, d2] => { results := [.lit (.bool false)], args := [d1, d2] }
  | _ => none }
def TraceCountsWrongFalsely : Prop := traceCountsRow.holds Try.pinned (OpenSpec.ofChange traceCountsWrong)

/-- 'rootcauselaw18.TraceEvents': WHATEVER THE INPUT: true; the input reads as it did. -/
def traceEventsSpec : ChangeSpec := { name := "traceEvents", fn := fun _ => fun
  | [d1, d2, d3] => { results := [.lit (.bool true)], args := [d1, d2, d3] }
  | _ => none }
def traceEventsRow : OpenClaim := { program := "ytneimfacccgaeaa", sum := "8ccb0b1eeb24d3a8108a100b016b0baad48a083fa10241c3aa7c05128abef79a", func := "rootcause/rootcauselaw18.TraceEvents", spec := "traceEvents", unfollowed := true, recurses := true, plainKeys := false, apart := false }
def TraceEventsSaid : Prop := traceEventsRow.holds Try.pinned (OpenSpec.ofChange traceEventsSpec)

/-- ITS FALSE NEIGHBOUR: 'it returns false'. Refute it at one input. -/
def traceEventsWrong : ChangeSpec := { name := "traceEvents", fn := fun _ => fun
  | [d1, d2, d3] => { results := [.lit (.bool false)], args := [d1, d2, d3] }
  | _ => none }
def TraceEventsWrongFalsely : Prop := traceEventsRow.holds Try.pinned (OpenSpec.ofChange traceEventsWrong)

/-- 'rootcauselaw18.TraceCompares': WHATEVER THE INPUT: true; the input reads as it did. -/
def traceComparesSpec : ChangeSpec := { name := "traceCompares", fn := fun _ => fun
  | [d1, d2, d3] => { results := [.lit (.bool true)], args := [d1, d2, d3] }
  | _ => none }
def traceComparesRow : OpenClaim := { program := "ytneimfacccgaeaa", sum := "8ccb0b1eeb24d3a8108a100b016b0baad48a083fa10241c3aa7c05128abef79a", func := "rootcause/rootcauselaw18.TraceCompares", spec := "traceCompares", unfollowed := true, recurses := true, plainKeys := false, apart := false }
def TraceComparesSaid : Prop := traceComparesRow.holds Try.pinned (OpenSpec.ofChange traceComparesSpec)

/-- ITS FALSE NEIGHBOUR: 'it returns false'. Refute it at one input. -/
def traceComparesWrong : ChangeSpec := { name := "traceCompares", fn := fun _ => fun
  | [d1, d2, d3] => { results := [.lit (.bool false)], args := [d1, d2, d3] }
  | _ => none }
def TraceComparesWrongFalsely : Prop := traceComparesRow.holds Try.pinned (OpenSpec.ofChange traceComparesWrong)

/-- 'rootcauselaw18.TraceProjects': WHATEVER THE INPUT: true; the input reads as it did. -/
def traceProjectsSpec : ChangeSpec := { name := "traceProjects", fn := fun _ => fun
  | [d1, d2] => { results := [.lit (.bool true)], args := [d1, d2] }
  | _ => none }
def traceProjectsRow : OpenClaim := { program := "ytneimfacccgaeaa", sum := "8ccb0b1eeb24d3a8108a100b016b0baad48a083fa10241c3aa7c05128abef79a", func := "rootcause/rootcauselaw18.TraceProjects", spec := "traceProjects", unfollowed := true, recurses := true, plainKeys := false, apart := false }
def TraceProjectsSaid : Prop := traceProjectsRow.holds Try.pinned (OpenSpec.ofChange traceProjectsSpec)

/-- ITS FALSE NEIGHBOUR: 'it returns false'. Refute it at one input. -/
def traceProjectsWrong : ChangeSpec := { name := "traceProjects", fn := fun _ => fun
  | [d1, d2] => { results := [.lit (.bool false)], args := [d1, d2] }
  | _ => none }
def TraceProjectsWrongFalsely : Prop := traceProjectsRow.holds Try.pinned (OpenSpec.ofChange traceProjectsWrong)

/-- 'rootcauselaw18.TraceExchanges': WHATEVER THE INPUT: true; the input reads as it did. -/
def traceExchangesSpec : ChangeSpec := { name := "traceExchanges", fn := fun _ => fun
  | [d1, d2] => { results := [.lit (.bool true)], args := [d1, d2] }
  | _ => none }
def traceExchangesRow : OpenClaim := { program := "ytneimfacccgaeaa", sum := "8ccb0b1eeb24d3a8108a100b016b0baad48a083fa10241c3aa7c05128abef79a", func := "rootcause/rootcauselaw18.TraceExchanges", spec := "traceExchanges", unfollowed := true, recurses := true, plainKeys := false, apart := false }
def TraceExchangesSaid : Prop := traceExchangesRow.holds Try.pinned (OpenSpec.ofChange traceExchangesSpec)

/-- ITS FALSE NEIGHBOUR: 'it returns false'. Refute it at one input. -/
def traceExchangesWrong : ChangeSpec := { name := "traceExchanges", fn := fun _ => fun
  | [d1, d2] => { results := [.lit (.bool false)], args := [d1, d2] }
  | _ => none }
def TraceExchangesWrongFalsely : Prop := traceExchangesRow.holds Try.pinned (OpenSpec.ofChange traceExchangesWrong)

/-- 'rootcauselaw18.TraceOrders': WHATEVER THE INPUT: true; the input reads as it did. -/
def traceOrdersSpec : ChangeSpec := { name := "traceOrders", fn := fun _ => fun
  | [d1, d2, d3] => { results := [.lit (.bool true)], args := [d1, d2, d3] }
  | _ => none }
def traceOrdersRow : OpenClaim := { program := "ytneimfacccgaeaa", sum := "8ccb0b1eeb24d3a8108a100b016b0baad48a083fa10241c3aa7c05128abef79a", func := "rootcause/rootcauselaw18.TraceOrders", spec := "traceOrders", unfollowed := true, recurses := true, plainKeys := false, apart := false }
def TraceOrdersSaid : Prop := traceOrdersRow.holds Try.pinned (OpenSpec.ofChange traceOrdersSpec)

/-- ITS FALSE NEIGHBOUR: 'it returns false'. Refute it at one input. -/
def traceOrdersWrong : ChangeSpec := { name := "traceOrders", fn := fun _ => fun
  | [d1, d2, d3] => { results := [.lit (.bool false)], args := [d1, d2, d3] }
  | _ => none }
def TraceOrdersWrongFalsely : Prop := traceOrdersRow.holds Try.pinned (OpenSpec.ofChange traceOrdersWrong)

/-- 'rootcauselaw18.TraceAll': WHATEVER THE INPUT: true; the input reads as it did. -/
def traceAllSpec : ChangeSpec := { name := "traceAll", fn := fun _ => fun
  | [d] => { results := [.lit (.bool true)], args := [d] }
  | _ => none }
def traceAllRow : OpenClaim := { program := "ytneimfacccgaeaa", sum := "8ccb0b1eeb24d3a8108a100b016b0baad48a083fa10241c3aa7c05128abef79a", func := "rootcause/rootcauselaw18.TraceAll", spec := "traceAll", unfollowed := true, recurses := true, plainKeys := false, apart := false }
def TraceAllSaid : Prop := traceAllRow.holds Try.pinned (OpenSpec.ofChange traceAllSpec)

/-- ITS FALSE NEIGHBOUR: 'it returns false'. Refute it at one input. -/
def traceAllWrong : ChangeSpec := { name := "traceAll", fn := fun _ => fun
  | [d] => { results := [.lit (.bool false)], args := [d] }
  | _ => none }
def TraceAllWrongFalsely : Prop := traceAllRow.holds Try.pinned (OpenSpec.ofChange traceAllWrong)

/- THE SECOND FORM. 'bulk': how many values and letters a reading holds, each counted each time it is reached (what is shared counts as often as it is met; a slice's spare places count too). A statement '..UptoSaid' is the law's where the arguments, and the package variables that the reading takes, are together of bulk at most 1048576: NARROWER than '..Said'. Prove '..Said' where nothing that the law and all that it calls make is longer than what came in: it says more and counts as full. Else prove '..UptoSaid'. A law counts once. -/
mutual
def uptoBulk {H : Type} : DataW H → Nat
  | .lit (.string bytes) => bytes.length + 1
  | .lit _ => 1
  | .nil => 1
  | .ptr d => uptoBulk d + 1
  | .slice elems spare => uptoBulkAll elems + uptoBulkAll spare + 1
  | .agg parts => uptoBulkAll parts + 1
  | .iface _ d => uptoBulk d + 1
  | .map entries => uptoBulkEntries entries + 1
  | .held _ => 1
def uptoBulkAll {H : Type} : List (DataW H) → Nat
  | [] => 0
  | d :: r => uptoBulk d + uptoBulkAll r
def uptoBulkEntries {H : Type} : List (Lit × DataW H) → Nat
  | [] => 0
  | x :: r => uptoBulkEntry x + uptoBulkEntries r
def uptoBulkEntry {H : Type} : Lit × DataW H → Nat
  | (.string bytes, d) => bytes.length + uptoBulk d + 1
  | (_, d) => uptoBulk d + 1
 end
def uptoSmall : (H : Type) → List (DataW H) → Bool := fun _ ds => decide (uptoBulkAll ds ≤ 1048576)
def OpenSpec.upto (s : _root_.Go.ChangeSpec) : _root_.Go.OpenSpec := { _root_.Go.OpenSpec.ofChange s with cond := some uptoSmall }

/-- 'rootcauselaw18.TraceNormal', WHERE WHAT IT READS IS OF BULK AT MOST 1048576: true; the input reads as it did. -/
def traceNormalUptoRow : OpenClaim := { program := "ytneimfacccgaeaa", sum := "8ccb0b1eeb24d3a8108a100b016b0baad48a083fa10241c3aa7c05128abef79a", func := "rootcause/rootcauselaw18.TraceNormal", spec := "traceNormal", unfollowed := true, recurses := true, plainKeys := false, apart := false, narrowed := true }
def TraceNormalUptoSaid : Prop := traceNormalUptoRow.holds Try.pinned (OpenSpec.upto traceNormalSpec)

/-- 'rootcauselaw18.TraceCounts', WHERE WHAT IT READS IS OF BULK AT MOST 1048576: true; the input reads as it did. -/
def traceCountsUptoRow : OpenClaim := { program := "ytneimfacccgaeaa", sum := "8ccb0b1eeb24d3a8108a100b016b0baad48a083fa10241c3aa7c05128abef79a", func := "rootcause/rootcauselaw18.TraceCounts", spec := "traceCounts", unfollowed := true, recurses := true, plainKeys := false, apart := false, narrowed := true }
def TraceCountsUptoSaid : Prop := traceCountsUptoRow.holds Try.pinned (OpenSpec.upto traceCountsSpec)

/-- 'rootcauselaw18.TraceEvents', WHERE WHAT IT READS IS OF BULK AT MOST 1048576: true; the input reads as it did. -/
def traceEventsUptoRow : OpenClaim := { program := "ytneimfacccgaeaa", sum := "8ccb0b1eeb24d3a8108a100b016b0baad48a083fa10241c3aa7c05128abef79a", func := "rootcause/rootcauselaw18.TraceEvents", spec := "traceEvents", unfollowed := true, recurses := true, plainKeys := false, apart := false, narrowed := true }
def TraceEventsUptoSaid : Prop := traceEventsUptoRow.holds Try.pinned (OpenSpec.upto traceEventsSpec)

/-- 'rootcauselaw18.TraceCompares', WHERE WHAT IT READS IS OF BULK AT MOST 1048576: true; the input reads as it did. -/
def traceComparesUptoRow : OpenClaim := { program := "ytneimfacccgaeaa", sum := "8ccb0b1eeb24d3a8108a100b016b0baad48a083fa10241c3aa7c05128abef79a", func := "rootcause/rootcauselaw18.TraceCompares", spec := "traceCompares", unfollowed := true, recurses := true, plainKeys := false, apart := false, narrowed := true }
def TraceComparesUptoSaid : Prop := traceComparesUptoRow.holds Try.pinned (OpenSpec.upto traceComparesSpec)

/-- 'rootcauselaw18.TraceProjects', WHERE WHAT IT READS IS OF BULK AT MOST 1048576: true; the input reads as it did. -/
def traceProjectsUptoRow : OpenClaim := { program := "ytneimfacccgaeaa", sum := "8ccb0b1eeb24d3a8108a100b016b0baad48a083fa10241c3aa7c05128abef79a", func := "rootcause/rootcauselaw18.TraceProjects", spec := "traceProjects", unfollowed := true, recurses := true, plainKeys := false, apart := false, narrowed := true }
def TraceProjectsUptoSaid : Prop := traceProjectsUptoRow.holds Try.pinned (OpenSpec.upto traceProjectsSpec)

/-- 'rootcauselaw18.TraceExchanges', WHERE WHAT IT READS IS OF BULK AT MOST 1048576: true; the input reads as it did. -/
def traceExchangesUptoRow : OpenClaim := { program := "ytneimfacccgaeaa", sum := "8ccb0b1eeb24d3a8108a100b016b0baad48a083fa10241c3aa7c05128abef79a", func := "rootcause/rootcauselaw18.TraceExchanges", spec := "traceExchanges", unfollowed := true, recurses := true, plainKeys := false, apart := false, narrowed := true }
def TraceExchangesUptoSaid : Prop := traceExchangesUptoRow.holds Try.pinned (OpenSpec.upto traceExchangesSpec)

/-- 'rootcauselaw18.TraceOrders', WHERE WHAT IT READS IS OF BULK AT MOST 1048576: true; the input reads as it did. -/
def traceOrdersUptoRow : OpenClaim := { program := "ytneimfacccgaeaa", sum := "8ccb0b1eeb24d3a8108a100b016b0baad48a083fa10241c3aa7c05128abef79a", func := "rootcause/rootcauselaw18.TraceOrders", spec := "traceOrders", unfollowed := true, recurses := true, plainKeys := false, apart := false, narrowed := true }
def TraceOrdersUptoSaid : Prop := traceOrdersUptoRow.holds Try.pinned (OpenSpec.upto traceOrdersSpec)

/-- 'rootcauselaw18.TraceAll', WHERE WHAT IT READS IS OF BULK AT MOST 1048576: true; the input reads as it did. -/
def traceAllUptoRow : OpenClaim := { program := "ytneimfacccgaeaa", sum := "8ccb0b1eeb24d3a8108a100b016b0baad48a083fa10241c3aa7c05128abef79a", func := "rootcause/rootcauselaw18.TraceAll", spec := "traceAll", unfollowed := true, recurses := true, plainKeys := false, apart := false, narrowed := true }
def TraceAllUptoSaid : Prop := traceAllUptoRow.holds Try.pinned (OpenSpec.upto traceAllSpec)

end Rows
end Go.Proofs.Ytneimfacccgaeaa
