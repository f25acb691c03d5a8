/- Own text. -/
import Derived.Test.YtlihklladkagpaaGreatDoorRows
import Derived.JoinedOf
set_option linter.unusedVariables false
set_option linter.unusedSimpArgs false
namespace Go.Proofs.YtlihklladkagpaaGreatDoor.execStatementsFacts
theorem a1:(Rows.execStatementsRow.inPlace==Tryz.pinned.checked.prog.inPlace 5)=true:=by kernel_rfl
theorem a2:(Rows.execStatementsRow.unfollowed==Tryz.pinned.checked.prog.unfollowed 5)=true:=by kernel_rfl
theorem a3:(Rows.execStatementsRow.recurses==Tryz.pinned.checked.prog.recurses 5)=true:=by kernel_rfl
theorem a4:(Rows.execStatementsRow.named==Tryz.pinned.checked.prog.varsNamed 5)=true:=by kernel_rfl
theorem a5:(laidOutB Tryz.pinned.checked.prog)=true:=by kernel_rfl
theorem a6:(mapsRowed Tryz.pinned.checked.prog)=true:=by kernel_rfl
theorem a8:(Rows.execStatementsRow.plainKeys==Tryz.pinned.checked.prog.plainKeys)=true:=by kernel_rfl
theorem a9:(Tryz.pinned.checked.prog.stopsHeard)=true:=by kernel_rfl
theorem a10:(Tryz.pinned.checked.prog.mayEnter)=true:=by kernel_rfl
theorem a11:(Rows.execStatementsRow.lifted==Tryz.pinned.checked.prog.liftsFinal)=true:=by kernel_rfl
theorem a7:(namedTie Tryz.pinned.checked.prog Rows.execStatementsRow.named Rows.execStatementsSpec.vars)=true:=by kernel_rfl
theorem closed:joinedFacts Tryz.pinned.checked.prog 5 Tryz.f5 Rows.execStatementsSpec Rows.execStatementsRow=true:=by
 unfold joinedFacts
 rw[a1,a2,a3,a4,a5,a6,a7,a8,a9,a10,a11]
 kernel_rfl
end Go.Proofs.YtlihklladkagpaaGreatDoor.execStatementsFacts
