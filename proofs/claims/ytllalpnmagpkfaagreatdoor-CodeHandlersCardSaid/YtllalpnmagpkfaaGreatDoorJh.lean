/- Own text. -/
import Derived.Test.YtllalpnmagpkfaaGreatDoorRows
import Derived.JoinedOf
set_option linter.unusedVariables false
set_option linter.unusedSimpArgs false
namespace Go.Proofs.YtllalpnmagpkfaaGreatDoor.codeHandlersFacts
theorem a1:(Rows.codeHandlersRow.inPlace==Tryz.pinned.checked.prog.inPlace 6)=true:=by kernel_rfl
theorem a2:(Rows.codeHandlersRow.unfollowed==Tryz.pinned.checked.prog.unfollowed 6)=true:=by kernel_rfl
theorem a3:(Rows.codeHandlersRow.recurses==Tryz.pinned.checked.prog.recurses 6)=true:=by kernel_rfl
theorem a4:(Rows.codeHandlersRow.named==Tryz.pinned.checked.prog.varsNamed 6)=true:=by kernel_rfl
theorem a5:(laidOutB Tryz.pinned.checked.prog)=true:=by kernel_rfl
theorem a6:(mapsRowed Tryz.pinned.checked.prog)=true:=by kernel_rfl
theorem a8:(Rows.codeHandlersRow.plainKeys==Tryz.pinned.checked.prog.plainKeys)=true:=by kernel_rfl
theorem a9:(Tryz.pinned.checked.prog.stopsHeard)=true:=by kernel_rfl
theorem a10:(Tryz.pinned.checked.prog.mayEnter)=true:=by kernel_rfl
theorem a11:(Rows.codeHandlersRow.lifted==Tryz.pinned.checked.prog.liftsFinal)=true:=by kernel_rfl
theorem a7:(namedTie Tryz.pinned.checked.prog Rows.codeHandlersRow.named Rows.codeHandlersSpec.vars)=true:=by kernel_rfl
theorem closed:joinedFacts Tryz.pinned.checked.prog 6 Tryz.f6 Rows.codeHandlersSpec Rows.codeHandlersRow=true:=by
 unfold joinedFacts
 rw[a1,a2,a3,a4,a5,a6,a7,a8,a9,a10,a11]
 kernel_rfl
end Go.Proofs.YtllalpnmagpkfaaGreatDoor.codeHandlersFacts
