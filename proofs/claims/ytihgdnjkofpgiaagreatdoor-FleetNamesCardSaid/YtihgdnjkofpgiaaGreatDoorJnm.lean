/- Own text. -/
import Derived.Test.YtihgdnjkofpgiaaGreatDoorRows
import Derived.JoinedOf
set_option linter.unusedVariables false
namespace Go.Proofs.YtihgdnjkofpgiaaGreatDoor.fleetNamesFacts
theorem a1:(Rows.fleetNamesRow.inPlace==Tryz.pinned.checked.prog.inPlace 7)=true:=by kernel_rfl
theorem a2:(Rows.fleetNamesRow.unfollowed==Tryz.pinned.checked.prog.unfollowed 7)=true:=by kernel_rfl
theorem a3:(Rows.fleetNamesRow.recurses==Tryz.pinned.checked.prog.recurses 7)=true:=by kernel_rfl
theorem a4:(Rows.fleetNamesRow.named==Tryz.pinned.checked.prog.varsNamed 7)=true:=by kernel_rfl
theorem a5:(laidOutB Tryz.pinned.checked.prog)=true:=by kernel_rfl
theorem a6:(mapsRowed Tryz.pinned.checked.prog)=true:=by kernel_rfl
theorem a8:(Rows.fleetNamesRow.plainKeys==Tryz.pinned.checked.prog.plainKeys)=true:=by kernel_rfl
theorem a9:(Tryz.pinned.checked.prog.stopsHeard)=true:=by kernel_rfl
theorem a10:(Tryz.pinned.checked.prog.mayEnter)=true:=by kernel_rfl
theorem a11:(Rows.fleetNamesRow.lifted==Tryz.pinned.checked.prog.liftsFinal)=true:=by kernel_rfl
theorem a7:(namedTie Tryz.pinned.checked.prog Rows.fleetNamesRow.named Rows.fleetNamesSpec.vars)=true:=by kernel_rfl
theorem closed:joinedFacts Tryz.pinned.checked.prog 7 Tryz.f7 Rows.fleetNamesSpec Rows.fleetNamesRow=true:=by
 unfold joinedFacts;rw[a1,a2,a3,a4,a5,a6,a7,a8,a9,a10,a11];kernel_rfl
end Go.Proofs.YtihgdnjkofpgiaaGreatDoor.fleetNamesFacts
