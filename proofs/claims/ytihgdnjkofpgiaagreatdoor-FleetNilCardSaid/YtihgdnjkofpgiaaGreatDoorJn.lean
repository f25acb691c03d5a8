/- The facts of the row fleetNil, one by one. Own text. -/
import Derived.Test.YtihgdnjkofpgiaaGreatDoorRows
import Derived.JoinedOf
set_option linter.unusedVariables false
set_option linter.unusedSimpArgs false
namespace Go.Proofs.YtihgdnjkofpgiaaGreatDoor.fleetNilFacts
theorem a1:(Rows.fleetNilRow.inPlace==Tryz.pinned.checked.prog.inPlace 8)=true:=by kernel_rfl
theorem a2:(Rows.fleetNilRow.unfollowed==Tryz.pinned.checked.prog.unfollowed 8)=true:=by kernel_rfl
theorem a3:(Rows.fleetNilRow.recurses==Tryz.pinned.checked.prog.recurses 8)=true:=by kernel_rfl
theorem a4:(Rows.fleetNilRow.named==Tryz.pinned.checked.prog.varsNamed 8)=true:=by kernel_rfl
theorem a5:(laidOutB Tryz.pinned.checked.prog)=true:=by kernel_rfl
theorem a6:(mapsRowed Tryz.pinned.checked.prog)=true:=by kernel_rfl
theorem a8:(Rows.fleetNilRow.plainKeys==Tryz.pinned.checked.prog.plainKeys)=true:=by kernel_rfl
theorem a9:(Tryz.pinned.checked.prog.stopsHeard)=true:=by kernel_rfl
theorem a10:(Tryz.pinned.checked.prog.mayEnter)=true:=by kernel_rfl
theorem a11:(Rows.fleetNilRow.lifted==Tryz.pinned.checked.prog.liftsFinal)=true:=by kernel_rfl
theorem a7:(namedTie Tryz.pinned.checked.prog Rows.fleetNilRow.named Rows.fleetNilSpec.vars)=true:=by kernel_rfl
theorem closed:joinedFacts Tryz.pinned.checked.prog 8 Tryz.f8 Rows.fleetNilSpec Rows.fleetNilRow=true:=by
 unfold joinedFacts
 rw[a1,a2,a3,a4,a5,a6,a7,a8,a9,a10,a11]
 kernel_rfl
end Go.Proofs.YtihgdnjkofpgiaaGreatDoor.fleetNilFacts
