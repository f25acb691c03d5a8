/- Own text. -/
import Derived.Test.YtihgdnjkofpgiaaGreatDoorRows
import Derived.JoinedOf
set_option linter.unusedVariables false
namespace Go.Proofs.YtihgdnjkofpgiaaGreatDoor.fleetLinksFacts
theorem a1:(Rows.fleetLinksRow.inPlace==Tryz.pinned.checked.prog.inPlace 6)=true:=by kernel_rfl
theorem a2:(Rows.fleetLinksRow.unfollowed==Tryz.pinned.checked.prog.unfollowed 6)=true:=by kernel_rfl
theorem a3:(Rows.fleetLinksRow.recurses==Tryz.pinned.checked.prog.recurses 6)=true:=by kernel_rfl
theorem a4:(Rows.fleetLinksRow.named==Tryz.pinned.checked.prog.varsNamed 6)=true:=by kernel_rfl
theorem a5:(laidOutB Tryz.pinned.checked.prog)=true:=by kernel_rfl
theorem a6:(mapsRowed Tryz.pinned.checked.prog)=true:=by kernel_rfl
theorem a8:(Rows.fleetLinksRow.plainKeys==Tryz.pinned.checked.prog.plainKeys)=true:=by kernel_rfl
theorem a9:(Tryz.pinned.checked.prog.stopsHeard)=true:=by kernel_rfl
theorem a10:(Tryz.pinned.checked.prog.mayEnter)=true:=by kernel_rfl
theorem a11:(Rows.fleetLinksRow.lifted==Tryz.pinned.checked.prog.liftsFinal)=true:=by kernel_rfl
theorem a7:(namedTie Tryz.pinned.checked.prog Rows.fleetLinksRow.named Rows.fleetLinksSpec.vars)=true:=by kernel_rfl
theorem closed:joinedFacts Tryz.pinned.checked.prog 6 Tryz.f6 Rows.fleetLinksSpec Rows.fleetLinksRow=true:=by
 unfold joinedFacts;rw[a1,a2,a3,a4,a5,a6,a7,a8,a9,a10,a11];kernel_rfl
end Go.Proofs.YtihgdnjkofpgiaaGreatDoor.fleetLinksFacts
