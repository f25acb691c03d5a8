/- The facts of the row codeCosts, one by one. Own text. -/
import Derived.Test.YtllalpnmagpkfaaGreatDoorRows
import Derived.JoinedOf
set_option linter.unusedVariables false
set_option linter.unusedSimpArgs false
namespace Go.Proofs.YtllalpnmagpkfaaGreatDoor.codeCostsFacts
theorem a1:(Rows.codeCostsRow.inPlace==Tryz.pinned.checked.prog.inPlace 7)=true:=by kernel_rfl
theorem a2:(Rows.codeCostsRow.unfollowed==Tryz.pinned.checked.prog.unfollowed 7)=true:=by kernel_rfl
theorem a3:(Rows.codeCostsRow.recurses==Tryz.pinned.checked.prog.recurses 7)=true:=by kernel_rfl
theorem a4:(Rows.codeCostsRow.named==Tryz.pinned.checked.prog.varsNamed 7)=true:=by kernel_rfl
theorem a5:(laidOutB Tryz.pinned.checked.prog)=true:=by kernel_rfl
theorem a6:(mapsRowed Tryz.pinned.checked.prog)=true:=by kernel_rfl
theorem a8:(Rows.codeCostsRow.plainKeys==Tryz.pinned.checked.prog.plainKeys)=true:=by kernel_rfl
theorem a9:(Tryz.pinned.checked.prog.stopsHeard)=true:=by kernel_rfl
theorem a10:(Tryz.pinned.checked.prog.mayEnter)=true:=by kernel_rfl
theorem a11:(Rows.codeCostsRow.lifted==Tryz.pinned.checked.prog.liftsFinal)=true:=by kernel_rfl
theorem a7:(namedTie Tryz.pinned.checked.prog Rows.codeCostsRow.named Rows.codeCostsSpec.vars)=true:=by kernel_rfl
theorem closed:joinedFacts Tryz.pinned.checked.prog 7 Tryz.f7 Rows.codeCostsSpec Rows.codeCostsRow=true:=by
 unfold joinedFacts
 rw[a1,a2,a3,a4,a5,a6,a7,a8,a9,a10,a11]
 kernel_rfl
end Go.Proofs.YtllalpnmagpkfaaGreatDoor.codeCostsFacts
