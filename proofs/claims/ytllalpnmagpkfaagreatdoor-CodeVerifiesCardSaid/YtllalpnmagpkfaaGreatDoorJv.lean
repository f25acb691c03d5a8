/- The facts of the row codeVerifies, one by one. Own text. -/
import Derived.Test.YtllalpnmagpkfaaGreatDoorRows
import Derived.JoinedOf
set_option linter.unusedVariables false
set_option linter.unusedSimpArgs false
namespace Go.Proofs.YtllalpnmagpkfaaGreatDoor.codeVerifiesFacts
theorem a1:(Rows.codeVerifiesRow.inPlace==Tryz.pinned.checked.prog.inPlace 9)=true:=by kernel_rfl
theorem a2:(Rows.codeVerifiesRow.unfollowed==Tryz.pinned.checked.prog.unfollowed 9)=true:=by kernel_rfl
theorem a3:(Rows.codeVerifiesRow.recurses==Tryz.pinned.checked.prog.recurses 9)=true:=by kernel_rfl
theorem a4:(Rows.codeVerifiesRow.named==Tryz.pinned.checked.prog.varsNamed 9)=true:=by kernel_rfl
theorem a5:(laidOutB Tryz.pinned.checked.prog)=true:=by kernel_rfl
theorem a6:(mapsRowed Tryz.pinned.checked.prog)=true:=by kernel_rfl
theorem a8:(Rows.codeVerifiesRow.plainKeys==Tryz.pinned.checked.prog.plainKeys)=true:=by kernel_rfl
theorem a9:(Tryz.pinned.checked.prog.stopsHeard)=true:=by kernel_rfl
theorem a10:(Tryz.pinned.checked.prog.mayEnter)=true:=by kernel_rfl
theorem a11:(Rows.codeVerifiesRow.lifted==Tryz.pinned.checked.prog.liftsFinal)=true:=by kernel_rfl
theorem a7:(namedTie Tryz.pinned.checked.prog Rows.codeVerifiesRow.named Rows.codeVerifiesSpec.vars)=true:=by kernel_rfl
theorem closed:joinedFacts Tryz.pinned.checked.prog 9 Tryz.f9 Rows.codeVerifiesSpec Rows.codeVerifiesRow=true:=by
 unfold joinedFacts
 rw[a1,a2,a3,a4,a5,a6,a7,a8,a9,a10,a11]
 kernel_rfl
end Go.Proofs.YtllalpnmagpkfaaGreatDoor.codeVerifiesFacts
