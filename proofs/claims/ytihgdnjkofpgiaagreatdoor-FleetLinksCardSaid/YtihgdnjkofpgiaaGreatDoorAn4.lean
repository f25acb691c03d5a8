/- Own text. -/
import Derived.Test.YtihgdnjkofpgiaaGreatDoorAn1
import Derived.Test.YtihgdnjkofpgiaaGreatDoorAl
set_option linter.unusedVariables false
set_option linter.unusedSimpArgs false
namespace Go.Proofs.YtihgdnjkofpgiaaGreatDoor
open Go.Proofs.Tryz
open Go.RowKit Go.Flow Go.Mem Go.Sep
open Go.In
def V3:AV:= .tup [.nilp, .int .i64 0, .int .i64 9]
set_option maxRecDepth 1000000 in
theorem FX:(match bR env ZZ 60 40 [.str xX] GL 4096 with|some (v,_,_)=>eqV v V3|none=>false)=true:=by kernel_rfl
theorem PN:Dz 40 [.string (fT xX)] gA (fun v _=>v= .tuple #[.pointer none, .int .i64 0, .int .i64 9]):=by
 have h:=FX;split at h
 · rename_i v M k' hc
   have ev:=fA _ _ h;subst ev;have hk:=(Xl (E:=env) IY 60 _ _ _ _ _ _ _ hc (aOd _) (by simp only[Ej,bq];exact⟨trivial,trivial⟩) DW).does z0;simp only[Dm,val]at hk;exact hk.mono fun u Γ' ⟨σ,_,h1,_⟩=>by rw[h1];simp only[V3,Dm,val]
 ·cases h
end Go.Proofs.YtihgdnjkofpgiaaGreatDoor
