/- Own text. -/
import Derived.Test.YtllalpnmagpkfaaGreatDoorA18
set_option linter.unusedVariables false
set_option linter.unusedSimpArgs false
namespace Go.Proofs.YtllalpnmagpkfaaGreatDoor
open Go.Proofs.Tryz
open Go.RowKit Go.Flow Go.Mem Go.Sep
open Go.In
set_option maxRecDepth 1000000 in
theorem awake_run:(match callA env orcL 60 12 [] GL 4096 with|some (.bool b,_,_)=>b|_=>false)=true:=by kernel_rfl
theorem awake_fn:Dz 12 [] gl (fun v _=>v= .bool true):=by
 have h:=awake_run
 split at h
 · rename_i b M' k' hc
   subst h
   have hk:=(callA_ok (E:=env) orcL_ok 60 _ _ _ _ _ _ _ hc (Nat.le_refl _) (by simp only[bels]) GL_bel).does z0
   refine hk.mono fun u Γ' hu=>?_
   obtain⟨σ',_,rfl,_⟩:=hu
   simp only[val]
 ·cases h
end Go.Proofs.YtllalpnmagpkfaaGreatDoor
