/- Own text. -/
import Derived.LaidOnce
import Derived.LaidMore
import Derived.WideBlind
import Derived.Stop.Joined
set_option linter.unusedVariables false
namespace Go.Proofs.YtihgdnjkofpgiaaGreatDoor
open Go
theorem BN{P:Program}{l:List (String×DataW Unit)}{kinds:List LaidKind}{tests:Bool}(h:P.laidByTextLater l kinds tests)(n:Nat){os:Os}(ho:os.Started)
    (hd:varsDone P n (varsId P) os (fun _ _=>0)=true) (args:Array Value):
    laidMetH P l ((World.doorLaid P n os).forCall (fun _ _=>0) ⟨#[],args,[]⟩).memory:=by
 obtain⟨_,g,code,stored,hg,_,_,_,hr⟩:=h;have eg:varsId P=g:=Option.some.inj ((varsId_spec (by rw[hg];rfl)).symm.trans hg);obtain⟨m,v,w',hrun,hl⟩:=hr os (fun _ _=>0) ho;unfold varsDone at hd;split at hd
 · rename_i v2 w2 hw
   rw[eg]at hw;have ew:w2=w':=(WideBlind.runN_same' hw hrun).2;refine laidMetH.of_heap ?_ hl;show w'.heap=(World.doorLaid P n os).heap;unfold World.doorLaid varsWorld;rw[eg,hw,ew]
 ·cases hd
end Go.Proofs.YtihgdnjkofpgiaaGreatDoor
