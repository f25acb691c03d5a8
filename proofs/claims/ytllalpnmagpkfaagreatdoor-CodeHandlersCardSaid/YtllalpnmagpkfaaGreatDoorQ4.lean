/- Own text. -/
import Derived.Test.YtllalpnmagpkfaaGreatDoorA18
import Derived.Test.YtllalpnmagpkfaaGreatDoorGa
set_option linter.unusedVariables false
set_option linter.unusedSimpArgs false
namespace Go.Proofs.YtllalpnmagpkfaaGreatDoor
open Go.Proofs.Tryz
open Go.RowKit Go.Flow Go.Mem Go.Sep Go.In
open Go.In
def nmsL:List (List Nat):=[[120,48],[120,49],[120,50],[112,48],[112,49],[102,48],[102,49],[104,48],[104,49],[104,50],[98,48],[116,48],[97],[98],[99],[102,108,101,101,116,49]]
noncomputable def isnA(t:List Nat):Bool:=match callA env noO 30 113 [.str t] GL 4096 with
 |some (.bool b,_,_)=>b
 |_=>false
set_option maxRecDepth 1000000 in
theorem isn_all:nmsL.all isnA=true:=by kernel_rfl
theorem isn_fn{t:List Nat}(h:isnA t=true):Dz 113 [.string (bytesOf t)] gl (fun v _=>v= .bool true):=by
 unfold isnA at h
 split at h
 ·rename_i b M' k' hc;subst h;have:=known1 hc rfl;simp only[val]at this;exact this
 ·cases h
def isNm(s:ByteArray):Prop:=∃t∈nmsL,s=bytesOf t
theorem isname_fn{s:ByteArray}(h:isNm s):Dz 113 [.string s] gl (fun v _=>v= .bool true):=by
 obtain⟨t,ht,rfl⟩:=h
 exact isn_fn (List.all_eq_true.1 isn_all t ht)
theorem isNm_x{k:Nat}(h:k<3):isNm (nm 120 k):=by
 match k,h with
 |0,_=>exact⟨_,(by decide:[120,48]∈nmsL),rfl⟩
 |1,_=>exact⟨_,(by decide:[120,49]∈nmsL),rfl⟩
 |2,_=>exact⟨_,(by decide:[120,50]∈nmsL),rfl⟩
theorem isNm_p{k:Nat}(h:k<2):isNm (nm 112 k):=by
 match k,h with
 |0,_=>exact⟨_,(by decide:[112,48]∈nmsL),rfl⟩
 |1,_=>exact⟨_,(by decide:[112,49]∈nmsL),rfl⟩
theorem isNm_f{k:Nat}(h:k<2):isNm (nm 102 k):=by
 match k,h with
 |0,_=>exact⟨_,(by decide:[102,48]∈nmsL),rfl⟩
 |1,_=>exact⟨_,(by decide:[102,49]∈nmsL),rfl⟩
theorem isNm_h{k:Nat}(h:k<3):isNm (nm 104 k):=by
 match k,h with
 |0,_=>exact⟨_,(by decide:[104,48]∈nmsL),rfl⟩
 |1,_=>exact⟨_,(by decide:[104,49]∈nmsL),rfl⟩
 |2,_=>exact⟨_,(by decide:[104,50]∈nmsL),rfl⟩
theorem isNm_c{k:Nat}(h:k<3):isNm (nC k):=by
 match k,h with
 |0,_=>exact⟨_,(by decide:[97]∈nmsL),rfl⟩
 |1,_=>exact⟨_,(by decide:[98]∈nmsL),rfl⟩
 |2,_=>exact⟨_,(by decide:[99]∈nmsL),rfl⟩
theorem isNm_b0:isNm nB0:=⟨_,(by decide:[98,48]∈nmsL),rfl⟩
theorem isNm_t0:isNm nT0:=⟨_,(by decide:[116,48]∈nmsL),rfl⟩
theorem isNm_fl:isNm (bytesOf [102,108,101,101,116,49]):=⟨_,(by decide:[102,108,101,101,116,49]∈nmsL),rfl⟩
end Go.Proofs.YtllalpnmagpkfaaGreatDoor
