/- The statement FleetNamesCardSaid: the law returns true for every input; the listed variable is tied to the program's text. Own text, after the guide's worked card. -/
import Derived.Test.YtihgdnjkofpgiaaGreatDoorCards
import Derived.Test.YtihgdnjkofpgiaaGreatDoorTie
import Derived.Test.YtihgdnjkofpgiaaGreatDoorDm
import Derived.Test.YtihgdnjkofpgiaaGreatDoorNm3
import Derived.Test.YtihgdnjkofpgiaaGreatDoorJnm
set_option linter.unusedVariables false
set_option linter.unusedSimpArgs false
namespace Go.Proofs.YtihgdnjkofpgiaaGreatDoor.namesDone
open Go.ChangeShapes Go.WideShapes Go.ChangeAt Go.RowKit Go.Flow Go.Mem Go.Sep
theorem own:ownKnob Tryz.prog.godebug=none:=by kernel_rfl
theorem laidOut:laidOutB Tryz.prog=true:=by kernel_rfl
theorem readable:∀t∈([25,3,3]:List TypeId),Tryz.prog.readableRec t=true∧t<Tryz.prog.types.size:=by
 intro t ht;simp only[aPi,aPm,aQo]at ht;rcases ht with rfl|rfl|rfl<;>exact⟨by kernel_rfl,aRn (by kernel_rfl)⟩
abbrev Ub:List (String×DataW Unit):=[("math/bits.deBruijn32tab",Rows.laid_math_bits_deBruijn32tab),("math/bits.deBruijn64tab",Rows.laid_math_bits_deBruijn64tab),("internal/strconv.uint64pow10",Rows.laid_internal_strconv_uint64pow10),("rootcause/digest.constants",Rows.laid_rootcause_digest_constants),("rootcause/lexer.words",Rows.laid_rootcause_lexer_words),("rootcause/lexer.symbols",Rows.laid_rootcause_lexer_symbols),("rootcause/syntax.shapes",Rows.laid_rootcause_syntax_shapes),("rootcause/syntax.forms",Rows.laid_rootcause_syntax_forms),("rootcause/code.rows",Rows.laid_rootcause_code_rows)]
theorem Yy(os:Os)(started:os.Started)(args:Array Value):laidMetH Tryz.prog Ub ((World.doorLaid Tryz.prog 124 os).forCall (fun _ _=>0) ⟨#[],args,[]⟩).memory:=
 aJ tie 124 started (by kernel_rfl) args
set_option maxRecDepth 100000 in
theorem lifted(os:Os)(started:os.Started)(H:Type)(ench:TypeId×Value→H):
    ReturnsInHanded {} Tryz.checked os 7 .any (fun w args=>(Rows.fleetNamesSpec.pre ench Tryz.prog Tryz.f7 [] false w args∧laidMetH Tryz.prog Ub w)∧sizedMet ench Tryz.prog Tryz.f7 (OpenSpec.ofChange Rows.fleetNamesSpec) false w args)
     (Rows.fleetNamesSpec.post ench Tryz.prog Tryz.f7 false true false false):=by
 refine returnsInHanded_of_change_and (C:=Tryz.checked) (X:=fun w _=>laidMetH Tryz.prog Ub w) (fun _ _ _ hh h=>h.of_heap hh) own started (by kernel_rfl) Tryz.func7
  (ChangeSpec.witness_shaped (enc:=ench) (C:=Tryz.checked) (os:=os) (X:=fun w _=>laidMetH Tryz.prog Ub w) false (World.doorLaid Tryz.prog 124 os) #[.agg #[ui 0,nz,nz],iv 0,iv 0] 8 rfl (World.shaped_of_RefB (by kernel_rfl) (by kernel_rfl)) (by kernel_rfl) (by kernel_rfl) (by kernel_rfl) (Yy os started _)) ?_
 intro W base args ds gs before hval0 hW _ hsz hL _;have hval:∀(j:Nat) t v,Tryz.f7.params[j]?=some t→args[j]?=some v→Value.okWide Tryz.prog W .any base t v:=hval0;have hW':=hW;obtain⟨p,q,hA0,hV,rfl,hfz,hnd⟩:=hW;have hA:DataW.TrodAll ench Tryz.prog W 0 (fun _=>true) true Tryz.f7.params.toList args.toList ds p:=hA0;rw[Tryz.params7]at hA hval;have hAll:=hA;obtain⟨v0,vs0,d0,ds0,p0,q0,hargs,rfl,rfl,h0,r0⟩:=trodAll_cons hA;obtain⟨v1,vs1,d1,ds1,p1,q1,rfl,rfl,rfl,h1,r1⟩:=trodAll_cons r0;obtain⟨v2,vs2,d2,ds2,p2,q2,rfl,rfl,rfl,h2,r2⟩:=trodAll_cons r1;obtain⟨rfl,rfl,rfl⟩:=trodAll_nil r2;obtain rfl:args=#[v0,v1,v2]:=by cases args;simp_all
 obtain⟨rfl,rfl⟩:=trodVars_none hV;clear hA hargs hA0 hval0;obtain⟨p0,rfl,hp,hkp⟩:=gY (hval 0 25 v0 rfl rfl) h0;obtain⟨c,rfl⟩:=okWide_int Tryz.underlying3 (hval 1 3 v1 rfl rfl);obtain⟨v,rfl⟩:=okWide_int Tryz.underlying3 (hval 2 3 v2 rfl rfl);refine Calls.mono (namesDone_law c v hp hkp (bI hL) (gZ hL)) fun e W' ⟨he,bel⟩=>?_;subst he;have bel:=bel.toBelow;exact⟨_,rfl,_,_,_,[],_,[],hW',trodAll_mk1 (shut_bool Tryz.underlying4 _),Qj laidOut bel readable hAll,rfl,bel.frame _,fun h=>by cases h⟩
theorem over:Rows.FleetNamesSaid:=
 OpenClaim.holds_of_wide 7 Tryz.f7 rfl rfl rfl rfl rfl rfl rfl ⟨rfl,rfl,rfl,rfl,rfl⟩ rfl rfl rfl rfl rfl (by kernel_rfl) Tryz.func7 fleetNamesFacts.closed
  (aRn (by kernel_rfl)) (by unfold Func.isWrapper;first|(rw[aPr (by decide+kernel)];kernel_rfl)|(rw[aPf (by decide+kernel)];exact⟨rfl,rfl⟩))
  (fun os started H ench _=>lifted os started H ench)
theorem proved:Rows.FleetNamesCardSaid:=
 Claim7.holds_tied_plain_at .later [] [.data, .data, .data, .data, .data, .data, .data, .data, .data] true (true, "a11fb97e6b7aa85e00328ad5d322f41e0d91ca1e59088c6878fb54f62f6b9fef") false
  over (fun _ h=>by cases h) (by kernel_rfl) (fun _ h=>by cases h) fleetNames_row_tie rfl ⟨rfl,rfl⟩ (by kernel_rfl) rfl
  (fun f fn hf hfn=>by
   obtain rfl:f=7:=aPq ((show Tryz.prog.funcNamed "rootcause/rootcauselaw13.FleetNames" =some 7 by kernel_rfl).symm.trans hf)|>.symm;obtain rfl:fn=Tryz.f7:=(aPq (Tryz.func7.symm.trans hfn)).symm;exact⟨by kernel_rfl,fun j t ht=>by
    rw[Tryz.params7]at ht;have hm:t∈[25,3,3]:=by simpa using Array.mem_of_getElem? ht
    have hall:([25,3,3].all fun u=> !Tryz.prog.wantsStandIn u)=true:=by kernel_rfl
    exact(show Tryz.prog.wantsStandIn t=false by simpa using aRd.1 hall t hm)⟩)
  (by kernel_rfl)
end Go.Proofs.YtihgdnjkofpgiaaGreatDoor.namesDone
