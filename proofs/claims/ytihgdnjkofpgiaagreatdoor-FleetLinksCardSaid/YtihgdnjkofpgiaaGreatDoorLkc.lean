/- The statement FleetLinksCardSaid: the law returns true for every input; the listed variable is tied to the program's text. Own text, after the guide's worked card. -/
import Derived.Test.YtihgdnjkofpgiaaGreatDoorCards
import Derived.Test.YtihgdnjkofpgiaaGreatDoorTie
import Derived.Test.YtihgdnjkofpgiaaGreatDoorDm
import Derived.Test.YtihgdnjkofpgiaaGreatDoorLk9
import Derived.Test.YtihgdnjkofpgiaaGreatDoorJlk
set_option linter.unusedVariables false
set_option linter.unusedSimpArgs false
namespace Go.Proofs.YtihgdnjkofpgiaaGreatDoor.linksDone
open Go.ChangeShapes Go.WideShapes Go.ChangeAt Go.RowKit Go.Flow Go.Mem Go.Sep
theorem own:ownKnob Tryz.prog.godebug=none:=by kernel_rfl
theorem laidOut:laidOutB Tryz.prog=true:=by kernel_rfl
theorem readable:∀t∈([25,3,3]:List TypeId),Tryz.prog.readableRec t=true∧t<Tryz.prog.types.size:=by
 intro t ht;simp only[aNx,aOe,aPh]at ht;rcases ht with rfl|rfl|rfl<;>exact⟨by kernel_rfl,aQn (by kernel_rfl)⟩
abbrev KN:List (String×DataW Unit):=[("math/bits.deBruijn32tab",Rows.laid_math_bits_deBruijn32tab),("math/bits.deBruijn64tab",Rows.laid_math_bits_deBruijn64tab),("internal/strconv.uint64pow10",Rows.laid_internal_strconv_uint64pow10),("rootcause/digest.constants",Rows.laid_rootcause_digest_constants),("rootcause/lexer.words",Rows.laid_rootcause_lexer_words),("rootcause/lexer.symbols",Rows.laid_rootcause_lexer_symbols),("rootcause/syntax.shapes",Rows.laid_rootcause_syntax_shapes),("rootcause/syntax.forms",Rows.laid_rootcause_syntax_forms),("rootcause/code.rows",Rows.laid_rootcause_code_rows)]
theorem XA(os:Os)(started:os.Started)(args:Array Value):laidMetH Tryz.prog KN ((World.doorLaid Tryz.prog 124 os).forCall (fun _ _=>0) ⟨#[],args,[]⟩).memory:=
 BN tie 124 started (by kernel_rfl) args
set_option maxRecDepth 100000 in
theorem lifted(os:Os)(started:os.Started)(H:Type)(ench:TypeId×Value→H):
    ReturnsInHanded {} Tryz.checked os 6 .any (fun w args=>(Rows.fleetLinksSpec.pre ench Tryz.prog Tryz.f6 [] false w args∧laidMetH Tryz.prog KN w)∧sizedMet ench Tryz.prog Tryz.f6 (OpenSpec.ofChange Rows.fleetLinksSpec) false w args)
     (Rows.fleetLinksSpec.post ench Tryz.prog Tryz.f6 false true false false):=by
 refine returnsInHanded_of_change_and (C:=Tryz.checked) (X:=fun w _=>laidMetH Tryz.prog KN w) (fun _ _ _ hh h=>h.of_heap hh) own started (by kernel_rfl) Tryz.func6
  (ChangeSpec.witness_shaped (enc:=ench) (C:=Tryz.checked) (os:=os) (X:=fun w _=>laidMetH Tryz.prog KN w) false (World.doorLaid Tryz.prog 124 os) #[.agg #[ui 0,nz,nz],iv 0,iv 0] 8 rfl (World.shaped_of_RefB (by kernel_rfl) (by kernel_rfl)) (by kernel_rfl) (by kernel_rfl) (by kernel_rfl) (XA os started _)) ?_
 intro W base args ds gs before hval0 hW _ hsz hL _;have hval:∀(j:Nat) t v,Tryz.f6.params[j]?=some t→args[j]?=some v→Value.okWide Tryz.prog W .any base t v:=hval0;have hW':=hW;obtain⟨p,q,hA0,hV,rfl,hfz,hnd⟩:=hW;have hA:DataW.TrodAll ench Tryz.prog W 0 (fun _=>true) true Tryz.f6.params.toList args.toList ds p:=hA0;rw[Tryz.params6]at hA hval;have hAll:=hA;obtain⟨v0,vs0,d0,ds0,p0,q0,hargs,rfl,rfl,h0,r0⟩:=trodAll_cons hA;obtain⟨v1,vs1,d1,ds1,p1,q1,rfl,rfl,rfl,h1,r1⟩:=trodAll_cons r0;obtain⟨v2,vs2,d2,ds2,p2,q2,rfl,rfl,rfl,h2,r2⟩:=trodAll_cons r1;obtain⟨rfl,rfl,rfl⟩:=trodAll_nil r2;obtain rfl:args=#[v0,v1,v2]:=by cases args;simp_all
 obtain⟨rfl,rfl⟩:=trodVars_none hV;clear hA hargs hA0 hval0;obtain⟨p0,rfl,hp,hkp⟩:=PX (hval 0 25 v0 rfl rfl) h0;obtain⟨a,rfl⟩:=okWide_int Tryz.underlying3 (hval 1 3 v1 rfl rfl);obtain⟨b,rfl⟩:=okWide_int Tryz.underlying3 (hval 2 3 v2 rfl rfl);refine Calls.mono (linksDone_law a b hp hkp (GK hL) (PY hL)) fun e W' ⟨he,bq⟩=>?_;subst he;have bq:=bq.toBelow;exact⟨_,rfl,_,_,_,[],_,[],hW',trodAll_mk1 (shut_bool Tryz.underlying4 _),Zd laidOut bq readable hAll,rfl,bq.frame _,fun h=>by cases h⟩
theorem over:Rows.FleetLinksSaid:=
 OpenClaim.holds_of_wide 6 Tryz.f6 rfl rfl rfl rfl rfl rfl rfl ⟨rfl,rfl,rfl,rfl,rfl⟩ rfl rfl rfl rfl rfl (by kernel_rfl) Tryz.func6 fleetLinksFacts.closed
  (aQn (by kernel_rfl)) (by unfold Func.isWrapper;first|(rw[aOn (by decide+kernel)];kernel_rfl)|(rw[aNy (by decide+kernel)];exact⟨rfl,rfl⟩))
  (fun os started H ench _=>lifted os started H ench)
theorem proved:Rows.FleetLinksCardSaid:=
 Claim7.holds_tied_plain_at .later [] [.data, .data, .data, .data, .data, .data, .data, .data, .data] true (true, "a11fb97e6b7aa85e00328ad5d322f41e0d91ca1e59088c6878fb54f62f6b9fef") false
  over (fun _ h=>by cases h) (by kernel_rfl) (fun _ h=>by cases h) fleetLinks_row_tie rfl ⟨rfl,rfl⟩ (by kernel_rfl) rfl
  (fun f fn hf hfn=>by
   obtain rfl:f=6:=aOj ((show Tryz.prog.funcNamed "rootcause/rootcauselaw13.FleetLinks" =some 6 by kernel_rfl).symm.trans hf)|>.symm;obtain rfl:fn=Tryz.f6:=(aOj (Tryz.func6.symm.trans hfn)).symm;exact⟨by kernel_rfl,fun j t ht=>by
    rw[Tryz.params6]at ht;have hm:t∈[25,3,3]:=by simpa using Array.mem_of_getElem? ht
    have hall:([25,3,3].all fun u=> !Tryz.prog.wantsStandIn u)=true:=by kernel_rfl
    exact(show Tryz.prog.wantsStandIn t=false by simpa using aPt.1 hall t hm)⟩)
  (by kernel_rfl)
end Go.Proofs.YtihgdnjkofpgiaaGreatDoor.linksDone
