/- The statement ExecStatementsCardSaid: the law returns true for every input; the listed variable is tied to the program's text. Own text, after the guide's worked card. -/
import Derived.Test.YtlihklladkagpaaGreatDoorCards
import Derived.Test.YtlihklladkagpaaGreatDoorTie
import Derived.Stop.Joined
import Derived.Test.YtlihklladkagpaaGreatDoorEd
import Derived.Test.YtlihklladkagpaaGreatDoorJs
set_option linter.unusedVariables false
set_option linter.unusedSimpArgs false
namespace Go.Proofs.YtlihklladkagpaaGreatDoor.exstatDone
open Go.ChangeShapes Go.WideShapes Go.ChangeAt Go.RowKit Go.Flow Go.Mem Go.Sep
theorem own:ownKnob Tryz.prog.godebug=none:=by kernel_rfl
theorem laidOut:laidOutB Tryz.prog=true:=by kernel_rfl
theorem readable:∀t∈([25,27,31]:List TypeId),Tryz.prog.readableRec t=true∧t<Tryz.prog.types.size:=by
 intro t ht
 simp only[aEi,aEs,or_false]at ht
 rcases ht with rfl|rfl|rfl<;>exact⟨by kernel_rfl,aGc (by kernel_rfl)⟩
abbrev CX:List (String×DataW Unit):=[("math/bits.deBruijn32tab",Rows.laid_math_bits_deBruijn32tab),("math/bits.deBruijn64tab",Rows.laid_math_bits_deBruijn64tab),("internal/strconv.uint64pow10",Rows.laid_internal_strconv_uint64pow10),("rootcause/lexer.words",Rows.laid_rootcause_lexer_words),("rootcause/lexer.symbols",Rows.laid_rootcause_lexer_symbols),("rootcause/syntax.shapes",Rows.laid_rootcause_syntax_shapes),("rootcause/syntax.forms",Rows.laid_rootcause_syntax_forms),("rootcause/code.rows",Rows.laid_rootcause_code_rows)]
theorem PN(os:Os)(args:Array Value):laidMetH Tryz.prog CX ((World.doorLaid Tryz.prog 119 os).forCall (fun _ _=>0) ⟨#[],args,[]⟩).memory:=
 laidMetH_of_parts3 (fuel:=8) (laidMet_of_run' 8 (by kernel_rfl) (by kernel_rfl)) (by kernel_rfl) (by kernel_rfl)
set_option maxRecDepth 100000 in
theorem lifted(os:Os)(started:os.Started)(H:Type)(ench:TypeId×Value→H):
    ReturnsInHanded {} Tryz.checked os 5 .any (fun w args=>(Rows.execStatementsSpec.pre ench Tryz.prog Tryz.f5 [] false w args∧laidMetH Tryz.prog CX w)∧sizedMet ench Tryz.prog Tryz.f5 (OpenSpec.ofChange Rows.execStatementsSpec) false w args)
     (Rows.execStatementsSpec.post ench Tryz.prog Tryz.f5 false true false false):=by
 refine returnsInHanded_of_change_and (C:=Tryz.checked) (X:=fun w _=>laidMetH Tryz.prog CX w) (fun _ _ _ hh h=>h.of_heap hh) own started (by kernel_rfl) Tryz.func5
  (ChangeSpec.witness_shaped (enc:=ench) (C:=Tryz.checked) (os:=os) (X:=fun w _=>laidMetH Tryz.prog CX w) false (World.doorLaid Tryz.prog 119 os) #[.agg #[.int .u8 0, .slice none 0 0, .slice none 0 0], .agg #[.int .u8 0, .int .u8 0, .int .u8 0], .agg #[.slice none 0 0, .slice none 0 0, .slice none 0 0, .slice none 0 0, .int .i64 0, .int .u8 0, .int .u8 0, .slice none 0 0]] 8 rfl (World.shaped_of_RefB (by kernel_rfl) (by kernel_rfl)) (by kernel_rfl) (by kernel_rfl) (by kernel_rfl) (PN os _)) ?_
 intro W base args ds gs before hval0 hW _ hsz hL _
 have hval:∀(j:Nat) t v,Tryz.f5.params[j]?=some t→args[j]?=some v→Value.okWide Tryz.prog W .any base t v:=hval0
 have hW':=hW
 obtain⟨p,q,hA0,hV,rfl,hfz,hnd⟩:=hW
 have hA:DataW.TrodAll ench Tryz.prog W 0 (fun _=>true) true Tryz.f5.params.toList args.toList ds p:=hA0
 rw[Tryz.params5]at hA hval
 have hAll:=hA
 obtain⟨v0,vs0,d0,ds0,p0,q0,hargs,rfl,rfl,h0,r0⟩:=trodAll_cons hA
 obtain⟨v1,vs1,d1,ds1,p1,q1,rfl,rfl,rfl,h1,r1⟩:=trodAll_cons r0
 obtain⟨v2,vs2,d2,ds2,p2,q2,rfl,rfl,rfl,h2,r2⟩:=trodAll_cons r1
 obtain⟨rfl,rfl,rfl⟩:=trodAll_nil r2
 obtain rfl:args=#[v0,v1,v2]:=by cases args;simp_all
 obtain⟨rfl,rfl⟩:=trodVars_none hV
 clear hA hargs hA0 hval0
 obtain⟨p0,rfl,hp,hkp⟩:=IL (hval 0 25 v0 rfl rfl) h0
 obtain⟨a1,a2,a3,rfl,hb1,hb2,hb3⟩:=yX (hval 1 27 v1 rfl rfl) h1
 obtain⟨x2,rfl,k2,f2,r20,r21,r22,r23,r24⟩:=yV (hval 2 31 v2 rfl rfl) h2
 refine Calls.mono (aKl hp hb1 hb2 hb3 k2 f2 hkp r20 r21 r22 r23 r24 (yU hL) (IM hL)) fun e W' ⟨he,bel⟩=>?_
 subst he
 have bel:=bel.toBelow
 exact⟨_,rfl,_,_,_,[],_,[],hW',trodAll_mk1 (shut_bool Tryz.underlying4 _),Xn laidOut bel readable hAll,rfl,bel.frame _,fun h=>by cases h⟩
theorem over:Rows.ExecStatementsSaid:=
 OpenClaim.holds_of_wide 5 Tryz.f5 rfl rfl rfl rfl rfl rfl rfl ⟨rfl,rfl,rfl,rfl,rfl⟩ rfl rfl rfl rfl rfl (by kernel_rfl) Tryz.func5 execStatementsFacts.closed
  (aGc (by kernel_rfl)) (by unfold Func.isWrapper;first|(rw[aEh (by decide+kernel)];kernel_rfl)|(rw[aEa (by decide+kernel)];exact⟨rfl,rfl⟩))
  (fun os started H ench _=>lifted os started H ench)
theorem proved:Rows.ExecStatementsCardSaid:=
 Claim7.holds_tied_plain_at .later [] [.data, .data, .data, .data, .data, .data, .data, .data] true (true, "7d4bd22da186cb4749c7edcb3af40e64ec0d7326190819c5c882e21dd7e74d57") false
  over (fun _ h=>by cases h) (by kernel_rfl) (fun _ h=>by cases h) execStatements_row_tie rfl ⟨rfl,rfl⟩ (by kernel_rfl) rfl
  (fun f fn hf hfn=>by
   obtain rfl:f=5:=aEn ((show Tryz.prog.funcNamed "rootcause/rootcauselaw12.ExecStatements" =some 5 by kernel_rfl).symm.trans hf)|>.symm
   obtain rfl:fn=Tryz.f5:=(aEn (Tryz.func5.symm.trans hfn)).symm
   exact⟨by kernel_rfl,fun j t ht=>by
    rw[Tryz.params5]at ht
    have hm:t∈[25,27,31]:=by simpa using Array.mem_of_getElem? ht
    have hall:([25,27,31].all fun u=> !Tryz.prog.wantsStandIn u)=true:=by kernel_rfl
    exact(show Tryz.prog.wantsStandIn t=false by simpa using aGg.1 hall t hm)⟩)
  (by kernel_rfl)
end Go.Proofs.YtlihklladkagpaaGreatDoor.exstatDone
