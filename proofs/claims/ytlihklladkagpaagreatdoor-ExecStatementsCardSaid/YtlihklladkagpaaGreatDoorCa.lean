/- Own text. -/
import Derived.Test.YtlihklladkagpaaGreatDoorT
set_option linter.unusedVariables false
set_option linter.unusedSimpArgs false
set_option maxHeartbeats 2000000
set_option maxRecDepth 100000
namespace Go.Proofs.YtlihklladkagpaaGreatDoor
open Go.Proofs.Tryz
open Go.RowKit Go.Flow Go.Mem Go.Sep
def aLz(n:Int):List Value:=[iv n]
instance Cy:Enc aLz 1:=⟨fun _=>rfl,fun x u hu=>by simp[aLz]at hu;subst hu;rfl⟩
def Qv(b:Bool):List Value:=[.bool b]
instance oW:Enc Qv 1:=⟨fun _=>rfl,fun x u hu=>by simp[Qv]at hu;subst hu;rfl⟩
structure Ins where
 op:Nat
 a:Int
 b:Int
 n:Int
deriving DecidableEq
def Ins.cells(e:Ins):List Value:=[.int .u8 ((e.op:Nat):Int),iv e.a,iv e.b,iv e.n]
instance Zp:Enc Ins.cells 4:=⟨fun _=>rfl,fun e u hu=>by
 simp only[Ins.cells,aEi,aEs,or_false]at hu
 rcases hu with rfl|rfl|rfl|rfl<;>rfl⟩
def Be(e:Int×Int):List Value:=[iv e.1,iv e.2]
instance Eu:Enc Be 2:=⟨fun _=>rfl,fun e u hu=>by
 simp only[Be,aEi,aEs,or_false]at hu
 rcases hu with rfl|rfl<;>rfl⟩
structure Tb where
 A:OA
 q:Nat
 l:List (Int×Int)
def Tb.cells(e:Tb):List Value:=[.slice e.A e.l.length e.q]
instance Nf:Enc Tb.cells 1:=⟨fun _=>rfl,fun e u hu=>by
 simp only[Tb.cells,aEi,aEs,or_false]at hu
 subst hu;rfl⟩
def Tb.ar(e:Tb):OA×List (Int×Int):=(e.A,e.l)
structure Ef where
 k:Int
 to:Int
 h:Int
 d:Int
 key:Int
 v:Int
 f:Bool
 A:OA
 q:Nat
 args:List Int
def Ef.cells(e:Ef):List Value:=[.int .u8 e.k,iv e.to,iv e.h,iv e.d,iv e.key,iv e.v, .bool e.f, .slice e.A e.args.length e.q]
instance Zq:Enc Ef.cells 8:=⟨fun _=>rfl,fun e u hu=>by
 simp only[Ef.cells,aEi,aEs,or_false]at hu
 rcases hu with rfl|rfl|rfl|rfl|rfl|rfl|rfl|rfl<;>rfl⟩
def Ef.ar(e:Ef):OA×List Int:=(e.A,e.args)
def tgt(i:Ins):Option Int:=if(i.op:Int)=27∨(i.op:Int)=28 then some i.a else if(i.op:Int)=32∨(i.op:Int)=33 then some i.b else none
theorem JU(x:Ins):
    Dz 97 [.agg (Ins.cells x).toArray] [] (fun v _=>v= .tuple #[iv ((tgt x).getD 0), .bool (tgt x).isSome]):=by
 refine Am func97 ntmps97 fun w0=>?_
 refine Js (To.g (Jbo fun b1=>?_))
 refine Jz 19 ?_
 refine Jcp rfl ?_ ?_<;>intro k6
 refine Jsp (Jt (Gm (congrArg (fun b=>some (Value.bool b)) (aEk k6)) (Jz 11 ?_)))
 refine Gc (.inl rfl) results97 rfl rfl ?_
 simp[tgt,k6]
 refine Jz 5 ?_
 refine Jcp rfl ?_ ?_<;>intro k6_2
 refine Jz 11 ?_
 refine Gc (.inl rfl) results97 rfl rfl ?_
 simp[tgt,k6_2]
 refine Jz 7 ?_
 refine Jcp rfl ?_ ?_<;>intro k11
 refine Jsp (Jt (Gm (congrArg (fun b=>some (Value.bool b)) (aEk k11)) (Jz 11 ?_)))
 refine Gc (.inl rfl) results97 rfl rfl ?_
 simp[tgt,k11]
 refine Jz 5 ?_
 refine Jcp rfl ?_ ?_<;>intro k11_2
 refine Jz 11 ?_
 refine Gc (.inl rfl) results97 rfl rfl ?_
 simp[tgt,k11_2]
 refine Jz 10 ?_
 refine Gc (.inl rfl) results97 rfl rfl ?_
 simp[tgt,k6,k6_2,k11,k11_2]
structure Rw where
 text:ByteArray
 uses:ByteArray
 pops:Int
 pushes:Int
def Rw.cells(e:Rw):List Value:=[.string e.text, .string e.uses,iv e.pops,iv e.pushes]
instance UV:Enc Rw.cells 4:=⟨fun _=>rfl,fun e u hu=>by
 simp only[Rw.cells,aEi,aEs,or_false]at hu
 rcases hu with rfl|rfl|rfl|rfl<;>rfl⟩
def Uf:List Rw:=[⟨⟨#[]⟩,⟨#[]⟩,0,0⟩,⟨⟨#[99,111,110,115,116]⟩,⟨#[78]⟩,0,1⟩,⟨⟨#[118,97,114]⟩,⟨#[65]⟩,0,1⟩,⟨⟨#[112,97,114,97,109]⟩,⟨#[65]⟩,0,1⟩,⟨⟨#[102,108,97,103]⟩,⟨#[65]⟩,0,1⟩,⟨⟨#[110,111,119]⟩,⟨#[]⟩,0,1⟩,⟨⟨#[103,101,116]⟩,⟨#[65]⟩,1,1⟩,⟨⟨#[104,97,115]⟩,⟨#[65]⟩,1,1⟩,⟨⟨#[115,105,122,101]⟩,⟨#[65]⟩,0,1⟩,⟨⟨#[110,101,103]⟩,⟨#[]⟩,1,1⟩,⟨⟨#[110,111,116]⟩,⟨#[]⟩,1,1⟩,⟨⟨#[109,117,108]⟩,⟨#[]⟩,2,1⟩,⟨⟨#[100,105,118]⟩,⟨#[]⟩,2,1⟩,⟨⟨#[109,111,100]⟩,⟨#[]⟩,2,1⟩,⟨⟨#[97,100,100]⟩,⟨#[]⟩,2,1⟩,⟨⟨#[115,117,98]⟩,⟨#[]⟩,2,1⟩,⟨⟨#[101,113]⟩,⟨#[]⟩,2,1⟩,⟨⟨#[110,101]⟩,⟨#[]⟩,2,1⟩,⟨⟨#[108,116]⟩,⟨#[]⟩,2,1⟩,⟨⟨#[108,101]⟩,⟨#[]⟩,2,1⟩,⟨⟨#[103,116]⟩,⟨#[]⟩,2,1⟩,⟨⟨#[103,101]⟩,⟨#[]⟩,2,1⟩,⟨⟨#[97,110,100]⟩,⟨#[]⟩,2,1⟩,⟨⟨#[111,114]⟩,⟨#[]⟩,2,1⟩,⟨⟨#[115,101,116,118,97,114]⟩,⟨#[65]⟩,1,0⟩,⟨⟨#[112,117,116]⟩,⟨#[65]⟩,2,0⟩,⟨⟨#[100,101,108,101,116,101]⟩,⟨#[65]⟩,1,0⟩,⟨⟨#[106,117,109,112]⟩,⟨#[65]⟩,0,0⟩,⟨⟨#[98,114,97,110,99,104]⟩,⟨#[65]⟩,1,0⟩,⟨⟨#[99,111,115,116]⟩,⟨#[]⟩,0,0⟩,⟨⟨#[115,101,110,100]⟩,⟨#[65,66,78]⟩,0,0⟩,⟨⟨#[97,102,116,101,114]⟩,⟨#[66,78]⟩,1,0⟩,⟨⟨#[115,116,111,114,101]⟩,⟨#[66]⟩,2,0⟩,⟨⟨#[102,101,116,99,104]⟩,⟨#[65,66]⟩,1,0⟩,⟨⟨#[115,116,111,112]⟩,⟨#[]⟩,0,0⟩]
def rowOf(o:Nat):Rw:=Uf.getD o ⟨⟨#[]⟩,⟨#[]⟩,0,0⟩
theorem JV{o:Nat}(h:o≤34):Uf[o]?=some (rowOf o):=by
 have hl:o<Uf.length:=by show o<35;omega
 rw[rowOf,aEx,gge hl];rfl
theorem zW{o:Nat}(h:¬o≤34):rowOf o=⟨⟨#[]⟩,⟨#[]⟩,0,0⟩:=by
 rw[rowOf,aEx,List.getElem?_eq_none (by show 35≤o;omega)];rfl
theorem iI(o:Nat):0≤(rowOf o).pops∧(rowOf o).pops≤2∧0≤(rowOf o).pushes∧(rowOf o).pushes≤1:=by
 by_cases h:o≤34
 · have hl:o<Uf.length:=by show o<35;omega
   have e:rowOf o=Uf[o]:=by have:=JV h;rw[gge hl]at this;exact(aEn this).symm
   have all:∀r∈Uf,0≤r.pops∧r.pops≤2∧0≤r.pushes∧r.pushes≤1:=by decide
   rw[e];exact all _ (List.getElem_mem hl)
 ·rw[zW h];decide
def Og(o:Nat)(c:Int):Bool:=decide (0≤Lib.indexByte (rowOf o).uses.data.toList c.toNat.toUInt8)
abbrev Kn:Ai:=ros Rw.cells (some ⟨0,0,none⟩) Uf
theorem JW(o:Nat):
    Dz 99 [.int .u8 ((o:Nat):Int)] [Kn] (fun v Γ'=>v= .agg (Rw.cells (rowOf o)).toArray∧Γ'=[]):=by
 refine Am func99 ntmps99 fun w0=>?_
 refine Js (To.g (Jal fun b2=>?_))
 refine Jz 9 ?_
 refine Jcp rfl ?_ ?_<;>intro c4
 refine Js (To.g (Jr (.bd [.string bE, .string bE,iv 0,iv 0]) ?_))
 refine Jz 5 ?_
 refine Gf [] results99 ?_
 exact⟨by rw[zW om];rfl,rfl⟩
 refine Jz 5 ?_
 refine Jr (Ir (j:=o) rfl (Sn.of (size:=4) underlying306 (by kernel_rfl)) rfl rfl om) ?_
 refine Jr (Ij (i:=1) rfl rfl aDh rfl (rsg UV (A:=some ⟨0,0,none⟩) (JV (o:=o) om)) (UV.len _)) ?_
 refine Jz 4 ?_
 refine Gf [] results99 ?_
 exact⟨rfl,rfl⟩
theorem WW(s:ByteArray)(c:Int):
    Dz 184 [.string s, .int .u8 c] [] (fun v _=>v=iv (Lib.indexByte s.data.toList c.toNat.toUInt8)):=by
 refine Am func184 ntmps184 fun w0=>?_
 refine Jz 9 ?_
 refine Jr (Rd.indexByte rfl func207 (by kernel_rfl) (by kernel_rfl) (by kernel_rfl) (by kernel_rfl) rfl rfl) ?_
 refine Jz 4 ?_
 refine Je1 results184 ?_
 rfl
theorem aAv(s:ByteArray)(c:Int):
    Dz 151 [.string s, .int .u8 c] [] (fun v _=>v=iv (Lib.indexByte s.data.toList c.toNat.toUInt8)):=by
 refine Am func151 ntmps151 fun w0=>?_
 refine Jz 9 ?_
 refine Jvf (WW s c) rfl (ocn _) ?_
 refine Jz 4 ?_
 refine Je1 results151 ?_
 rfl
theorem Ug(o:Nat)(c:Int):
    Dz 96 [.int .u8 ((o:Nat):Int), .int .u8 c] [Kn] (fun v _=>v= .bool (Og o c)):=by
 refine Am func96 ntmps96 fun w0=>?_
 refine Jz 8 ?_
 refine Jvf ((JW o).mono (R':=fun v _=>v= .agg (Rw.cells (rowOf o)).toArray) (fun _ _ h=>h.1)) rfl (ocs (oca 0 rfl) (ocn _)) ?_
 refine Jr (DV (vs:=Rw.cells (rowOf o)) rfl underlying255 rfl underlying9 rfl rfl rfl) ?_
 refine Jm ?_
 refine Jvf (aAv ((rowOf o).uses) c) rfl (ocn _) ?_
 refine Jz 5 ?_
 refine Je1 results96 ?_
 rfl
def Gn(pr:Int)(nc:Nat)(x:Ins):Bool:=
 decide (1≤(x.op:Int))&&decide ((x.op:Int)≤34)&& !(!Og x.op 65&&decide (x.a≠0))&& !(!Og x.op 66&&decide (x.b≠0))&& !(!Og x.op 78&&decide (x.n≠0))&&
 !((tgt x).isSome&&(decide ((tgt x).getD 0<0)||decide (((nc:Nat):Int)<(tgt x).getD 0)))&&
 (if(x.op:Int)=27∨(x.op:Int)=28∨(x.op:Int)=32 then true else if(x.op:Int)=3 then decide (0≤x.a)&&decide (x.a<pr)else
  if((x.op:Int)=30∨(x.op:Int)=31)∧(x.b<0∨63<x.b∨x.n<0∨4<x.n)then false else decide (0≤x.a)&&decide (x.a≤63))
theorem Gs(pr:Int)(l:List Ins)(x:Ins):Gn pr l.length x=(!((decide (((x.op:Nat):Int)<1))||decide (34<((x.op:Nat):Int)))&&(!((!Og x.op 65&&decide (x.a≠0))||((!Og x.op 66&&decide (x.b≠0))||(!Og x.op 78&&decide (x.n≠0))))&&(!((tgt x).isSome&&(decide ((tgt x).getD 0<0)||decide (((l.length:Nat):Int)<(tgt x).getD 0)))&&(if(x.op:Int)=27∨(x.op:Int)=28∨(x.op:Int)=32 then true else if(x.op:Int)=3 then decide (0≤x.a)&&decide (x.a<pr)else if((x.op:Int)=30∨(x.op:Int)=31)∧(x.b<0∨63<x.b∨x.n<0∨4<x.n)then false else decide (0≤x.a)&&decide (x.a≤63))))):=by
 have e1:decide (1≤((x.op:Nat):Int))=!decide (((x.op:Nat):Int)<1):=by rw[←decide_not];exact decide_eq_decide.2 om
 have e2:decide (((x.op:Nat):Int)≤34)=!decide (34<((x.op:Nat):Int)):=by rw[←decide_not];exact decide_eq_decide.2 om
 unfold Gn
 rw[e1,e2]
 generalize (if(x.op:Int)=27∨(x.op:Int)=28∨(x.op:Int)=32 then true else if(x.op:Int)=3 then decide (0≤x.a)&&decide (x.a<pr)else if((x.op:Int)=30∨(x.op:Int)=31)∧(x.b<0∨63<x.b∨x.n<0∨4<x.n)then false else decide (0≤x.a)&&decide (x.a≤63))=z
 generalize Og x.op 65=u1
 generalize Og x.op 66=u2
 generalize Og x.op 78=u3
 generalize decide (x.a≠0)=v1
 generalize decide (x.b≠0)=v2
 generalize decide (x.n≠0)=v3
 generalize (tgt x).isSome=u4
 generalize decide ((tgt x).getD 0<0)=u5
 generalize decide (((l.length:Nat):Int)<(tgt x).getD 0)=u6
 generalize decide (((x.op:Nat):Int)<1)=u7
 generalize decide (34<((x.op:Nat):Int))=u8
 simp only[Bool.not_or,Bool.not_and,Bool.not_not,Bool.and_assoc]
theorem EF(pr st:Int)(A:OA)(q:Nat)(l:List Ins)(x:Ins):
    Dz 59 [.agg #[iv pr,iv st, .slice A l.length q], .agg (Ins.cells x).toArray] [Kn] (fun v _=>v= .bool (Gn pr l.length x)):=by
 refine Am func59 ntmps59 fun w0=>?_
 refine Js (To.g (Jbo fun b2=>?_))
 refine Jbo fun b3=>?_
 refine Jz 6 ?_
 refine cK (T:=Bool) (fun t=>([(2,pv b2),(3,pv b3),(4, .bool false),(14, .bool t)],[box b3 [.int .u8 ((x.op:Nat):Int),iv x.a,iv x.b,iv x.n] 116,box b2 [iv pr,iv st, .slice A l.length q] 43,Kn])) (fun t=>t=((decide (((x.op:Nat):Int)<1))||decide (34<((x.op:Nat):Int)))) ?_ (fun t ht=>?_)
 refine Jz 3 ?_
 refine JgP ?_ ?_<;>intro g10
 refine Jz 6 ?_
 refine Ce [0,0,0] rfl (Jhe true (by simp[g10]) sb rfl)
 refine Jz 6 ?_
 refine Ce [0,0,0] rfl (Jhe (decide (34<((x.op:Nat):Int))) (by simp[g10]) sb rfl)
 subst ht
 dsimp only
 refine Ed rfl ?_ ?_<;>intro k14
 refine Jz 7 ?_
 refine Je1 results59 ?_
 refine congrArg Value.bool ?_
 rw[Gs,k14];rfl
 refine Jz 5 ?_
 refine cK (T:=Bool) (fun t=>([(2,pv b2),(3,pv b3),(4, .bool false),(45, .bool t)],[box b3 [.int .u8 ((x.op:Nat):Int),iv x.a,iv x.b,iv x.n] 116,box b2 [iv pr,iv st, .slice A l.length q] 43,Kn])) (fun t=>t=((!Og x.op 65&&decide (x.a≠0))||((!Og x.op 66&&decide (x.b≠0))||(!Og x.op 78&&decide (x.n≠0))))) ?_ (fun t ht=>?_)
 refine Jz 2 ?_
 refine Jvf (Ug x.op 65) rfl (ocs (oca 2 rfl) (ocn _)) ?_
 refine Jnt ?_
 refine JgB ?_ ?_<;>intro g19
 refine Jz 4 ?_
 refine JgP ?_ ?_<;>intro g24
 refine Jz 23 ?_
 refine Ce [0,0,0] rfl (Jhe true (by simp[g19,g24]) sb rfl)
 refine Jz 2 ?_
 refine Jvf (Ug x.op 66) rfl (ocs (oca 2 rfl) (ocn _)) ?_
 refine Jnt ?_
 refine JgB ?_ ?_<;>intro g29
 refine Jz 5 ?_
 refine JgP ?_ ?_<;>intro g35
 refine Jz 12 ?_
 refine Ce [0,0,0] rfl (Jhe true (by simp[g19,g24,g29,g35]) sb rfl)
 refine Jz 2 ?_
 refine Jvf (Ug x.op 78) rfl (ocs (oca 2 rfl) (ocn _)) ?_
 refine Jnt ?_
 refine JgB ?_ ?_<;>intro g40
 refine Jz 7 ?_
 refine Ce [0,0,0] rfl (Jhe (decide (x.n≠0)) (by simp[g19,g24,g29,g35,g40]) sb rfl)
 refine Jz 7 ?_
 refine Ce [0,0,0] rfl (Jhe false (by simp[g19,g24,g29,g35,g40]) sb rfl)
 refine Jz 8 ?_
 refine Jvf (Ug x.op 78) rfl (ocs (oca 2 rfl) (ocn _)) ?_
 refine Jnt ?_
 refine JgB ?_ ?_<;>intro g40
 refine Jz 7 ?_
 refine Ce [0,0,0] rfl (Jhe (decide (x.n≠0)) (by simp[g19,g24,g29,g40]) sb rfl)
 refine Jz 7 ?_
 refine Ce [0,0,0] rfl (Jhe false (by simp[g19,g24,g29,g40]) sb rfl)
 refine Jz 7 ?_
 refine Jvf (Ug x.op 66) rfl (ocs (oca 2 rfl) (ocn _)) ?_
 refine Jnt ?_
 refine JgB ?_ ?_<;>intro g29
 refine Jz 5 ?_
 refine JgP ?_ ?_<;>intro g35
 refine Jz 12 ?_
 refine Ce [0,0,0] rfl (Jhe true (by simp[g19,g29,g35]) sb rfl)
 refine Jz 2 ?_
 refine Jvf (Ug x.op 78) rfl (ocs (oca 2 rfl) (ocn _)) ?_
 refine Jnt ?_
 refine JgB ?_ ?_<;>intro g40
 refine Jz 7 ?_
 refine Ce [0,0,0] rfl (Jhe (decide (x.n≠0)) (by simp[g19,g29,g35,g40]) sb rfl)
 refine Jz 7 ?_
 refine Ce [0,0,0] rfl (Jhe false (by simp[g19,g29,g35,g40]) sb rfl)
 refine Jz 8 ?_
 refine Jvf (Ug x.op 78) rfl (ocs (oca 2 rfl) (ocn _)) ?_
 refine Jnt ?_
 refine JgB ?_ ?_<;>intro g40
 refine Jz 7 ?_
 refine Ce [0,0,0] rfl (Jhe (decide (x.n≠0)) (by simp[g19,g29,g40]) sb rfl)
 refine Jz 7 ?_
 refine Ce [0,0,0] rfl (Jhe false (by simp[g19,g29,g40]) sb rfl)
 subst ht
 dsimp only
 refine Ed rfl ?_ ?_<;>intro k45
 refine Jz 7 ?_
 refine Je1 results59 ?_
 refine congrArg Value.bool ?_
 rw[Gs,k14,k45];rfl
 refine Jz 6 ?_
 refine Jvf (JU x) rfl (ocn _) ?_
 refine Jz 9 ?_
 refine cK (T:=Bool) (fun t=>([(2,pv b2),(3,pv b3),(4, .bool false),(62, .bool t)],[box b3 [.int .u8 ((x.op:Nat):Int),iv x.a,iv x.b,iv x.n] 116,box b2 [iv pr,iv st, .slice A l.length q] 43,Kn])) (fun t=>t=((tgt x).isSome&&(decide ((tgt x).getD 0<0)||decide (((l.length:Nat):Int)<(tgt x).getD 0)))) ?_ (fun t ht=>?_)
 refine Jm ?_
 refine JgB ?_ ?_<;>intro g52
 refine Jz 2 ?_
 refine JgP ?_ ?_<;>intro g55
 refine Jz 9 ?_
 refine Ce [0,0,0] rfl (Jhe true (by simp[g52,g55]) sb rfl)
 refine Jz 9 ?_
 refine Ce [0,0,0] rfl (Jhe (decide (((l.length:Nat):Int)<((tgt x).getD 0))) (by simp[g52,g55]) sb rfl)
 refine Jz 12 ?_
 refine Ce [0,0,0] rfl (Jhe false (by simp[g52]) sb rfl)
 subst ht
 dsimp only
 refine Ed rfl ?_ ?_<;>intro k62
 refine Jz 7 ?_
 refine Je1 results59 ?_
 refine congrArg Value.bool ?_
 rw[Gs,k14,k45,k62];rfl
 refine Jz 17 ?_
 refine Jcp rfl ?_ ?_<;>intro k65
 refine Jsp (Jt (Gm (congrArg (fun b=>some (Value.bool b)) (aEk k65)) (Jz 8 ?_)))
 refine Je1 results59 ?_
 refine congrArg Value.bool ?_
 rw[Gs,k14,k45,k62]
 ·first|(simp[k65];done)|(simp[k65];omega)
 refine Jz 6 ?_
 refine Jcp rfl ?_ ?_<;>intro k65_2
 refine Jsp (Jt (Gm (congrArg (fun b=>some (Value.bool b)) (aEk k65_2)) (Jz 8 ?_)))
 refine Je1 results59 ?_
 refine congrArg Value.bool ?_
 rw[Gs,k14,k45,k62]
 ·first|(simp[k65,k65_2];done)|(simp[k65,k65_2];omega)
 refine Jz 5 ?_
 refine Jcp rfl ?_ ?_<;>intro k65_3
 refine Jz 8 ?_
 refine Je1 results59 ?_
 refine congrArg Value.bool ?_
 rw[Gs,k14,k45,k62]
 ·first|(simp[k65,k65_2,k65_3];done)|(simp[k65,k65_2,k65_3];omega)
 refine Jz 6 ?_
 refine Jcp rfl ?_ ?_<;>intro k69
 refine Jz 5 ?_
 refine JgP ?_ ?_<;>intro g74
 refine Jz 12 ?_
 refine Je1 results59 ?_
 refine congrArg Value.bool ?_
 rw[Gs,k14,k45,k62]
 ·first|(simp[k65,k65_2,k65_3,k69,g74];done)|(simp[k65,k65_2,k65_3,k69,g74];omega)
 refine Jz 12 ?_
 refine Je1 results59 ?_
 refine congrArg Value.bool ?_
 rw[Gs,k14,k45,k62]
 ·first|(simp[k65,k65_2,k65_3,k69,g74];done)|(simp[k65,k65_2,k65_3,k69,g74];omega)
 refine Jz 7 ?_
 refine Jcp rfl ?_ ?_<;>intro k81
 refine Jsp (Jt (Gm (congrArg (fun b=>some (Value.bool b)) (aEk k81)) (Js (To.g (cK (T:=Bool) (fun t=>([(2,pv b2),(3,pv b3),(4, .bool false),(101, .bool t)],[box b3 [.int .u8 ((x.op:Nat):Int),iv x.a,iv x.b,iv x.n] 116,box b2 [iv pr,iv st, .slice A l.length q] 43,Kn])) (fun t=>t=((decide (x.b<0))||(decide (63<x.b)||(decide (x.n<0)||decide (4<x.n))))) ?_ (fun t ht=>?_))))))
 refine Jz 3 ?_
 refine JgP ?_ ?_<;>intro g87
 refine Jz 16 ?_
 refine Ce [0,0,0] rfl (Jhe true (by simp[g87]) sb rfl)
 refine Jz 4 ?_
 refine JgP ?_ ?_<;>intro g92
 refine Jz 11 ?_
 refine Ce [0,0,0] rfl (Jhe true (by simp[g87,g92]) sb rfl)
 refine Jz 4 ?_
 refine JgP ?_ ?_<;>intro g97
 refine Jz 6 ?_
 refine Ce [0,0,0] rfl (Jhe true (by simp[g87,g92,g97]) sb rfl)
 refine Jz 6 ?_
 refine Ce [0,0,0] rfl (Jhe (decide (4<x.n)) (by simp[g87,g92,g97]) sb rfl)
 subst ht
 dsimp only
 refine Ed rfl ?_ ?_<;>intro k101
 refine Jz 8 ?_
 refine Je1 results59 ?_
 refine congrArg Value.bool ?_
 rw[Gs,k14,k45,k62]
 have k101:=bA k101
 simp[k65,k65_2,k65_3,k69,k81]<;>omega
 refine Jz 8 ?_
 refine JgP ?_ ?_<;>intro g105
 refine Jz 8 ?_
 refine Je1 results59 ?_
 refine congrArg Value.bool ?_
 rw[Gs,k14,k45,k62]
 have k101:=bA k101
 simp[k65,k65_2,k65_3,k69,k81,g105]<;>omega
 refine Jz 8 ?_
 refine Je1 results59 ?_
 refine congrArg Value.bool ?_
 rw[Gs,k14,k45,k62]
 have k101:=bA k101
 simp[k65,k65_2,k65_3,k69,k81,g105]<;>omega
 refine Jz 5 ?_
 refine Jcp rfl ?_ ?_<;>intro k81_2
 refine Js (To.g (cK (T:=Bool) (fun t=>([(2,pv b2),(3,pv b3),(4, .bool false),(101, .bool t)],[box b3 [.int .u8 ((x.op:Nat):Int),iv x.a,iv x.b,iv x.n] 116,box b2 [iv pr,iv st, .slice A l.length q] 43,Kn])) (fun t=>t=((decide (x.b<0))||(decide (63<x.b)||(decide (x.n<0)||decide (4<x.n))))) ?_ (fun t ht=>?_)))
 refine Jz 3 ?_
 refine JgP ?_ ?_<;>intro g87
 refine Jz 16 ?_
 refine Ce [0,0,0] rfl (Jhe true (by simp[g87]) sb rfl)
 refine Jz 4 ?_
 refine JgP ?_ ?_<;>intro g92
 refine Jz 11 ?_
 refine Ce [0,0,0] rfl (Jhe true (by simp[g87,g92]) sb rfl)
 refine Jz 4 ?_
 refine JgP ?_ ?_<;>intro g97
 refine Jz 6 ?_
 refine Ce [0,0,0] rfl (Jhe true (by simp[g87,g92,g97]) sb rfl)
 refine Jz 6 ?_
 refine Ce [0,0,0] rfl (Jhe (decide (4<x.n)) (by simp[g87,g92,g97]) sb rfl)
 subst ht
 dsimp only
 refine Ed rfl ?_ ?_<;>intro k101
 refine Jz 8 ?_
 refine Je1 results59 ?_
 refine congrArg Value.bool ?_
 rw[Gs,k14,k45,k62]
 have k101:=bA k101
 simp[k65,k65_2,k65_3,k69,k81,k81_2]<;>omega
 refine Jz 8 ?_
 refine JgP ?_ ?_<;>intro g105
 refine Jz 8 ?_
 refine Je1 results59 ?_
 refine congrArg Value.bool ?_
 rw[Gs,k14,k45,k62]
 have k101:=bA k101
 simp[k65,k65_2,k65_3,k69,k81,k81_2,g105]<;>omega
 refine Jz 8 ?_
 refine Je1 results59 ?_
 refine congrArg Value.bool ?_
 rw[Gs,k14,k45,k62]
 have k101:=bA k101
 simp[k65,k65_2,k65_3,k69,k81,k81_2,g105]<;>omega
 refine Jz 8 ?_
 refine JgP ?_ ?_<;>intro g105
 refine Jz 8 ?_
 refine Je1 results59 ?_
 refine congrArg Value.bool ?_
 rw[Gs,k14,k45,k62]
 ·first|(simp[k65,k65_2,k65_3,k69,k81,k81_2,g105];done)|(simp[k65,k65_2,k65_3,k69,k81,k81_2,g105];omega)
 refine Jz 8 ?_
 refine Je1 results59 ?_
 refine congrArg Value.bool ?_
 rw[Gs,k14,k45,k62]
 ·first|(simp[k65,k65_2,k65_3,k69,k81,k81_2,g105];done)|(simp[k65,k65_2,k65_3,k69,k81,k81_2,g105];omega)
theorem Yf{pr:Int}{nc:Nat}{x:Ins}(h:Gn pr nc x=true):(((x.op:Nat):Int)=30∨((x.op:Nat):Int)=31→0≤x.n∧x.n≤4)∧0≤(tgt x).getD 0∧(tgt x).getD 0≤nc:=by
 unfold Gn at h
 simp only[aFd,aFm,Bool.not_eq_true',aGn,aGh,aGa]at h
 obtain⟨⟨_,ht⟩,hr⟩:=h
 constructor
 · intro hop
   rw[aEa om,aEa om]at hr
   by_cases hb:x.b<0∨63<x.b∨x.n<0∨4<x.n
   ·rw[aEh ⟨hop,hb⟩]at hr;cases hr
   ·omega
 · rcases ht with ht|ht
   · have:tgt x=none:=by simpa using ht
     rw[this];exact⟨Int.le_refl _,Int.natCast_nonneg _⟩
   ·omega
def Fx(x:Ins):Int:=if((x.op:Nat):Int)=30∨((x.op:Nat):Int)=31 then(rowOf x.op).pops+x.n else(rowOf x.op).pops
def okH(y v:Int):Prop:=y<0∨y=v
instance(y v:Int):Decidable (okH y v):=inferInstanceAs (Decidable (_∨_))
def Mi(m:Int)(x:Ins):Int:=m-Fx x+(rowOf x.op).pushes
def Vq(h:List Int)(i:Nat)(x:Ins)(v:Int):Option (List Int):=
 if((x.op:Nat):Int)≠27∧((x.op:Nat):Int)≠34 then(if okH (h.getD (i+1) 0) v then some (h.set (i+1) v)else none)else some h
def Vt(h:List Int)(x:Ins)(v:Int):Option (List Int):=
 if(tgt x).isSome=true then(if okH (h.getD ((tgt x).getD 0).toNat 0) v then some (h.set ((tgt x).getD 0).toNat v)else none)else some h
def Mj(h:List Int)(top:Int)(i:Nat)(x:Ins):Option (List Int×Int):=
 let m:=max (h.getD i 0) 0
 if m<Fx x∨(((x.op:Nat):Int)=34∧m≠0)then none else
 (Vq (h.set i m) i x (Mi m x)).bind fun h2=>(Vt h2 x (Mi m x)).map fun h3=>(h3,max (max top m) (Mi m x))
def goH:Nat→List Ins→List Int→Int→Option (List Int×Int)
 |_,[],h,top=>some (h,top)
 |i,x::r,h,top=>(Mj h top i x).bind fun p=>goH (i+1) r p.1 p.2
def Et(l:List Ins):Int×Bool:=match goH 0 l (List.replicate (l.length+1) (-1)) 0 with
 |none=>(0,false)
 |some (h,top)=>(top,decide (h.getD l.length 0≤0))
theorem Zt{l:List Ins}{i:Nat}{x:Ins}(hx:l[i]?=some x)(h:List Int)(top:Int):goH i (l.drop i) h top=(Mj h top i x).bind fun p=>goH (i+1) (l.drop (i+1)) p.1 p.2:=by rw[dog hx];rfl
theorem Uh{l:List Ins}(h:goH 0 l (List.replicate (l.length+1) (-1)) 0=none):Et l=(0,false):=by unfold Et;rw[h]
theorem JX(k n:Nat):(List.replicate k (-1:Int)++List.replicate (n+1) 0).set k (-1)=List.replicate (k+1) (-1)++List.replicate n 0:=by
 rw[List.set_append_right _ _ (by simp),aFu,aGj,List.replicate_succ (n:=n),List.set_cons_zero,List.append_cons,←List.replicate_succ']
theorem Ld{l:List Int}{i:Nat}{y:Int}(h:l[i]?=some y):l.getD i 0=y:=by rw[aEx,h];rfl
theorem oZ{l:List Int}{i:Nat}{v lo hi:Int}(h:∀y∈l,lo≤y∧y≤hi)(hv:lo≤v∧v≤hi):∀y∈l.set i v,lo≤y∧y≤hi:=fun y hy=>by
 rcases List.mem_or_eq_of_mem_set hy with h1|rfl
 ·exact h y h1
 ·exact hv
theorem JY(b:Nat)(Ah:OA)(qh:Nat)(h:List Int)(t:Nat)(v y:Int)(hy:h[t]?=some y):
    Dz 98 [nv t,iv v,pv b] [box b [.slice Ah h.length qh] 62,rows aLz 3 1 Ah qh h] (fun r Γ'=>r= .bool (decide (okH y v))∧Γ'=[box b [.slice Ah h.length qh] 62,rows aLz 3 1 Ah qh (h.set t v)]):=by
 refine Am func98 ntmps98 fun w0=>?_
 refine Jz 12 ?_
 refine JgP ?_ ?_<;>intro g12
 refine Jz 11 ?_
 have htl:t<h.length:=(aEc.1 hy).1
 refine Jz 5 ?_
 refine To.u (Up.store (i:=1) rfl rfl rfl c3 rfl rfl (Ee Cy (y:=v) (by decide) om)) ?_
 refine Jz 9 ?_
 refine Ce [0,0] rfl (Je1 results98 ?_)
 exact⟨by simp[okH,g12],rfl⟩
 refine Jz 11 ?_
 have htl:t<h.length:=(aEc.1 hy).1
 refine Jz 5 ?_
 refine To.u (Up.store (i:=1) rfl rfl rfl c3 rfl rfl (Ee Cy (y:=v) (by decide) om)) ?_
 refine Jz 9 ?_
 refine Ce [0,0] rfl (Je1 results98 ?_)
 exact⟨by simp[okH,g12],rfl⟩
theorem iJ(pr:Int)(A:OA)(q:Nat)(l:List Ins)(hl:l.length≤4000)(hform:∀x∈l,Gn pr l.length x=true):
    Dz 60 [.slice A l.length q] [ros Ins.cells A l,Kn] (fun v _=>v= .tuple #[iv (Et l).1, .bool (Et l).2]):=by
 refine Am func60 ntmps60 fun w0=>?_
 refine Jz 11 ?_
 refine Jmk rfl rfl rfl (dD (enc:=aLz) (z:=0) (n:=(l.length+1)) rfl rfl s62 rfl rfl om (by simp only[maxLen];omega)) ?_
 rintro _ _ ⟨b16,rfl,rfl⟩
 refine Jal fun b4=>?_
 refine Jz 12 ?_
 refine Ce [0,0,0,0] rfl (Lf (fun s g mz ρ Γ=>∃(Ah:OA) (qh:Nat) (h:List Int) (k:Nat),ρ=[s 0,s 2,s 4,(18,nv ((l.length+1))),(19,nv k)]∧Γ=[box b4 [.slice Ah h.length qh] 62,rows aLz 3 1 Ah qh h,g 2,Kn]∧mz=l.length+1-k∧(k≤l.length+1)∧(h=List.replicate k (-1)++List.replicate (l.length+1-k) 0)) ⟨⟨(some ⟨b16,0,none⟩),(l.length+1),(List.replicate (l.length+1) (0:Int)),0,rfl,rfl,rfl,om,(by simp)⟩,⟨rfl,rfl,rfl,(congrArg (fun n:Nat=>some (iv (n:Int))) aFu),rfl,trivial⟩⟩ ?_)
 rintro mz _ _ ⟨Ah,qh,h,k,rfl,rfl,rfl,hk,hh⟩
 have hhl:h.length=l.length+1:=by rw[hh,lap,aFu,aFu];omega
 refine Jz 6 ?_
 refine Jcp rfl ?_ ?_<;>intro c20
 refine Jz 10 ?_
 obtain⟨y,hy⟩:=exg h k om
 refine Jz 4 ?_
 refine To.u (Up.store (i:=1) rfl rfl rfl c3 rfl rfl (Ee Cy (y:=(-1)) (by decide) om)) ?_
 refine Jz 8 ?_
 refine Ce [0,0,0,0] rfl (Jas [box b4 [.slice Ah (h.set k (-1)).length qh] 62,rows aLz 3 1 Ah qh (h.set k (-1)),ros Ins.cells A l,Kn] (by(try unfold vs);rw[aEj]<;>rfl) (Hu ⟨⟨Ah,qh,(h.set k (-1)),k+1,rfl,rfl,rfl,om,(by rw[hh,show l.length+1-k=(l.length-k)+1 from by omega,JX,show l.length+1-(k+1)=l.length-k from by omega])⟩,sb⟩))
 refine Jz 7 ?_
 refine Jr (Rd.makeFunc rfl rfl rfl) ?_
 refine Jz 12 ?_
 have hh0:h=List.replicate (l.length+1) (-1):=by rw[hh,show k=l.length+1 from by omega];simp
 subst hh0
 refine Ce [0,0,0,0] rfl (Lf (fun s g mz ρ Γ=>∃(h:List Int) (top:Int) (i:Nat),ρ=[s 0,(2,iv top),s 4,s 6,s 27,s 28,(29,nv i)]∧Γ=[box b4 [.slice Ah h.length qh] 62,rows aLz 3 1 Ah qh h,g 2,Kn]∧mz=l.length-i∧(i≤l.length)∧(h.length=l.length+1)∧(∀y0∈h,(-1:Int)≤y0∧y0≤((i:Nat):Int))∧(goH 0 l (List.replicate (l.length+1) (-1)) 0=goH i (l.drop i) h top)∧(0≤top∧top≤4001)) ⟨⟨(List.replicate (l.length+1) (-1)),0,0,rfl,rfl,rfl,om,(by simp),(fun y0 hy0=>by rw[List.eq_of_mem_replicate hy0];omega),rfl,om⟩,sb⟩ ?_)
 rintro mz _ _ ⟨h,top,i,rfl,rfl,rfl,hi,hhl,hB,hI,ht⟩
 refine Jz 6 ?_
 refine Jcp rfl ?_ ?_<;>intro c30
 obtain⟨x,hx⟩:=exg l i om
 refine Jz 9 ?_
 refine Jal fun b8=>?_
 refine Jz 5 ?_
 obtain⟨y,hy⟩:=exg h i om
 have hyb:=hB y (mog hy)
 have hix:i<h.length:=om
 refine Jfw [] [1,3,100,102,104,105,6,107,508] (ocn _) ?_
 refine Jz 6 ?_
 refine Fw.f rfl (Rd.max rfl rfl rfl) ?_
 refine Jz 1 ?_
 refine Fw.up rfl rfl rfl (Up.store (i:=2) rfl rfl rfl c3 rfl rfl (Ee Cy (y:=(max y 0)) (by decide) om)) (ocn _) ?_
 refine Jz 3 ?_
 refine To.nm ?_
 obtain⟨m,hm⟩:∃z0,z0=(max y 0):=⟨_,rfl⟩
 rw[←hm]
 refine To.nm ?_
 obtain⟨h1,hh1⟩:∃z0,z0=(h.set i m):=⟨_,rfl⟩
 rw[←hh1]
 have hlh1:h1.length=h.length:=by rw[hh1];rw[aEj]
 rw[←hlh1]
 have hy1:h1[i]?=some m:=by rw[hh1,List.getElem?_set_self hix]
 have hmb:0≤m∧m≤i:=om
 have hB1:∀y0∈h1,(-1:Int)≤y0∧y0≤((i:Nat):Int):=by rw[hh1];exact oZ hB om
 have hxf:=Yf (hform x (mog hx))
 have hpb:=iI x.op
 have hxn:=hxf.1
 refine Jz 3 ?_
 refine Jvf ((JW x.op).mono (R':=fun v _=>v= .agg (Rw.cells (rowOf x.op)).toArray) (fun _ _ h=>h.1)) rfl (ocs (oca 4 rfl) (ocn _)) ?_
 refine Jal fun b9=>?_
 refine Jz 6 ?_
 refine cK (T:=Bool) (fun t=>([(0, .slice A l.length q),(2,iv top),(4,pv b4),(6, .func (.func 98) #[] #[pv b4]),(27, .slice A l.length q),(28,nv l.length),(29,nv i),(8,pv b8),(7,nv i),(9,pv b9),(52, .bool t)],[box b9 [.string (rowOf x.op).text, .string (rowOf x.op).uses,iv ((rowOf x.op).pops),iv ((rowOf x.op).pushes)] 255,box b8 [.int .u8 ((x.op:Nat):Int),iv x.a,iv x.b,iv x.n] 116,box b4 [.slice Ah h1.length qh] 62,rows aLz 3 1 Ah qh h1,ros Ins.cells A l,Kn])) (fun t=>t=((decide (((x.op:Nat):Int)=30))||decide (((x.op:Nat):Int)=31))) ?_ (fun t ht=>?_)
 refine Jz 3 ?_
 refine JgP ?_ ?_<;>intro g48
 refine Jz 6 ?_
 refine Ce [0,0,0,0,0,0] rfl (Jhe true (by simp[g48]) sb rfl)
 refine Jz 6 ?_
 refine Ce [0,0,0,0,0,0] rfl (Jhe (decide (((x.op:Nat):Int)=31)) (by simp[g48]) sb rfl)
 subst ht
 dsimp only
 refine Ru (T:=(Int)) (fun t=>([(0, .slice A l.length q),(2,iv top),(4,pv b4),(6, .func (.func 98) #[] #[pv b4]),(7,nv i),(8,pv b8),(9,pv b9),(27, .slice A l.length q),(28,nv l.length),(29,nv i)],[box b9 [.string (rowOf x.op).text, .string (rowOf x.op).uses,iv (t),iv ((rowOf x.op).pushes)] 255,box b8 [.int .u8 ((x.op:Nat):Int),iv x.a,iv x.b,iv x.n] 116,box b4 [.slice Ah h1.length qh] 62,rows aLz 3 1 Ah qh h1,ros Ins.cells A l,Kn])) (fun t=>((t)=Fx x)) ?_ ?_
 refine Ed rfl ?_ ?_<;>intro c52
 simp only[aFr,aFm]at c52
 have hxn2:=hxn c52
 refine Jz 5 ?_
 refine Jr (Hl rfl rfl rfl om) ?_
 refine Jz 4 ?_
 refine Ce [0,0,0,0,0,0] rfl (Jhe (((rowOf x.op).pops)+x.n) (by unfold Fx;rw[aEh c52]) sb rfl)
 simp only[aGh,aGa]at c52
 refine Jsp (Jt (Ce [0,0,0,0,0,0] rfl (Jhe ((rowOf x.op).pops) (by unfold Fx;rw[aEa om]) sb rfl)))
 rintro pn hpn
 replace hpn:pn=Fx x:=hpn
 dsimp only
 subst hpn
 have hpb2:0≤Fx x∧Fx x≤6:=by unfold Fx;split<;>omega
 refine Js (Js (Ru (T:=(Bool)) (fun t=>([(0, .slice A l.length q),(2,iv top),(4,pv b4),(6, .func (.func 98) #[] #[pv b4]),(7,nv i),(8,pv b8),(9,pv b9),(27, .slice A l.length q),(28,nv l.length),(29,nv i),(77, .bool (t))],[box b9 [.string (rowOf x.op).text, .string (rowOf x.op).uses,iv (Fx x),iv ((rowOf x.op).pushes)] 255,box b8 [.int .u8 ((x.op:Nat):Int),iv x.a,iv x.b,iv x.n] 116,box b4 [.slice Ah h1.length qh] 62,rows aLz 3 1 Ah qh h1,ros Ins.cells A l,Kn])) (fun t=>((t)=((decide (m<(Fx x)))||((decide (((x.op:Nat):Int)=34))&&decide (m≠0))))) ?_ ?_))
 refine Jfw [] [1,4,100,102,103,105,6,7,8,109,10,11,13,112,114,115,16,17,18] (ocn _) ?_
 refine Jz 7 ?_
 refine gT rfl rfl rfl rfl (Rd.move rfl rfl) (fun g66=>?_) (fun g66=>?_)
 refine Jz 13 ?_
 refine Ce [0,0,0,0,0,0] rfl (Jhe (true) (by simp[g66]) sb rfl)
 refine Jz 3 ?_
 refine gT rfl rfl rfl rfl (Rd.move rfl rfl) (fun g70=>?_) (fun g70=>?_)
 refine Jz 9 ?_
 refine Ce [0,0,0,0,0,0] rfl (Jhe ((decide (m≠0))) (by simp[g66,g70]) sb rfl)
 refine Jz 9 ?_
 refine Ce [0,0,0,0,0,0] rfl (Jhe (false) (by simp[g66,g70]) sb rfl)
 rintro tb htb
 replace htb:tb=((decide (m<(Fx x)))||((decide (((x.op:Nat):Int)=34))&&decide (m≠0))):=htb
 dsimp only
 subst htb
 refine Ed rfl ?_ ?_<;>intro c77
 refine Jz 13 ?_
 refine Gc (.inl rfl) results60 rfl rfl ?_
 have hm2:max (h.getD i 0) 0=m:=by rw[Ld hy,hm]
 simp only[aFr,aFd,aFm]at c77
 rw[Uh (by rw[hI,Zt hx,show Mj h top i x=none from(by unfold Mj;simp only[hm2];rw[aEh om])];rfl)]
 simp only[aGh,aGn,aGa]at c77
 have hnf:¬(m<Fx x∨(((x.op:Nat):Int)=34∧m≠0)):=om
 refine Jz 3 ?_
 refine Jfw [] [1,4,7,100,102,103,105,6,108,9,10] (ocn _) ?_
 refine Jz 7 ?_
 refine Fw.f rfl (Gi rfl rfl rfl om) ?_
 refine Jz 1 ?_
 refine Fw.f rfl (Hl rfl rfl rfl om) ?_
 refine Jz 4 ?_
 refine To.nm ?_
 obtain⟨v,hv⟩:∃z0,z0=((m-(Fx x))+((rowOf x.op).pushes)):=⟨_,rfl⟩
 rw[←hv]
 have hv2:v=Mi m x:=by rw[hv,Mi]
 have hvb:0≤v∧v≤i+1:=om
 refine Jz 7 ?_
 refine Jr (zK rfl rfl rfl rfl) ?_
 refine Jz 5 ?_
 obtain⟨y2,hy2⟩:∃z0,h1[i+1]?=some z0:=⟨h1[i+1]'om,gge _⟩
 refine To.nm ?_
 obtain⟨top',htop'⟩:∃z0,z0=(max (max top m) v):=⟨_,rfl⟩
 rw[←htop']
 refine Ru (T:=(List Int)×(Bool)) (fun t=>([(0, .slice A l.length q),(2,iv top'),(4,pv b4),(6, .func (.func 98) #[] #[pv b4]),(7,nv i),(8,pv b8),(9,pv b9),(10,iv v),(27, .slice A l.length q),(28,nv l.length),(29,nv i),(110, .bool (t.2))],[box b9 [.string (rowOf x.op).text, .string (rowOf x.op).uses,iv (Fx x),iv ((rowOf x.op).pushes)] 255,box b8 [.int .u8 ((x.op:Nat):Int),iv x.a,iv x.b,iv x.n] 116,box b4 [.slice Ah (t.1).length qh] 62,rows aLz 3 1 Ah qh (t.1),ros Ins.cells A l,Kn])) (fun t=>(Vq h1 i x v=if(t.2)=true then none else some (t.1))∧((t.1).length=l.length+1)∧(∀y0∈(t.1),(-1:Int)≤y0∧y0≤((i+1:Nat):Int))) ?_ ?_
 refine Jz 4 ?_
 refine JgP ?_ ?_<;>intro g98
 refine Jz 4 ?_
 refine JgP ?_ ?_<;>intro g103
 refine Jz 4 ?_
 refine Jcl [2,2] rfl rfl rfl (Ent.func (first:=[]) (captured:=[pv b4]) rfl rfl rfl (kc.h 98 rfl)) rfl (JY b4 Ah qh h1 (i+1) v y2 hy2) ?_
 rintro _ _ ⟨rfl,rfl⟩
 refine Jz 4 ?_
 refine Ce [2,2,0,0,0,0] rfl (Jas [box b9 [.string (rowOf x.op).text, .string (rowOf x.op).uses,iv (Fx x),iv ((rowOf x.op).pushes)] 255,box b8 [.int .u8 ((x.op:Nat):Int),iv x.a,iv x.b,iv x.n] 116,box b4 [.slice Ah ((h1.set (i+1) v).length) qh] 62,rows aLz 3 1 Ah qh (h1.set (i+1) v),ros Ins.cells A l,Kn] (by(try unfold vs);rw[aEj]<;>rfl) (Jhe ((h1.set (i+1) v),(!(decide (okH y2 v)))) ⟨(by rw[Vq,aEh om,Ld hy2];by_cases hk:okH y2 v<;>simp[hk]),(by rw[aEj];omega),(oZ (fun y0 h0=>by have:=hB1 y0 h0;omega) om)⟩ sb rfl))
 refine Jz 9 ?_
 refine Ce [0,0,0,0,0,0] rfl (Jhe (h1,false) ⟨(by rw[Vq,aEa om];rfl),(show h1.length=l.length+1 by omega),(fun y0 h0=>by have:=hB1 y0 h0;omega)⟩ sb rfl)
 refine Jz 14 ?_
 refine Ce [0,0,0,0,0,0] rfl (Jhe (h1,false) ⟨(by rw[Vq,aEa om];rfl),(show h1.length=l.length+1 by omega),(fun y0 h0=>by have:=hB1 y0 h0;omega)⟩ sb rfl)
 rintro⟨h2,tb⟩ ⟨hN,hl2,hB2⟩
 replace hN:Vq h1 i x v=if tb=true then none else some h2:=hN
 replace hl2:h2.length=l.length+1:=hl2
 replace hB2:∀y0∈h2,(-1:Int)≤y0∧y0≤((i+1:Nat):Int):=hB2
 dsimp only
 refine Ed rfl ?_ ?_<;>intro c110
 refine Jz 13 ?_
 refine Gc (.inl rfl) results60 rfl rfl ?_
 have hm2:max (h.getD i 0) 0=m:=by rw[Ld hy,hm]
 rw[Uh (by rw[hI,Zt hx,show Mj h top i x=none from(by unfold Mj;simp only[hm2,←hh1,←hv2];rw[aEa hnf,hN,aEh c110];rfl)];rfl)]
 refine Jz 5 ?_
 refine Jvf (JU x) rfl (ocn _) ?_
 refine Jz 8 ?_
 refine To.nm ?_
 obtain⟨tn,htn⟩:∃tn:Nat,(tgt x).getD 0=((tn:Nat):Int):=⟨((tgt x).getD 0).toNat,by omega⟩
 rw[htn]
 obtain⟨y3,hy3⟩:=exg h2 tn om
 have htn2:((tgt x).getD 0).toNat=tn:=om
 refine Ru (T:=(List Int)×(Bool)) (fun t=>([(0, .slice A l.length q),(2,iv top'),(4,pv b4),(6, .func (.func 98) #[] #[pv b4]),(7,nv i),(8,pv b8),(9,pv b9),(10,iv v),(27, .slice A l.length q),(28,nv l.length),(29,nv i),(123, .bool (t.2))],[box b9 [.string (rowOf x.op).text, .string (rowOf x.op).uses,iv (Fx x),iv ((rowOf x.op).pushes)] 255,box b8 [.int .u8 ((x.op:Nat):Int),iv x.a,iv x.b,iv x.n] 116,box b4 [.slice Ah (t.1).length qh] 62,rows aLz 3 1 Ah qh (t.1),ros Ins.cells A l,Kn])) (fun t=>(Vt h2 x v=if(t.2)=true then none else some (t.1))∧((t.1).length=l.length+1)∧(∀y0∈(t.1),(-1:Int)≤y0∧y0≤((i+1:Nat):Int))) ?_ ?_
 refine Jz 2 ?_
 refine JgB ?_ ?_<;>intro g117
 refine Jz 3 ?_
 refine Jcl [2,2] rfl rfl rfl (Ent.func (first:=[]) (captured:=[pv b4]) rfl rfl rfl (kc.h 98 rfl)) rfl (JY b4 Ah qh h2 tn v y3 hy3) ?_
 rintro _ _ ⟨rfl,rfl⟩
 refine Jz 4 ?_
 refine Ce [2,2,0,0,0,0] rfl (Jas [box b9 [.string (rowOf x.op).text, .string (rowOf x.op).uses,iv (Fx x),iv ((rowOf x.op).pushes)] 255,box b8 [.int .u8 ((x.op:Nat):Int),iv x.a,iv x.b,iv x.n] 116,box b4 [.slice Ah ((h2.set tn v).length) qh] 62,rows aLz 3 1 Ah qh (h2.set tn v),ros Ins.cells A l,Kn] (by(try unfold vs);rw[aEj]<;>rfl) (Jhe ((h2.set tn v),(!(decide (okH y3 v)))) ⟨(by rw[Vt,aEh g117,htn2,Ld hy3];by_cases hk:okH y3 v<;>simp[hk]),(by rw[aEj];omega),(oZ hB2 om)⟩ sb rfl))
 refine Jz 8 ?_
 refine Ce [0,0,0,0,0,0] rfl (Jhe (h2,false) ⟨(by rw[Vt,aEa (by simp[g117])];rfl),om,hB2⟩ sb rfl)
 rintro⟨h3,tb2⟩ ⟨hJ,hl3,hB3⟩
 replace hJ:Vt h2 x v=if tb2=true then none else some h3:=hJ
 replace hl3:h3.length=l.length+1:=hl3
 replace hB3:∀y0∈h3,(-1:Int)≤y0∧y0≤((i+1:Nat):Int):=hB3
 dsimp only
 refine Ed rfl ?_ ?_<;>intro c123
 refine Jz 12 ?_
 refine Gc (.inl rfl) results60 rfl rfl ?_
 have hm2:max (h.getD i 0) 0=m:=by rw[Ld hy,hm]
 rw[Uh (by rw[hI,Zt hx,show Mj h top i x=none from(by unfold Mj;simp only[hm2,←hh1,←hv2];rw[aEa hnf,hN,aEa (by simp[c110])];simp[hJ,c123])];rfl)]
 refine Jz 8 ?_
 have hm2:max (h.getD i 0) 0=m:=by rw[Ld hy,hm]
 have hS:Mj h top i x=some (h3,top'):=by
  unfold Mj;simp only[hm2,←hh1,←hv2];rw[aEa hnf,hN,aEa (by simp[c110])];show((Vt h2 x v).map fun h3=>(h3,max (max top m) v))=_;rw[hJ,aEa (by simp[c123]),htop'];rfl
 refine Ce [2,2,2,2] rfl (Hu ⟨⟨h3,top',i+1,rfl,rfl,rfl,om,hl3,hB3,(by rw[hI,Zt hx,hS];rfl),om⟩,sb⟩)
 refine Jz 6 ?_
 obtain⟨y4,hy4⟩:∃z0,h[l.length]?=some z0:=⟨h[l.length]'om,gge _⟩
 refine Jfw [] [0,2,3,7,101,104,105,6,8] (ocn _) ?_
 refine Jz 12 ?_
 refine Gc (.inl rfl) results60 rfl rfl ?_
 rw[show Et l=(top,decide (y4≤0))from(by unfold Et;rw[hI,aFh om];simp only[goH];rw[Ld hy4])]
def Kg(pr st:Int)(l:List Ins):Int:=
 if 64<st∨4000<l.length then 3 else if pr<0∨4<pr then 6 else if¬ ∀x∈l,Gn pr l.length x=true then 6 else if(Et l).2=false∨(Et l).1≠st then 6 else 0
theorem Ws{pr st:Int}{l:List Ins}(h1:¬(64<st∨4000<l.length))(h2:¬(pr<0∨4<pr))(h3:∀x∈l,Gn pr l.length x=true):Kg pr st l=if(Et l).2=false∨(Et l).1≠st then 6 else 0:=by
 rw[Kg,aEa h1,aEa h2,aEa (fun h=>h h3)]
theorem EG(pr st:Int)(A:OA)(q:Nat)(l:List Ins):
    Dz 31 [.agg #[iv pr,iv st, .slice A l.length q]] [ros Ins.cells A l,Kn] (fun v _=>v=iv (Kg pr st l)):=by
 refine Am func31 ntmps31 fun w0=>?_
 refine Js (To.g (Jbo fun b1=>?_))
 refine Jz 9 ?_
 refine JgP ?_ ?_<;>intro g10
 refine Jz 15 ?_
 refine Je1 results31 ?_
 rw[Kg,aEh om]
 refine Jz 7 ?_
 refine Jcp rfl ?_ ?_<;>intro c15
 refine Jz 7 ?_
 refine Je1 results31 ?_
 rw[Kg,aEh om]
 refine Jz 8 ?_
 refine JgP ?_ ?_<;>intro g19
 refine Jz 14 ?_
 refine Je1 results31 ?_
 rw[Kg,aEa om,aEh om]
 refine Jz 6 ?_
 refine Jcp rfl ?_ ?_<;>intro c23
 refine Jz 7 ?_
 refine Je1 results31 ?_
 rw[Kg,aEa om,aEh om]
 refine Jz 12 ?_
 refine Ce [0,0,0] rfl (Lf (fun s g mz ρ Γ=>∃(i:Nat),ρ=[s 1,s 25,s 26,(27,nv i)]∧Γ=[g 0,g 1,Kn]∧mz=l.length-i∧(i≤l.length)∧(∀x∈l.take i,Gn pr l.length x=true)) ⟨⟨0,rfl,rfl,rfl,om,(fun x hx=>by simp at hx)⟩,sb⟩ ?_)
 rintro mz _ _ ⟨i,rfl,rfl,rfl,hi,hI⟩
 refine Jz 6 ?_
 refine Jcp rfl ?_ ?_<;>intro c28
 obtain⟨x,hx⟩:=exg l i om
 refine Jz 8 ?_
 refine Jal fun b4=>?_
 refine Jz 7 ?_
 refine Jvf (EF pr st A q l x) rfl (ocs (oca 3 rfl) (ocn _)) ?_
 refine Jz 3 ?_
 refine Ed rfl ?_ ?_<;>intro c34
 refine Jz 11 ?_
 refine Je1 results31 ?_
 rw[Kg,aEa om,aEa om,aEh (fun h=>by rw[h x (mog hx)]at c34;cases c34)]
 refine Jz 8 ?_
 refine Ot [(1,pv b1),(25, .slice A l.length q),(26,nv l.length),(27,nv ((i+1)))] sb (Ce [1,1,1] rfl ?_)
 refine Jag (l.length-(i+1)) om ⟨i+1,rfl,rfl,rfl,om,(fun z hz=>by
  rw[Cf hx]at hz
  rcases aFi.1 hz with h0|h0
  ·exact hI z h0
  ·rw[aEr.1 h0];simpa using c34)⟩
 refine Jz 7 ?_
 have hall:∀x∈l,Gn pr l.length x=true:=by rw[show l=l.take i from(aEm om).symm];rw[aEm (by omega:l.length≤i)]at hI⊢;exact hI
 refine Jz 3 ?_
 refine Jvf (iJ pr A q l om hall) rfl (ocs (oca 1 rfl) (ocs (oca 2 rfl) (ocn _))) ?_
 refine Jz 11 ?_
 refine JgB ?_ ?_<;>intro g44
 refine Jz 15 ?_
 refine Je1 results31 ?_
 rw[Ws om om hall]
 rcases hgd:(Et l).2 with _|_<;>simp_all
 refine Jz 7 ?_
 refine Jcp rfl ?_ ?_<;>intro c49
 refine Jz 7 ?_
 refine Je1 results31 ?_
 rw[Ws om om hall]
 rcases hgd:(Et l).2 with _|_<;>simp_all
 refine Jz 8 ?_
 refine Je1 results31 ?_
 rw[Ws om om hall]
 rcases hgd:(Et l).2 with _|_<;>simp_all
end Go.Proofs.YtlihklladkagpaaGreatDoor
