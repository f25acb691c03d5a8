/- Own text. -/
import Derived.Test.YtihgdnjkofpgiaaGreatDoorBa
import Derived.Laws.Strings
set_option linter.unusedVariables false
set_option linter.unusedSimpArgs false
set_option maxHeartbeats 2000000
set_option maxRecDepth 100000
namespace Go.Sep
open Go.RowKit Go.Flow Go.Mem
theorem iQ(s u:ByteArray):(s.toList==u.toList)=decide (s=u):=by
 rw[ByteArray.toList_eq,ByteArray.toList_eq,Bool.eq_iff_iff,aQx,beq_iff_eq];refine⟨fun h=>?_,fun h=>by rw[h]⟩;cases s;cases u;simp only at h;rw[Array.toList_inj.1 h]
theorem Ky{P:Program}{o:Oper}{ρ:Bo}{Γ:List Ad}{x y:Operand}{t t':TypeId}{s u:ByteArray}(ho:o.op= .binOp .eql t x y t')(hx:ev ρ x=some (.string s))(hy:ev ρ y=some (.string u)):Rd P o ρ Γ (.bool (decide (s=u))):=fw ho hx hy fun w=>by
 simp[eqGuard,binOp,Op.equal,Op.stringOp,iQ]
theorem dV{P:Program}{o:Oper}{ρ:Bo}{Γ:List Ad}{x y:Operand}{t t':TypeId}{s u:ByteArray}(ho:o.op= .binOp .neq t x y t')(hx:ev ρ x=some (.string s))(hy:ev ρ y=some (.string u)):Rd P o ρ Γ (.bool (decide (s≠u))):=fw ho hx hy fun w=>by
 simp[eqGuard,binOp,Op.equal,Op.stringOp,iQ]
end Go.Sep
namespace Go.Proofs.YtihgdnjkofpgiaaGreatDoor
open Go.RowKit Go.Flow Go.Mem Go.Sep Go.In
open Go.In
theorem FH{P:pG}{o:Oper}{ρ:Bo}{Γ:List Ad}{x y:Operand}{t e:tI}{n j:Nat}{k:IntKind}{xs:List vU}{v:vU}(ho:o.op= .index t x y)(ht:P.underlying t=some (.array n e))(he:P.underlying e=some .string)(h1:(P.info? e).map (·.size)=some 1)(hx:ev ρ x=some (.agg xs.toArray))(hy:ev ρ y=some (.int k (j:Int)))(hj:j<n)(hv:xs[j]?=some v):Rd P o ρ Γ v:=fun a w ha _=>by
 obtain⟨i,hi,h1⟩:=aPy.1 h1;unfold execOp;simp[ho,ha.eval hx,ha.eval hy,Instr.index,asIntOf,run_underlying ht,sizeOf,typeInfo,hi,h1,part,isAgg,run_underlying he,hv];omega
theorem JW{P:pG}{o:Oper}{ρ:Bo}{Γ:List Ad}{x y:Operand}{t:tI}{s:List Nat}{j c:Nat}{k:IntKind}(ho:o.op= .index t x y)(ht:P.underlying t=some .string)(hx:ev ρ x=some (.string (fT s)))(hy:ev ρ y=some (.int k (j:Int)))(hj:s[j]?=some c)(hc:c<256):Rd P o ρ Γ (ub c):=by
 have hl:=(aOz.1 hj).1;have hs:j<(fT s).size:=by rw[Bd];exact hl
 have e1:(fT s).data[j]?=some (UInt8.ofNat c):=by unfold fT;simp[hj]
 have e:((fT s).data[j]'hs).toNat=c:=by
  obtain⟨_,e2⟩:=aRe.1 e1;rw[e2,UInt8.toNat_ofNat',Nat.mod_eq_of_lt hc]
 have h:=iD (P:=P) (Γ:=Γ) ho ht hx hy hs;rw[e]at h;exact h
theorem Bg.sub{P:pG}{f:FuncId}{args:List vU}{Γ Γ1 Δ:List Ad}{R:vU→List Ad→Prop}{is:List Nat}(h:Bg P f args Γ1 R)(hp:Vf Γ is=some (Γ1,Δ)):Bg P f args Γ R:=fun w hs=>
 (h w ((hs.perm (Ka hp)).left)).mono fun _ _ ⟨v,Γ',h1,h2,h3⟩=>⟨v,Γ',h1,h2,(Dk.at_ hp hs h3).drop⟩
def Re:List yB:=[⟨#[97,102,116,101,114]⟩,⟨#[97,108,119,97,121,115]⟩,⟨#[97,110,100]⟩,⟨#[97,114,114,105,118,101,115]⟩,⟨#[98,111,111,108]⟩,⟨#[99,111,109,112,111,110,101,110,116]⟩,⟨#[99,111,117,110,116]⟩,⟨#[100,101,108,101,116,101]⟩,⟨#[100,111]⟩,⟨#[101,108,115,101]⟩,⟨#[101,120,105,115,116,115]⟩,⟨#[102,97,108,115,101]⟩,⟨#[102,101,116,99,104]⟩,⟨#[102,108,97,103]⟩,⟨#[102,108,101,101,116]⟩,⟨#[102,111,114,97,108,108]⟩,⟨#[104,97,115]⟩,⟨#[105,102]⟩,⟨#[105,109,112,108,105,101,115]⟩,⟨#[105,110]⟩,⟨#[105,110,116]⟩,⟨#[108,97,116,101,110,99,121]⟩,⟨#[108,105,110,107]⟩,⟨#[110,111,116]⟩,⟨#[110,111,119]⟩,⟨#[111,110]⟩,⟨#[111,110,99,101]⟩,⟨#[111,114]⟩,⟨#[112,114,101,118,105,111,117,115]⟩,⟨#[115,101,110,100]⟩,⟨#[115,105,110,99,101]⟩,⟨#[115,105,122,101]⟩,⟨#[115,116,111,112]⟩,⟨#[115,116,111,114,101]⟩,⟨#[116,97,98,108,101]⟩,⟨#[116,114,117,101]⟩,⟨#[118,97,114]⟩,⟨#[118,101,114,115,105,111,110]⟩,⟨#[119,104,105,108,101]⟩]
theorem UV{j:Nat}{w:yB}(h:Re[j]?=some w):(Re.flatMap Dc)[j]?=some (.string w):=by
 have e:∀l:List yB,l.flatMap Dc=l.map Value.string:=fun l=>by
  induction l with
  |nil=>rfl
  |cons a r ih=>rw[aQq,ih];rfl
 rw[e,aPs,h];rfl
structure Sh where
 n:Nat
 nm:Bool
 lv:Int
 tx:yB
def Sh.cells(e:Sh):List vU:=[nv e.n, .bool e.nm,iv e.lv, .string e.tx]
instance aEo:Enc Sh.cells 4:=⟨fun _=>rfl,fun e u hu=>by
 simp only[Sh.cells,aPi,aPm,aQo]at hu;rcases hu with rfl|rfl|rfl|rfl<;>rfl⟩
structure Fm where
 a:Bool
 b:Bool
 c:Nat
 d:Nat
 e:Bool
 f:Bool
def Fm.cells(x:Fm):List vU:=[.bool x.a, .bool x.b,nv x.c,nv x.d, .bool x.e, .bool x.f]
instance aEp:Enc Fm.cells 6:=⟨fun _=>rfl,fun e u hu=>by
 simp only[Fm.cells,aPi,aPm,aQo]at hu;rcases hu with rfl|rfl|rfl|rfl|rfl|rfl<;>rfl⟩
def JX:List Sh:=[⟨0,false,0,⟨#[]⟩⟩,⟨0,false,7,⟨#[]⟩⟩,⟨0,false,7,⟨#[116,114,117,101]⟩⟩,⟨0,false,7,⟨#[102,97,108,115,101]⟩⟩,⟨0,false,7,⟨#[110,111,119]⟩⟩,⟨0,true,7,⟨#[]⟩⟩,⟨1,true,7,⟨#[]⟩⟩,⟨1,true,7,⟨#[104,97,115,32]⟩⟩,⟨0,true,7,⟨#[115,105,122,101,32]⟩⟩,⟨1,false,6,⟨#[45]⟩⟩,⟨1,false,6,⟨#[110,111,116,32]⟩⟩,⟨2,false,5,⟨#[32,42,32]⟩⟩,⟨2,false,5,⟨#[32,47,32]⟩⟩,⟨2,false,5,⟨#[32,37,32]⟩⟩,⟨2,false,4,⟨#[32,43,32]⟩⟩,⟨2,false,4,⟨#[32,45,32]⟩⟩,⟨2,false,3,⟨#[32,61,61,32]⟩⟩,⟨2,false,3,⟨#[32,33,61,32]⟩⟩,⟨2,false,3,⟨#[32,60,32]⟩⟩,⟨2,false,3,⟨#[32,60,61,32]⟩⟩,⟨2,false,3,⟨#[32,62,32]⟩⟩,⟨2,false,3,⟨#[32,62,61,32]⟩⟩,⟨2,false,2,⟨#[32,97,110,100,32]⟩⟩,⟨2,false,1,⟨#[32,111,114,32]⟩⟩]
def JY:List Fm:=[⟨false,false,0,0,false,false⟩,⟨true,false,1,1,false,false⟩,⟨true,false,2,2,false,false⟩,⟨true,false,1,1,false,false⟩,⟨false,false,1,1,true,true⟩,⟨false,false,1,1,true,false⟩,⟨true,true,0,4,false,false⟩,⟨false,true,1,5,false,false⟩,⟨false,false,2,2,false,true⟩,⟨true,false,1,1,false,true⟩,⟨false,false,0,0,false,false⟩]
def shO(o:Nat):Sh:=JX.getD o ⟨0,false,0,⟨#[]⟩⟩
def fmO(o:Nat):Fm:=JY.getD o ⟨false,false,0,0,false,false⟩
theorem aLt{o:Nat}(h:o≤23):JX[o]?=some (shO o):=by
 have hl:o<JX.length:=by show o<24;omega
 rw[shO,aRp,gge hl];rfl
theorem aLu{o:Nat}(h:o≤10):JY[o]?=some (fmO o):=by
 have hl:o<JY.length:=by show o<11;omega
 rw[fmO,aRp,gge hl];rfl
abbrev gK:Ad:=ros Dc (some ⟨6,0,none⟩) Re
abbrev shC:Ad:=ros Sh.cells (some ⟨7,0,none⟩) JX
abbrev fmC:Ad:=ros Fm.cells (some ⟨4,0,none⟩) JY
abbrev gl:List Ad:=[gK,shC,fmC]
def glc:Ad:=all gl
theorem aBl:owns gl=[]:=rfl
theorem Mm{Γ:List Ad}(i:Nat)(h:Γ[i]?=some glc):∀w,oks Γ w→oks gl w:=fun w hw=>(hw _ (av h):sat gl w).each
def nS(c:Nat):Bool:=(decide (97≤c)&&decide (c≤122))||(decide (65≤c)&&decide (c≤90))
def aBm(c:Nat):Bool:=decide (48≤c)&&decide (c≤57)
def kZ(c:Nat):Bool:=nS c||(aBm c||decide (c=95))
theorem rX(c:Nat):
    Bg Tryz.prog 212 [ub c] [] (fun v _=>v= .bool (nS c)):=by
 refine Ba Tryz.func212 Tryz.ntmps212 fun w0=>?_;refine Jz 9 ?_;refine JgP ?_ ?_<;>intro g5;refine Jz 3 ?_;refine JgP ?_ ?_<;>intro g9;refine Jz 11 ?_;refine bv Tryz.results212 ?_;refine aPe Value.bool ?_;rw[Bool.eq_iff_iff];simp only[nS,aRj,aPk,aQx,Bool.false_eq_true,iff_false,false_iff,true_iff,iff_true];omega;refine Jz 2 ?_;refine JgP ?_ ?_<;>intro g12;refine Jz 8 ?_;refine bv Tryz.results212 ?_;refine aPe Value.bool ?_;rw[Bool.eq_iff_iff];simp only[nS,aRj,aPk,aQx,Bool.false_eq_true,iff_false,false_iff,true_iff,iff_true];omega;refine Jz 8 ?_;refine bv Tryz.results212 ?_;refine aPe Value.bool ?_;rw[Bool.eq_iff_iff];simp only[nS,aRj,aPk,aQx,Bool.false_eq_true,iff_false,false_iff,true_iff,iff_true];omega;refine Jz 6 ?_;refine JgP ?_ ?_<;>intro g12;refine Jz 8 ?_;refine bv Tryz.results212 ?_;refine aPe Value.bool ?_;rw[Bool.eq_iff_iff];simp only[nS,aRj,aPk,aQx,Bool.false_eq_true,iff_false,false_iff,true_iff,iff_true];omega;refine Jz 8 ?_;refine bv Tryz.results212 ?_;refine aPe Value.bool ?_;rw[Bool.eq_iff_iff];simp only[nS,aRj,aPk,aQx,Bool.false_eq_true,iff_false,false_iff,true_iff,iff_true];omega
theorem UW(c:Nat):
    Bg Tryz.prog 216 [ub c] [] (fun v _=>v= .bool (aBm c)):=by
 refine Ba Tryz.func216 Tryz.ntmps216 fun w0=>?_;refine Jz 9 ?_;refine JgP ?_ ?_<;>intro g5;refine Jz 7 ?_;refine bv Tryz.results216 ?_;refine aPe Value.bool ?_;rw[Bool.eq_iff_iff];simp only[aBm,aRj,aPk,aQx,Bool.false_eq_true,iff_false,false_iff,true_iff,iff_true];omega;refine Jz 7 ?_;refine bv Tryz.results216 ?_;refine aPe Value.bool ?_;rw[Bool.eq_iff_iff];simp only[aBm,aRj,aPk,aQx,Bool.false_eq_true,iff_false,false_iff,true_iff,iff_true];omega
theorem NS(c:Nat):
    Bg Tryz.prog 214 [ub c] [] (fun v _=>v= .bool (kZ c)):=by
 refine Ba Tryz.func214 Tryz.ntmps214 fun w0=>?_;refine Jz 8 ?_;refine Jvf (rX c) rfl (af _) ?_;refine aFr rfl rfl rfl (dz rfl rfl) (fun g5=>?_) (fun g5=>?_);refine Jz 11 ?_;refine bv Tryz.results214 ?_;refine aPe Value.bool ?_;simp[kZ,g5]<;>omega;refine Jm ?_;refine Jvf (UW c) rfl (af _) ?_;refine aJe ?_;refine JgB ?_ ?_<;>intro g9;refine Jz 7 ?_;refine bv Tryz.results214 ?_;refine aPe Value.bool ?_;simp[kZ,g5,g9]<;>omega;refine Jz 7 ?_;refine bv Tryz.results214 ?_;refine aPe Value.bool ?_;simp[kZ,g5,g9]<;>omega
theorem NT(s:List Nat)(hs:∀x∈s,x<256∧kZ x=true)(hl:s.length≤12):
    Bg Tryz.prog 213 [.string (fT s), .func (.func 214) #[] #[]] [] (fun v _=>v=nv s.length):=by
 refine Ba Tryz.func213 Tryz.ntmps213 fun w0=>?_;refine Jz 12 ?_;refine Em [] rfl (Jh (fun u g mz ρ Γ=>∃(j:Nat),ρ=[u 0,u 1,(5,nv j)]∧Γ=[]∧mz=s.length-j∧(j≤s.length)) ⟨⟨0,rfl,rfl,rfl,om⟩,sb⟩ ?_);rintro mz _ _ ⟨j,rfl,rfl,rfl,hj⟩;refine Jz 5 ?_;refine Jr (Tm rfl Tryz.underlying9 rfl) ?_;refine Jlt ?_;refine JgP ?_ ?_<;>intro g10;refine Jz 3 ?_;obtain⟨c,hc⟩:∃c,s[j]?=some c:=⟨_,gge om⟩
 refine Jr (JW (j:=j) rfl Tryz.underlying9 rfl rfl hc (hs _ (av hc)).1) ?_;refine JcV rfl rfl rfl (dn (first:=[]) (captured:=[]) rfl rfl rfl (kc.h 214 rfl)) ((NS c).mono (R':=fun v _=>v=bt) (fun v _ h=>by rw[h,(hs c (av hc)).2])) rfl (af _) (Jz 14 ?_);refine Em [] rfl (Db ⟨⟨j+1,rfl,rfl,rfl,om⟩,sb⟩);refine Jz 21 ?_;refine bv Tryz.results213 ?_;exact aPe iv om
theorem FI(s:List Nat)(hk:∀w∈Re,w≠fT s):
    Bg Tryz.prog 215 [.string (fT s)] [gK] (fun v _=>v=bf):=by
 refine Ba Tryz.func215 Tryz.ntmps215 fun w0=>?_;refine Jz 8 ?_;refine Jr (Pg (i:=0) (us:=Re.flatMap Dc) rfl rfl aOf rfl (Eb (A:=some ⟨6,0,none⟩) (o:=0) (k:=39) rfl) rfl) ?_;refine Jz 4 ?_;refine Em [0] rfl (Jh (fun u g mz ρ Γ=>∃(j:Nat),ρ=[u 0,u 5,(6,nv j)]∧Γ=[g 0]∧mz=39-j∧(j≤39)) ⟨⟨0,rfl,rfl,rfl,om⟩,sb⟩ ?_);rintro mz _ _ ⟨j,rfl,rfl,rfl,hj⟩;refine Jz 6 ?_;refine ax rfl ?_ ?_<;>intro k7;have hlt:j<39:=om;obtain⟨w,hw⟩:∃w,Re[j]?=some w:=⟨_,gge (show j<Re.length from hlt)⟩
 refine Jz 6 ?_;refine Jr (FH (xs:=Re.flatMap Dc) rfl Tryz.underlying364 Tryz.underlying9 kr rfl rfl hlt (UV hw)) ?_;refine Jz 7 ?_;refine Jr (Ky rfl rfl rfl) ?_;refine Jn (Jt (ax rfl (fun k11=>?_) (fun k11=>?_)));exact aPu k11 (hk w (av hw));refine Jz 8 ?_;refine Em [0] rfl (Db ⟨⟨j+1,rfl,rfl,rfl,om⟩,sb⟩);refine Jz 11 ?_;refine bv Tryz.results215 ?_;rfl
theorem UX(s:List Nat)(c:Nat)(h0:s[0]?=some c)(hc:nS c=true)(hs:∀x∈s,x<256∧kZ x=true)(hl:s.length≤12)(hk:∀w∈Re,w≠fT s):
    Bg Tryz.prog 172 [.string (fT s)] [gK] (fun v _=>v= .tuple #[ui 1,nv s.length]):=by
 refine Ba Tryz.func172 Tryz.ntmps172 fun w0=>?_;refine Jz 10 ?_;refine Jr (JW (j:=0) rfl Tryz.underlying9 rfl rfl h0 (hs _ (av h0)).1) ?_;refine Jz 7 ?_;refine Jvf ((rX c).mono (R':=fun v _=>v=bt) (fun v _ h=>by rw[h,hc])) rfl (af _) ?_;refine Jz 7 ?_;refine Jvf (NT s hs hl) rfl (af _) ?_;refine Jz 8 ?_;refine Jr (Cn (v':= .string (fT s)) (aPe (fun l=>Value.string (fT l)) (aQa (aPl _))) (Rd.strSl (a:=0) (b:=s.length) rfl Tryz.underlying9 rfl rfl ⟨_,rfl⟩ om (aPl _))) ?_;refine Jvf (FI s hk) rfl (ag (au 0 rfl) (af _)) ?_;refine Jz 11 ?_;refine ax rfl ?_ ?_<;>intro k32;refine Jz 10 ?_;refine Eo (.inl rfl) Tryz.results172 rfl rfl ?_;rfl;exact aPu hl om
theorem aGz(s:List Nat)(c:Nat)(h0:s[0]?=some c)(hc:nS c=true)(hs:∀x∈s,x<256∧kZ x=true)(hl:s.length≤12)(hk:∀w∈Re,w≠fT s)(hne:fT s≠nE):
    Bg Tryz.prog 116 [.string (fT s)] [gK] (fun v _=>v=bt):=by
 refine Ba Tryz.func116 Tryz.ntmps116 fun w0=>?_;refine Jz 9 ?_;refine Jr (Ky rfl rfl rfl) ?_;refine Jn (Jt (ax rfl (fun k6=>?_) (fun k6=>?_)));exact aPu k6 hne;refine Jz 5 ?_;refine Jvf (UX s c h0 hc hs hl hk) rfl (ag (au 0 rfl) (af _)) ?_;refine Jz 14 ?_;refine Jr (Tm rfl Tryz.underlying9 rfl) ?_;refine Jz 6 ?_;refine bv Tryz.results116 ?_;exact aPe Value.bool (aQg rfl)
theorem rY(o:Nat)(h1:1≤o)(h2:o≤23):
    Bg Tryz.prog 219 [ub o] [shC] (fun v Γ'=>v= .tuple #[.agg (Sh.cells (shO o)).toArray,bt]∧Γ'=[]):=by
 refine Ba Tryz.func219 Tryz.ntmps219 fun w0=>?_;refine Js (dh (ay fun b2=>?_));refine Jz 8 ?_;refine JgP ?_ ?_<;>intro g6;exact aPu g6 om;refine Jz 5 ?_;refine ax rfl ?_ ?_<;>intro k9;exact aPu k9 om;refine Jz 5 ?_;refine Jr (Df (j:=o) rfl (Io.of (size:=4) Tryz.underlying365 kr) rfl rfl om) ?_;refine Jr (Pg (i:=1) rfl rfl aLc rfl (rsg aEo (A:=some ⟨7,0,none⟩) (aLt (o:=o) om)) (aEo.len _)) ?_;refine Jz 5 ?_;refine Jy [] rfl (.inl rfl) Tryz.results219 rfl (i:=0) rfl aLc rfl rfl ?_;exact⟨rfl,rfl⟩
theorem UY(o:Nat)(h1:1≤o)(h2:o≤10):
    Bg Tryz.prog 173 [ub o] [fmC] (fun v Γ'=>v= .tuple #[.agg (Fm.cells (fmO o)).toArray,bt]∧Γ'=[]):=by
 refine Ba Tryz.func173 Tryz.ntmps173 fun w0=>?_;refine Js (dh (ay fun b2=>?_));refine Jz 8 ?_;refine JgP ?_ ?_<;>intro g6;exact aPu g6 om;refine Jz 5 ?_;refine ax rfl ?_ ?_<;>intro k9;exact aPu k9 om;refine Jz 5 ?_;refine Jr (Df (j:=o) rfl (Io.of (size:=6) Tryz.underlying345 kr) rfl rfl om) ?_;refine Jr (Pg (i:=1) rfl rfl aLa rfl (rsg aEp (A:=some ⟨4,0,none⟩) (aLu (o:=o) om)) (aEp.len _)) ?_;refine Jz 5 ?_;refine Jy [] rfl (.inl rfl) Tryz.results173 rfl (i:=0) rfl aLa rfl rfl ?_;exact⟨rfl,rfl⟩
open Go.RowKit Go.Flow Go.Mem Go.Sep Go.In
open Go.In
def Ta:List (List Nat):=[[120,48],[120,49],[120,50],[112,48],[112,49],[102,48],[102,49],[104,48],[104,49],[104,50],[98,48],[116,48],[97],[98],[99],[102,108,101,101,116,49],[102],[120],[110],[116],[104],[105],[103],[107],[106]]
def Oc(s:yB):Prop:=∃t∈Ta,s=fT t
theorem UZ:∀t∈Ta,((∃c,t[0]?=some c∧nS c=true)∧(∀x∈t,x<256∧kZ x=true)∧t.length≤12)∧(∀w∈Re,w≠fT t)∧fT t≠nE:=by
 have h:Ta.all (fun t=>(nS (t.getD 0 0)&&decide (0<t.length))&&(t.all (fun x=>decide (x<256)&&kZ x)&&decide (t.length≤12))&&(Re.all (fun w=>decide (w≠fT t))&&decide (fT t≠nE)))=true:=by decide+kernel
 intro t ht;have h:=aRd.1 h t ht;simp only[aPk,aRd,aQx]at h;obtain⟨⟨⟨h1,h2⟩,h3,h4⟩,h5,h6⟩:=h;exact⟨⟨⟨t.getD 0 0,by rw[aRp,gge h2];rfl,h1⟩,h3,h4⟩,h5,h6⟩
theorem Kh{s:yB}(h:Oc s):Bg Tryz.prog 116 [.string s] gl (fun v _=>v=bt):=by
 obtain⟨t,ht,rfl⟩:=h;obtain⟨⟨⟨c,h0,hc⟩,hs,hl⟩,hk,hne⟩:=UZ t ht;exact Bg.sub (is:=[0]) (aGz t c h0 hc hs hl hk hne) rfl
theorem vW{k:Nat}(h:k<3):Oc (nm 120 k):=by
 match k,h with
 |0,_=>exact⟨_,(by decide:[120,48]∈Ta),rfl⟩
 |1,_=>exact⟨_,(by decide:[120,49]∈Ta),rfl⟩
 |2,_=>exact⟨_,(by decide:[120,50]∈Ta),rfl⟩
theorem VA{k:Nat}(h:k<2):Oc (nm 112 k):=by
 match k,h with
 |0,_=>exact⟨_,(by decide:[112,48]∈Ta),rfl⟩
 |1,_=>exact⟨_,(by decide:[112,49]∈Ta),rfl⟩
theorem VB{k:Nat}(h:k<2):Oc (nm 102 k):=by
 match k,h with
 |0,_=>exact⟨_,(by decide:[102,48]∈Ta),rfl⟩
 |1,_=>exact⟨_,(by decide:[102,49]∈Ta),rfl⟩
theorem FJ{k:Nat}(h:k<3):Oc (nm 104 k):=by
 match k,h with
 |0,_=>exact⟨_,(by decide:[104,48]∈Ta),rfl⟩
 |1,_=>exact⟨_,(by decide:[104,49]∈Ta),rfl⟩
 |2,_=>exact⟨_,(by decide:[104,50]∈Ta),rfl⟩
theorem vX{k:Nat}(h:k<3):Oc (nC k):=by
 match k,h with
 |0,_=>exact⟨_,(by decide:[97]∈Ta),rfl⟩
 |1,_=>exact⟨_,(by decide:[98]∈Ta),rfl⟩
 |2,_=>exact⟨_,(by decide:[99]∈Ta),rfl⟩
theorem vY:Oc nB0:=⟨_,(by decide:[98,48]∈Ta),rfl⟩
theorem Zl:Oc nT0:=⟨_,(by decide:[116,48]∈Ta),rfl⟩
theorem aBn:Oc (fT [102,108,101,101,116,49]):=⟨_,(by decide:[102,108,101,101,116,49]∈Ta),rfl⟩
open Go.RowKit Go.Flow Go.Mem Go.Sep Go.In
open Go.In
def dW:List Nat:=[0,0,0,0,0,0,1,1,0,1,1,2,2,2,2,2,2,2,2,2,2,2,2,2]
def jF:List Bool:=[false,false,false,false,false,true,true,true,true,false,false,false,false,false,false,false,false,false,false,false,false,false,false,false]
theorem aEq:∀o,o≤23→(shO o).n=dW.getD o 0∧(shO o).nm=jF.getD o false:=by decide
theorem zL{o:Nat}(h1:1≤o)(h2:o≤23):Bg Tryz.prog 219 [ub o] gl (fun v Γ'=>∃(c:Int) (d:yB),v= .tuple #[.agg #[nv (dW.getD o 0), .bool (jF.getD o false),iv c, .string d],bt]∧Γ'=[]):=
 (Bg.sub (is:=[1]) (rY o h1 h2) rfl).mono fun v Γ' hv=>⟨(shO o).lv,(shO o).tx,by rw[hv.1,←(aEq o h2).1,←(aEq o h2).2];rfl,hv.2⟩
def aOg:List (Bool×Bool×Nat×Nat×Bool×Bool):=[(false,false,0,0,false,false),(true,false,1,1,false,false),(true,false,2,2,false,false),(true,false,1,1,false,false),(false,false,1,1,true,true),(false,false,1,1,true,false),(true,true,0,4,false,false),(false,true,1,5,false,false),(false,false,2,2,false,true),(true,false,1,1,false,true),(false,false,0,0,false,false)]
abbrev frm(k:Nat):=aOg.getD k (false,false,0,0,false,false)
theorem aLv(k:Nat)(hk:k≤10):((fmO k).a,(fmO k).b,(fmO k).c,(fmO k).d,(fmO k).e,(fmO k).f)=frm k:=by
 have h:(List.range 11).all (fun k=>((fmO k).a,(fmO k).b,(fmO k).c,(fmO k).d,(fmO k).e,(fmO k).f)==frm k)=true:=by decide+kernel
 exact eq_of_beq (aRd.1 h k (List.mem_range.2 om))
theorem JZ{k:Nat}(h1:1≤k)(h2:k≤10):Bg Tryz.prog 173 [ub k] gl (fun v _=>v= .tuple #[.agg #[.bool (frm k).1, .bool (frm k).2.1,nv ((frm k).2.2.1),nv ((frm k).2.2.2.1), .bool (frm k).2.2.2.2.1, .bool (frm k).2.2.2.2.2],bt]):=
 (Bg.sub (is:=[2]) (UY k h1 h2) rfl).mono fun v Γ' hv=>by rw[hv.1,←aLv k h2];rfl
theorem aV{C:Cx}{ρ:Bo}{Γ:List Ad}{K:Act→wD→Prop}{α:Type}{enc:α→List vU}{size:Nat}(E:Enc enc size)(hs:0<size){A:OA}{l:List α}{x:α}{j:Nat}(i:Nat)(hi:Γ[i]?=some (ros enc A l))(hx:l[j]?=some x)(h:To C ρ (ros enc (some ⟨blk A,ofs A+j*size,none⟩) [x]::Γ) K):To C ρ Γ K:=by
 have hj:j<l.length:=(aOz.1 hx).1;have e:l.flatMap enc=(l.take j).flatMap enc++(enc x++(l.drop (j+1)).flatMap enc):=by
  conv=>lhs;rw[←aRa j l,dog hx]
  rw[aQs,aQq]
 have el:((l.take j).flatMap enc).length=j*size:=by rw[E.flat_len,aPo,Nat.min_eq_left om]
 have ne:l.flatMap enc≠[]:=fun h0=>by
  have:=aPe List.length e;rw[h0,bu,bu,E.len,ln0]at this;omega
 refine kU (p:=A=some ⟨blk A,ofs A,none⟩) (fun w hw=>?_) (fun hA=>?_)
 · have hq:Src w A (l.flatMap enc):=hw.each _ (av hi)
   rcases hq with h0|⟨g,off,h0,_⟩
   ·exact aPu h0 ne
   ·rw[h0];rfl
 refine Zc (ros enc (some ⟨blk A,ofs A+j*size,none⟩) [x]) rfl (fun g hg=>Uj i hi ?_) (fun w hw=>?_) h
 · show g∈Iw A (l.flatMap enc)
   have hg1:g∈Iw (some ⟨blk A,ofs A+j*size,none⟩) ([x].flatMap enc):=hg;cases h2:[x].flatMap enc with
   |nil=>rw[h2]at hg1;simp[Iw]at hg1
   | cons u us=>
     rw[h2]at hg1;have hg2:g=blk A:=by simpa[Iw,Ik]using hg1
     cases h3:l.flatMap enc with
     |nil=>exact aPu h3 ne
     | cons u2 us2=>
       show g∈Ik A;rw[hA,hg2];simp[Ik]
 · have hq:Src w A (l.flatMap enc):=hw _ (av hi)
   refine .inr ⟨blk A,ofs A+j*size,rfl,fun k v hv=>?_⟩;rw[aQq,List.flatMap_nil,aPw]at hv;have hk:k<(enc x).length:=(aOz.1 hv).1;have hj2:(l.flatMap enc)[j*size+k]?=some v:=by
    rw[e,aQt om,el,Nat.add_sub_cancel_left,aQh hk];exact hv
   rcases hq with h0|⟨g,off,h0,hr⟩
   ·exact aPu h0 ne
   · subst h0
     have:=hr (j*size+k) v hj2;rw[←Nat.add_assoc]at this;exact this
end Go.Proofs.YtihgdnjkofpgiaaGreatDoor
