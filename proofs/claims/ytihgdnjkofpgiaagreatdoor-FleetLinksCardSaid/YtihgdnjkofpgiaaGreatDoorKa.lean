/- Own text. -/
import Derived.Test.YtihgdnjkofpgiaaGreatDoorBa
import Derived.Laws.Strings
set_option linter.unusedVariables false
set_option linter.unusedSimpArgs false
set_option maxHeartbeats 2000000
set_option maxRecDepth 100000
namespace Go.Sep
open Go.RowKit Go.Flow Go.Mem
theorem gW(s u:ByteArray):(s.toList==u.toList)=decide (s=u):=by
 rw[ByteArray.toList_eq,ByteArray.toList_eq,Bool.eq_iff_iff,aPf,beq_iff_eq];refine⟨fun h=>?_,fun h=>by rw[h]⟩;cases s;cases u;simp only at h;rw[Array.toList_inj.1 h]
theorem Jb{P:Program}{o:Oper}{ρ:Bj}{Γ:List Ad}{x y:Operand}{t t':TypeId}{s u:ByteArray}(ho:o.op= .binOp .eql t x y t')(hx:ev ρ x=some (.string s))(hy:ev ρ y=some (.string u)):Rd P o ρ Γ (.bool (decide (s=u))):=dw ho hx hy fun w=>by
 simp[eqGuard,binOp,Op.equal,Op.stringOp,gW]
theorem uR{P:Program}{o:Oper}{ρ:Bj}{Γ:List Ad}{x y:Operand}{t t':TypeId}{s u:ByteArray}(ho:o.op= .binOp .neq t x y t')(hx:ev ρ x=some (.string s))(hy:ev ρ y=some (.string u)):Rd P o ρ Γ (.bool (decide (s≠u))):=dw ho hx hy fun w=>by
 simp[eqGuard,binOp,Op.equal,Op.stringOp,gW]
end Go.Sep
namespace Go.Proofs.YtihgdnjkofpgiaaGreatDoor
open Go.RowKit Go.Flow Go.Mem Go.Sep Go.In
open Go.In
theorem ED{P:pG}{o:Oper}{ρ:Bj}{Γ:List Ad}{x y:Operand}{t e:tI}{n j:Nat}{k:IntKind}{xs:List vU}{v:vU}(ho:o.op= .index t x y)(ht:P.underlying t=some (.array n e))(he:P.underlying e=some .string)(h1:(P.info? e).map (·.size)=some 1)(hx:ev ρ x=some (.agg xs.toArray))(hy:ev ρ y=some (.int k (j:Int)))(hj:j<n)(hv:xs[j]?=some v):Rd P o ρ Γ v:=fun a w ha _=>by
 obtain⟨i,hi,h1⟩:=aOr.1 h1;unfold execOp;simp[ho,ha.eval hx,ha.eval hy,Instr.index,asIntOf,run_underlying ht,sizeOf,typeInfo,hi,h1,part,isAgg,run_underlying he,hv];omega
theorem JB{P:pG}{o:Oper}{ρ:Bj}{Γ:List Ad}{x y:Operand}{t:tI}{s:List Nat}{j c:Nat}{k:IntKind}(ho:o.op= .index t x y)(ht:P.underlying t=some .string)(hx:ev ρ x=some (.string (fT s)))(hy:ev ρ y=some (.int k (j:Int)))(hj:s[j]?=some c)(hc:c<256):Rd P o ρ Γ (ub c):=by
 have hl:=(aNr.1 hj).1;have hs:j<(fT s).size:=by rw[Am];exact hl
 have e1:(fT s).data[j]?=some (UInt8.ofNat c):=by unfold fT;simp[hj]
 have e:((fT s).data[j]'hs).toNat=c:=by
  obtain⟨_,e2⟩:=aQh.1 e1;rw[e2,UInt8.toNat_ofNat',Nat.mod_eq_of_lt hc]
 have h:=gH (P:=P) (Γ:=Γ) ho ht hx hy hs;rw[e]at h;exact h
theorem Bd.sub{P:pG}{f:FuncId}{args:List vU}{Γ Γ1 Δ:List Ad}{R:vU→List Ad→Prop}{is:List Nat}(h:Bd P f args Γ1 R)(hp:Ui Γ is=some (Γ1,Δ)):Bd P f args Γ R:=fun w hs=>
 (h w ((hs.perm (Jv hp)).left)).mono fun _ _ ⟨v,Γ',h1,h2,h3⟩=>⟨v,Γ',h1,h2,(Db.at_ hp hs h3).drop⟩
def Qr:List yB:=[⟨#[97,102,116,101,114]⟩,⟨#[97,108,119,97,121,115]⟩,⟨#[97,110,100]⟩,⟨#[97,114,114,105,118,101,115]⟩,⟨#[98,111,111,108]⟩,⟨#[99,111,109,112,111,110,101,110,116]⟩,⟨#[99,111,117,110,116]⟩,⟨#[100,101,108,101,116,101]⟩,⟨#[100,111]⟩,⟨#[101,108,115,101]⟩,⟨#[101,120,105,115,116,115]⟩,⟨#[102,97,108,115,101]⟩,⟨#[102,101,116,99,104]⟩,⟨#[102,108,97,103]⟩,⟨#[102,108,101,101,116]⟩,⟨#[102,111,114,97,108,108]⟩,⟨#[104,97,115]⟩,⟨#[105,102]⟩,⟨#[105,109,112,108,105,101,115]⟩,⟨#[105,110]⟩,⟨#[105,110,116]⟩,⟨#[108,97,116,101,110,99,121]⟩,⟨#[108,105,110,107]⟩,⟨#[110,111,116]⟩,⟨#[110,111,119]⟩,⟨#[111,110]⟩,⟨#[111,110,99,101]⟩,⟨#[111,114]⟩,⟨#[112,114,101,118,105,111,117,115]⟩,⟨#[115,101,110,100]⟩,⟨#[115,105,110,99,101]⟩,⟨#[115,105,122,101]⟩,⟨#[115,116,111,112]⟩,⟨#[115,116,111,114,101]⟩,⟨#[116,97,98,108,101]⟩,⟨#[116,114,117,101]⟩,⟨#[118,97,114]⟩,⟨#[118,101,114,115,105,111,110]⟩,⟨#[119,104,105,108,101]⟩]
theorem TW{j:Nat}{w:yB}(h:Qr[j]?=some w):(Qr.flatMap Da)[j]?=some (.string w):=by
 have e:∀l:List yB,l.flatMap Da=l.map Value.string:=fun l=>by
  induction l with
  |nil=>rfl
  |cons a r ih=>rw[aPl,ih];rfl
 rw[e,aOf,h];rfl
structure Sh where
 n:Nat
 nm:Bool
 lv:Int
 tx:yB
def Sh.cells(e:Sh):List vU:=[nv e.n, .bool e.nm,iv e.lv, .string e.tx]
instance aDk:Enc Sh.cells 4:=⟨fun _=>rfl,fun e u hu=>by
 simp only[Sh.cells,aNx,aOe,aPh]at hu;rcases hu with rfl|rfl|rfl|rfl<;>rfl⟩
structure Fm where
 a:Bool
 b:Bool
 c:Nat
 d:Nat
 e:Bool
 f:Bool
def Fm.cells(x:Fm):List vU:=[.bool x.a, .bool x.b,nv x.c,nv x.d, .bool x.e, .bool x.f]
instance aDl:Enc Fm.cells 6:=⟨fun _=>rfl,fun e u hu=>by
 simp only[Fm.cells,aNx,aOe,aPh]at hu;rcases hu with rfl|rfl|rfl|rfl|rfl|rfl<;>rfl⟩
def JC:List Sh:=[⟨0,false,0,⟨#[]⟩⟩,⟨0,false,7,⟨#[]⟩⟩,⟨0,false,7,⟨#[116,114,117,101]⟩⟩,⟨0,false,7,⟨#[102,97,108,115,101]⟩⟩,⟨0,false,7,⟨#[110,111,119]⟩⟩,⟨0,true,7,⟨#[]⟩⟩,⟨1,true,7,⟨#[]⟩⟩,⟨1,true,7,⟨#[104,97,115,32]⟩⟩,⟨0,true,7,⟨#[115,105,122,101,32]⟩⟩,⟨1,false,6,⟨#[45]⟩⟩,⟨1,false,6,⟨#[110,111,116,32]⟩⟩,⟨2,false,5,⟨#[32,42,32]⟩⟩,⟨2,false,5,⟨#[32,47,32]⟩⟩,⟨2,false,5,⟨#[32,37,32]⟩⟩,⟨2,false,4,⟨#[32,43,32]⟩⟩,⟨2,false,4,⟨#[32,45,32]⟩⟩,⟨2,false,3,⟨#[32,61,61,32]⟩⟩,⟨2,false,3,⟨#[32,33,61,32]⟩⟩,⟨2,false,3,⟨#[32,60,32]⟩⟩,⟨2,false,3,⟨#[32,60,61,32]⟩⟩,⟨2,false,3,⟨#[32,62,32]⟩⟩,⟨2,false,3,⟨#[32,62,61,32]⟩⟩,⟨2,false,2,⟨#[32,97,110,100,32]⟩⟩,⟨2,false,1,⟨#[32,111,114,32]⟩⟩]
def JD:List Fm:=[⟨false,false,0,0,false,false⟩,⟨true,false,1,1,false,false⟩,⟨true,false,2,2,false,false⟩,⟨true,false,1,1,false,false⟩,⟨false,false,1,1,true,true⟩,⟨false,false,1,1,true,false⟩,⟨true,true,0,4,false,false⟩,⟨false,true,1,5,false,false⟩,⟨false,false,2,2,false,true⟩,⟨true,false,1,1,false,true⟩,⟨false,false,0,0,false,false⟩]
def shO(o:Nat):Sh:=JC.getD o ⟨0,false,0,⟨#[]⟩⟩
def fmO(o:Nat):Fm:=JD.getD o ⟨false,false,0,0,false,false⟩
theorem aKh{o:Nat}(h:o≤23):JC[o]?=some (shO o):=by
 have hl:o<JC.length:=by show o<24;omega
 rw[shO,aQg,gge hl];rfl
theorem aKi{o:Nat}(h:o≤10):JD[o]?=some (fmO o):=by
 have hl:o<JD.length:=by show o<11;omega
 rw[fmO,aQg,gge hl];rfl
abbrev fF:Ad:=ros Da (some ⟨6,0,none⟩) Qr
abbrev shC:Ad:=ros Sh.cells (some ⟨7,0,none⟩) JC
abbrev fmC:Ad:=ros Fm.cells (some ⟨4,0,none⟩) JD
abbrev gl:List Ad:=[fF,shC,fmC]
def ay:Ad:=all gl
theorem aAk:owns gl=[]:=rfl
theorem Lx{Γ:List Ad}(i:Nat)(h:Γ[i]?=some ay):∀w,oks Γ w→oks gl w:=fun w hw=>(hw _ (sN h):sat gl w).each
def mX(c:Nat):Bool:=(decide (97≤c)&&decide (c≤122))||(decide (65≤c)&&decide (c≤90))
def aAl(c:Nat):Bool:=decide (48≤c)&&decide (c≤57)
def kI(c:Nat):Bool:=mX c||(aAl c||decide (c=95))
theorem qZ(c:Nat):
    Bd Tryz.prog 212 [ub c] [] (fun v _=>v= .bool (mX c)):=by
 refine Ba Tryz.func212 Tryz.ntmps212 fun w0=>?_;refine Jz 9 ?_;refine JgP ?_ ?_<;>intro g5;refine Jz 3 ?_;refine JgP ?_ ?_<;>intro g9;refine Jz 11 ?_;refine ak Tryz.results212 ?_;refine aOa Value.bool ?_;rw[Bool.eq_iff_iff];simp only[mX,aPu,aOc,aPf,Bool.false_eq_true,iff_false,false_iff,true_iff,iff_true];omega;refine Jz 2 ?_;refine JgP ?_ ?_<;>intro g12;refine Jz 8 ?_;refine ak Tryz.results212 ?_;refine aOa Value.bool ?_;rw[Bool.eq_iff_iff];simp only[mX,aPu,aOc,aPf,Bool.false_eq_true,iff_false,false_iff,true_iff,iff_true];omega;refine Jz 8 ?_;refine ak Tryz.results212 ?_;refine aOa Value.bool ?_;rw[Bool.eq_iff_iff];simp only[mX,aPu,aOc,aPf,Bool.false_eq_true,iff_false,false_iff,true_iff,iff_true];omega;refine Jz 6 ?_;refine JgP ?_ ?_<;>intro g12;refine Jz 8 ?_;refine ak Tryz.results212 ?_;refine aOa Value.bool ?_;rw[Bool.eq_iff_iff];simp only[mX,aPu,aOc,aPf,Bool.false_eq_true,iff_false,false_iff,true_iff,iff_true];omega;refine Jz 8 ?_;refine ak Tryz.results212 ?_;refine aOa Value.bool ?_;rw[Bool.eq_iff_iff];simp only[mX,aPu,aOc,aPf,Bool.false_eq_true,iff_false,false_iff,true_iff,iff_true];omega
theorem TY(c:Nat):
    Bd Tryz.prog 216 [ub c] [] (fun v _=>v= .bool (aAl c)):=by
 refine Ba Tryz.func216 Tryz.ntmps216 fun w0=>?_;refine Jz 9 ?_;refine JgP ?_ ?_<;>intro g5;refine Jz 7 ?_;refine ak Tryz.results216 ?_;refine aOa Value.bool ?_;rw[Bool.eq_iff_iff];simp only[aAl,aPu,aOc,aPf,Bool.false_eq_true,iff_false,false_iff,true_iff,iff_true];omega;refine Jz 7 ?_;refine ak Tryz.results216 ?_;refine aOa Value.bool ?_;rw[Bool.eq_iff_iff];simp only[aAl,aPu,aOc,aPf,Bool.false_eq_true,iff_false,false_iff,true_iff,iff_true];omega
theorem MZ(c:Nat):
    Bd Tryz.prog 214 [ub c] [] (fun v _=>v= .bool (kI c)):=by
 refine Ba Tryz.func214 Tryz.ntmps214 fun w0=>?_;refine Jz 8 ?_;refine Jvf (qZ c) rfl (jP _) ?_;refine aEo rfl rfl rfl (dn rfl rfl) (fun g5=>?_) (fun g5=>?_);refine Jz 11 ?_;refine ak Tryz.results214 ?_;refine aOa Value.bool ?_;simp[kI,g5]<;>omega;refine Jm ?_;refine Jvf (TY c) rfl (jP _) ?_;refine JpF ?_;refine JgB ?_ ?_<;>intro g9;refine Jz 7 ?_;refine ak Tryz.results214 ?_;refine aOa Value.bool ?_;simp[kI,g5,g9]<;>omega;refine Jz 7 ?_;refine ak Tryz.results214 ?_;refine aOa Value.bool ?_;simp[kI,g5,g9]<;>omega
theorem NA(s:List Nat)(hs:∀x∈s,x<256∧kI x=true)(hl:s.length≤12):
    Bd Tryz.prog 213 [.string (fT s), .func (.func 214) #[] #[]] [] (fun v _=>v=nv s.length):=by
 refine Ba Tryz.func213 Tryz.ntmps213 fun w0=>?_;refine Jz 12 ?_;refine Eg [] rfl (Il (fun u g mz ρ Γ=>∃(j:Nat),ρ=[u 0,u 1,(5,nv j)]∧Γ=[]∧mz=s.length-j∧(j≤s.length)) ⟨⟨0,rfl,rfl,rfl,om⟩,sb⟩ ?_);rintro mz _ _ ⟨j,rfl,rfl,rfl,hj⟩;refine Jz 5 ?_;refine Jr (Sw rfl Tryz.underlying9 rfl) ?_;refine Jlt ?_;refine JgP ?_ ?_<;>intro g10;refine Jz 3 ?_;obtain⟨c,hc⟩:∃c,s[j]?=some c:=⟨_,gge om⟩
 refine Jr (JB (j:=j) rfl Tryz.underlying9 rfl rfl hc (hs _ (sN hc)).1) ?_;refine JcV rfl rfl rfl (di (first:=[]) (captured:=[]) rfl rfl rfl (kc.h 214 rfl)) ((MZ c).mono (R':=fun v _=>v=bt) (fun v _ h=>by rw[h,(hs c (sN hc)).2])) rfl (jP _) (Jz 14 ?_);refine Eg [] rfl (Dc ⟨⟨j+1,rfl,rfl,rfl,om⟩,sb⟩);refine Jz 21 ?_;refine ak Tryz.results213 ?_;exact aOa iv om
theorem EE(s:List Nat)(hk:∀w∈Qr,w≠fT s):
    Bd Tryz.prog 215 [.string (fT s)] [fF] (fun v _=>v=bf):=by
 refine Ba Tryz.func215 Tryz.ntmps215 fun w0=>?_;refine Jz 8 ?_;refine Jr (Qc (i:=0) (us:=Qr.flatMap Da) rfl rfl aMw rfl (Ev (A:=some ⟨6,0,none⟩) (o:=0) (k:=39) rfl) rfl) ?_;refine Jz 4 ?_;refine Eg [0] rfl (Il (fun u g mz ρ Γ=>∃(j:Nat),ρ=[u 0,u 5,(6,nv j)]∧Γ=[g 0]∧mz=39-j∧(j≤39)) ⟨⟨0,rfl,rfl,rfl,om⟩,sb⟩ ?_);rintro mz _ _ ⟨j,rfl,rfl,rfl,hj⟩;refine Jz 6 ?_;refine aa rfl ?_ ?_<;>intro k7;have hlt:j<39:=om;obtain⟨w,hw⟩:∃w,Qr[j]?=some w:=⟨_,gge (show j<Qr.length from hlt)⟩
 refine Jz 6 ?_;refine Jr (ED (xs:=Qr.flatMap Da) rfl Tryz.underlying364 Tryz.underlying9 kr rfl rfl hlt (TW hw)) ?_;refine Jz 7 ?_;refine Jr (Jb rfl rfl rfl) ?_;refine Jn (Jt (aa rfl (fun k11=>?_) (fun k11=>?_)));exact aOx k11 (hk w (sN hw));refine Jz 8 ?_;refine Eg [0] rfl (Dc ⟨⟨j+1,rfl,rfl,rfl,om⟩,sb⟩);refine Jz 11 ?_;refine ak Tryz.results215 ?_;rfl
theorem TZ(s:List Nat)(c:Nat)(h0:s[0]?=some c)(hc:mX c=true)(hs:∀x∈s,x<256∧kI x=true)(hl:s.length≤12)(hk:∀w∈Qr,w≠fT s):
    Bd Tryz.prog 172 [.string (fT s)] [fF] (fun v _=>v= .tuple #[ui 1,nv s.length]):=by
 refine Ba Tryz.func172 Tryz.ntmps172 fun w0=>?_;refine Jz 10 ?_;refine Jr (JB (j:=0) rfl Tryz.underlying9 rfl rfl h0 (hs _ (sN h0)).1) ?_;refine Jz 7 ?_;refine Jvf ((qZ c).mono (R':=fun v _=>v=bt) (fun v _ h=>by rw[h,hc])) rfl (jP _) ?_;refine Jz 7 ?_;refine Jvf (NA s hs hl) rfl (jP _) ?_;refine Jz 8 ?_;refine Jr (Cs (v':= .string (fT s)) (aOa (fun l=>Value.string (fT l)) (aOq (aOd _))) (Rd.strSl (a:=0) (b:=s.length) rfl Tryz.underlying9 rfl rfl ⟨_,rfl⟩ om (aOd _))) ?_;refine Jvf (EE s hk) rfl (jS (lS 0 rfl) (jP _)) ?_;refine Jz 11 ?_;refine aa rfl ?_ ?_<;>intro k32;refine Jz 10 ?_;refine Ei (.inl rfl) Tryz.results172 rfl rfl ?_;rfl;exact aOx hl om
theorem aFw(s:List Nat)(c:Nat)(h0:s[0]?=some c)(hc:mX c=true)(hs:∀x∈s,x<256∧kI x=true)(hl:s.length≤12)(hk:∀w∈Qr,w≠fT s)(hne:fT s≠nE):
    Bd Tryz.prog 116 [.string (fT s)] [fF] (fun v _=>v=bt):=by
 refine Ba Tryz.func116 Tryz.ntmps116 fun w0=>?_;refine Jz 9 ?_;refine Jr (Jb rfl rfl rfl) ?_;refine Jn (Jt (aa rfl (fun k6=>?_) (fun k6=>?_)));exact aOx k6 hne;refine Jz 5 ?_;refine Jvf (TZ s c h0 hc hs hl hk) rfl (jS (lS 0 rfl) (jP _)) ?_;refine Jz 14 ?_;refine Jr (Sw rfl Tryz.underlying9 rfl) ?_;refine Jz 6 ?_;refine ak Tryz.results116 ?_;exact aOa Value.bool (aOv rfl)
theorem rA(o:Nat)(h1:1≤o)(h2:o≤23):
    Bd Tryz.prog 219 [ub o] [shC] (fun v Γ'=>v= .tuple #[.agg (Sh.cells (shO o)).toArray,bt]∧Γ'=[]):=by
 refine Ba Tryz.func219 Tryz.ntmps219 fun w0=>?_;refine Js (cz (ae fun b2=>?_));refine Jz 8 ?_;refine JgP ?_ ?_<;>intro g6;exact aOx g6 om;refine Jz 5 ?_;refine aa rfl ?_ ?_<;>intro k9;exact aOx k9 om;refine Jz 5 ?_;refine Jr (Cz (j:=o) rfl (Ip.of (size:=4) Tryz.underlying365 kr) rfl rfl om) ?_;refine Jr (Qc (i:=1) rfl rfl aJu rfl (rsg aDk (A:=some ⟨7,0,none⟩) (aKh (o:=o) om)) (aDk.len _)) ?_;refine Jz 5 ?_;refine Tf [] rfl (.inl rfl) Tryz.results219 rfl (i:=0) rfl aJu rfl rfl ?_;exact⟨rfl,rfl⟩
theorem UA(o:Nat)(h1:1≤o)(h2:o≤10):
    Bd Tryz.prog 173 [ub o] [fmC] (fun v Γ'=>v= .tuple #[.agg (Fm.cells (fmO o)).toArray,bt]∧Γ'=[]):=by
 refine Ba Tryz.func173 Tryz.ntmps173 fun w0=>?_;refine Js (cz (ae fun b2=>?_));refine Jz 8 ?_;refine JgP ?_ ?_<;>intro g6;exact aOx g6 om;refine Jz 5 ?_;refine aa rfl ?_ ?_<;>intro k9;exact aOx k9 om;refine Jz 5 ?_;refine Jr (Cz (j:=o) rfl (Ip.of (size:=6) Tryz.underlying345 kr) rfl rfl om) ?_;refine Jr (Qc (i:=1) rfl rfl aJs rfl (rsg aDl (A:=some ⟨4,0,none⟩) (aKi (o:=o) om)) (aDl.len _)) ?_;refine Jz 5 ?_;refine Tf [] rfl (.inl rfl) Tryz.results173 rfl (i:=0) rfl aJs rfl rfl ?_;exact⟨rfl,rfl⟩
open Go.RowKit Go.Flow Go.Mem Go.Sep Go.In
open Go.In
def Si:List (List Nat):=[[120,48],[120,49],[120,50],[112,48],[112,49],[102,48],[102,49],[104,48],[104,49],[104,50],[98,48],[116,48],[97],[98],[99],[102,108,101,101,116,49],[102],[120],[110],[116],[104],[105],[103],[107],[106]]
def Np(s:yB):Prop:=∃t∈Si,s=fT t
theorem UB:∀t∈Si,((∃c,t[0]?=some c∧mX c=true)∧(∀x∈t,x<256∧kI x=true)∧t.length≤12)∧(∀w∈Qr,w≠fT t)∧fT t≠nE:=by
 have h:Si.all (fun t=>(mX (t.getD 0 0)&&decide (0<t.length))&&(t.all (fun x=>decide (x<256)&&kI x)&&decide (t.length≤12))&&(Qr.all (fun w=>decide (w≠fT t))&&decide (fT t≠nE)))=true:=by decide+kernel
 intro t ht;have h:=aPt.1 h t ht;simp only[aOc,aPt,aPf]at h;obtain⟨⟨⟨h1,h2⟩,h3,h4⟩,h5,h6⟩:=h;exact⟨⟨⟨t.getD 0 0,by rw[aQg,gge h2];rfl,h1⟩,h3,h4⟩,h5,h6⟩
theorem Kb{s:yB}(h:Np s):Bd Tryz.prog 116 [.string s] gl (fun v _=>v=bt):=by
 obtain⟨t,ht,rfl⟩:=h;obtain⟨⟨⟨c,h0,hc⟩,hs,hl⟩,hk,hne⟩:=UB t ht;exact Bd.sub (is:=[0]) (aFw t c h0 hc hs hl hk hne) rfl
theorem uS{k:Nat}(h:k<3):Np (nm 120 k):=by
 match k,h with
 |0,_=>exact⟨_,(by decide:[120,48]∈Si),rfl⟩
 |1,_=>exact⟨_,(by decide:[120,49]∈Si),rfl⟩
 |2,_=>exact⟨_,(by decide:[120,50]∈Si),rfl⟩
theorem UC{k:Nat}(h:k<2):Np (nm 112 k):=by
 match k,h with
 |0,_=>exact⟨_,(by decide:[112,48]∈Si),rfl⟩
 |1,_=>exact⟨_,(by decide:[112,49]∈Si),rfl⟩
theorem UD{k:Nat}(h:k<2):Np (nm 102 k):=by
 match k,h with
 |0,_=>exact⟨_,(by decide:[102,48]∈Si),rfl⟩
 |1,_=>exact⟨_,(by decide:[102,49]∈Si),rfl⟩
theorem EF{k:Nat}(h:k<3):Np (nm 104 k):=by
 match k,h with
 |0,_=>exact⟨_,(by decide:[104,48]∈Si),rfl⟩
 |1,_=>exact⟨_,(by decide:[104,49]∈Si),rfl⟩
 |2,_=>exact⟨_,(by decide:[104,50]∈Si),rfl⟩
theorem uT{k:Nat}(h:k<3):Np (nC k):=by
 match k,h with
 |0,_=>exact⟨_,(by decide:[97]∈Si),rfl⟩
 |1,_=>exact⟨_,(by decide:[98]∈Si),rfl⟩
 |2,_=>exact⟨_,(by decide:[99]∈Si),rfl⟩
theorem uU:Np nB0:=⟨_,(by decide:[98,48]∈Si),rfl⟩
theorem Yp:Np nT0:=⟨_,(by decide:[116,48]∈Si),rfl⟩
theorem aAm:Np (fT [102,108,101,101,116,49]):=⟨_,(by decide:[102,108,101,101,116,49]∈Si),rfl⟩
open Go.RowKit Go.Flow Go.Mem Go.Sep Go.In
open Go.In
def cK:List Nat:=[0,0,0,0,0,0,1,1,0,1,1,2,2,2,2,2,2,2,2,2,2,2,2,2]
def iN:List Bool:=[false,false,false,false,false,true,true,true,true,false,false,false,false,false,false,false,false,false,false,false,false,false,false,false]
theorem aDm:∀o,o≤23→(shO o).n=cK.getD o 0∧(shO o).nm=iN.getD o false:=by decide
theorem yI{o:Nat}(h1:1≤o)(h2:o≤23):Bd Tryz.prog 219 [ub o] gl (fun v Γ'=>∃(c:Int) (d:yB),v= .tuple #[.agg #[nv (cK.getD o 0), .bool (iN.getD o false),iv c, .string d],bt]∧Γ'=[]):=
 (Bd.sub (is:=[1]) (rA o h1 h2) rfl).mono fun v Γ' hv=>⟨(shO o).lv,(shO o).tx,by rw[hv.1,←(aDm o h2).1,←(aDm o h2).2];rfl,hv.2⟩
def aMx:List (Bool×Bool×Nat×Nat×Bool×Bool):=[(false,false,0,0,false,false),(true,false,1,1,false,false),(true,false,2,2,false,false),(true,false,1,1,false,false),(false,false,1,1,true,true),(false,false,1,1,true,false),(true,true,0,4,false,false),(false,true,1,5,false,false),(false,false,2,2,false,true),(true,false,1,1,false,true),(false,false,0,0,false,false)]
abbrev frm(k:Nat):=aMx.getD k (false,false,0,0,false,false)
theorem aKj(k:Nat)(hk:k≤10):((fmO k).a,(fmO k).b,(fmO k).c,(fmO k).d,(fmO k).e,(fmO k).f)=frm k:=by
 have h:(List.range 11).all (fun k=>((fmO k).a,(fmO k).b,(fmO k).c,(fmO k).d,(fmO k).e,(fmO k).f)==frm k)=true:=by decide+kernel
 exact eq_of_beq (aPt.1 h k (List.mem_range.2 om))
theorem JE{k:Nat}(h1:1≤k)(h2:k≤10):Bd Tryz.prog 173 [ub k] gl (fun v _=>v= .tuple #[.agg #[.bool (frm k).1, .bool (frm k).2.1,nv ((frm k).2.2.1),nv ((frm k).2.2.2.1), .bool (frm k).2.2.2.2.1, .bool (frm k).2.2.2.2.2],bt]):=
 (Bd.sub (is:=[2]) (UA k h1 h2) rfl).mono fun v Γ' hv=>by rw[hv.1,←aKj k h2];rfl
theorem aA{C:Cx}{ρ:Bj}{Γ:List Ad}{K:Act→wD→Prop}{α:Type}{enc:α→List vU}{size:Nat}(E:Enc enc size)(hs:0<size){A:OA}{l:List α}{x:α}{j:Nat}(i:Nat)(hi:Γ[i]?=some (ros enc A l))(hx:l[j]?=some x)(h:To C ρ (ros enc (some ⟨blk A,ofs A+j*size,none⟩) [x]::Γ) K):To C ρ Γ K:=by
 have hj:j<l.length:=(aNr.1 hx).1;have e:l.flatMap enc=(l.take j).flatMap enc++(enc x++(l.drop (j+1)).flatMap enc):=by
  conv=>lhs;rw[←aPn j l,dog hx]
  rw[aPm,aPl]
 have el:((l.take j).flatMap enc).length=j*size:=by rw[E.flat_len,aOh,Nat.min_eq_left om]
 have ne:l.flatMap enc≠[]:=fun h0=>by
  have:=aOa List.length e;rw[h0,aj,aj,E.len,bg]at this;omega
 refine pM (p:=A=some ⟨blk A,ofs A,none⟩) (fun w hw=>?_) (fun hA=>?_)
 · have hq:Src w A (l.flatMap enc):=hw.each _ (sN hi)
   rcases hq with h0|⟨g,off,h0,_⟩
   ·exact aOx h0 ne
   ·rw[h0];rfl
 refine Yg (ros enc (some ⟨blk A,ofs A+j*size,none⟩) [x]) rfl (fun g hg=>Tp i hi ?_) (fun w hw=>?_) h
 · show g∈Jc A (l.flatMap enc)
   have hg1:g∈Jc (some ⟨blk A,ofs A+j*size,none⟩) ([x].flatMap enc):=hg;cases h2:[x].flatMap enc with
   |nil=>rw[h2]at hg1;simp[Jc]at hg1
   | cons u us=>
     rw[h2]at hg1;have hg2:g=blk A:=by simpa[Jc,Ik]using hg1
     cases h3:l.flatMap enc with
     |nil=>exact aOx h3 ne
     | cons u2 us2=>
       show g∈Ik A;rw[hA,hg2];simp[Ik]
 · have hq:Src w A (l.flatMap enc):=hw _ (sN hi)
   refine .inr ⟨blk A,ofs A+j*size,rfl,fun k v hv=>?_⟩;rw[aPl,List.flatMap_nil,aOo]at hv;have hk:k<(enc x).length:=(aNr.1 hv).1;have hj2:(l.flatMap enc)[j*size+k]?=some v:=by
    rw[e,aPj om,el,Nat.add_sub_cancel_left,aOu hk];exact hv
   rcases hq with h0|⟨g,off,h0,hr⟩
   ·exact aOx h0 ne
   · subst h0
     have:=hr (j*size+k) v hj2;rw[←Nat.add_assoc]at this;exact this
end Go.Proofs.YtihgdnjkofpgiaaGreatDoor
