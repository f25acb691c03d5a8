/- Own text. -/
import Derived.Test.YtlihklladkagpaaGreatDoorBa
import Derived.Laws.Strings
import Derived.Test.YtlihklladkagpaaGreatDoorAc
set_option linter.unusedVariables false
set_option linter.unusedSimpArgs false
set_option maxHeartbeats 2000000
set_option maxRecDepth 100000
namespace Go.Sep
open Go.RowKit Go.Flow Go.Mem
theorem dM(s u:ByteArray):(s.toList==u.toList)=decide (s=u):=by
 rw[ByteArray.toList_eq,ByteArray.toList_eq,Bool.eq_iff_iff,aFm,beq_iff_eq]
 refine⟨fun h=>?_,fun h=>by rw[h]⟩
 cases s;cases u
 simp only at h
 rw[Array.toList_inj.1 h]
theorem Nt{P:Program}{o:Oper}{ρ:Cb}{Γ:List Ai}{x y:Operand}{t t':TypeId}{s u:ByteArray}(ho:o.op= .binOp .eql t x y t')(hx:ev ρ x=some (.string s))(hy:ev ρ y=some (.string u)):Rd P o ρ Γ (.bool (decide (s=u))):=Rd.bin ho hx hy fun w=>by
 simp[eqGuard,binOp,Op.equal,Op.stringOp,dM]
theorem pW{P:Program}{o:Oper}{ρ:Cb}{Γ:List Ai}{x y:Operand}{t t':TypeId}{s u:ByteArray}(ho:o.op= .binOp .neq t x y t')(hx:ev ρ x=some (.string s))(hy:ev ρ y=some (.string u)):Rd P o ρ Γ (.bool (decide (s≠u))):=Rd.bin ho hx hy fun w=>by
 simp[eqGuard,binOp,Op.equal,Op.stringOp,dM]
end Go.Sep
namespace Go.Proofs.YtlihklladkagpaaGreatDoor
open Go.RowKit Go.Flow Go.Mem Go.Sep Go.In
open Go.In
theorem xJ{P:Program}{o:Oper}{ρ:Cb}{Γ:List Ai}{x y:Operand}{t e:TypeId}{n j:Nat}{k:IntKind}{xs:List Value}{v:Value}(ho:o.op= .index t x y)(ht:P.underlying t=some (.array n e))(he:P.underlying e=some .string)(h1:(P.info? e).map (·.size)=some 1)(hx:ev ρ x=some (.agg xs.toArray))(hy:ev ρ y=some (.int k (j:Int)))(hj:j<n)(hv:xs[j]?=some v):Rd P o ρ Γ v:=fun a w ha _=>by
 obtain⟨i,hi,h1⟩:=aFg.1 h1
 unfold execOp
 simp[ho,ha.eval hx,ha.eval hy,Instr.index,asIntOf,run_underlying ht,sizeOf,typeInfo,hi,h1,part,isAgg,run_underlying he,hv]
 omega
theorem BG{P:Program}{o:Oper}{ρ:Cb}{Γ:List Ai}{x y:Operand}{t:TypeId}{s:List Nat}{j c:Nat}{k:IntKind}(ho:o.op= .index t x y)(ht:P.underlying t=some .string)(hx:ev ρ x=some (.string (aLy s)))(hy:ev ρ y=some (.int k (j:Int)))(hj:s[j]?=some c)(hc:c<256):Rd P o ρ Γ (.int .u8 ((c:Nat):Int)):=by
 have hl:=(aEc.1 hj).1
 have hs:j<(aLy s).size:=by rw[Qc];exact hl
 have e1:(aLy s).data[j]?=some (UInt8.ofNat c):=by unfold aLy;simp[hj]
 have e:((aLy s).data[j]'hs).toNat=c:=by
  obtain⟨_,e2⟩:=Array.getElem?_eq_some_iff.1 e1
  rw[e2,UInt8.toNat_ofNat',Nat.mod_eq_of_lt hc]
 have h:=cZ (P:=P) (Γ:=Γ) ho ht hx hy hs
 rw[e]at h
 exact h
theorem aMa.sub{P:Program}{f:FuncId}{args:List Value}{Γ Γ1 Δ:List Ai}{R:Value→List Ai→Prop}{is:List Nat}(h:aMa P f args Γ1 R)(hp:Te Γ is=some (Γ1,Δ)):aMa P f args Γ R:=fun w hs=>
 (h w ((hs.perm (Hz hp)).left)).mono fun _ _ ⟨v,Γ',h1,h2,h3⟩=>⟨v,Γ',h1,h2,(Dj.at_ hp hs h3).drop⟩
def Qx:List ByteArray:=[⟨#[97,102,116,101,114]⟩,⟨#[97,108,119,97,121,115]⟩,⟨#[97,110,100]⟩,⟨#[97,114,114,105,118,101,115]⟩,⟨#[98,111,111,108]⟩,⟨#[99,111,109,112,111,110,101,110,116]⟩,⟨#[99,111,117,110,116]⟩,⟨#[100,101,108,101,116,101]⟩,⟨#[100,111]⟩,⟨#[101,108,115,101]⟩,⟨#[101,120,105,115,116,115]⟩,⟨#[102,97,108,115,101]⟩,⟨#[102,101,116,99,104]⟩,⟨#[102,108,97,103]⟩,⟨#[102,108,101,101,116]⟩,⟨#[102,111,114,97,108,108]⟩,⟨#[104,97,115]⟩,⟨#[105,102]⟩,⟨#[105,109,112,108,105,101,115]⟩,⟨#[105,110]⟩,⟨#[105,110,116]⟩,⟨#[108,97,116,101,110,99,121]⟩,⟨#[108,105,110,107]⟩,⟨#[110,111,116]⟩,⟨#[110,111,119]⟩,⟨#[111,110]⟩,⟨#[111,110,99,101]⟩,⟨#[111,114]⟩,⟨#[112,114,101,118,105,111,117,115]⟩,⟨#[115,101,110,100]⟩,⟨#[115,105,110,99,101]⟩,⟨#[115,105,122,101]⟩,⟨#[115,116,111,112]⟩,⟨#[115,116,111,114,101]⟩,⟨#[116,97,98,108,101]⟩,⟨#[116,114,117,101]⟩,⟨#[118,97,114]⟩,⟨#[118,101,114,115,105,111,110]⟩,⟨#[119,104,105,108,101]⟩]
theorem LG{j:Nat}{w:ByteArray}(h:Qx[j]?=some w):(Qx.flatMap aMb)[j]?=some (.string w):=by
 have e:∀l:List ByteArray,l.flatMap aMb=l.map Value.string:=fun l=>by
  induction l with
  |nil=>rfl
  |cons a r ih=>rw[aFf,ih];rfl
 rw[e,aEp,h];rfl
structure Sh where
 n:Nat
 nm:Bool
 lv:Int
 tx:ByteArray
def Sh.cells(e:Sh):List Value:=[nv e.n, .bool e.nm,iv e.lv, .string e.tx]
instance VA:Enc Sh.cells 4:=⟨fun _=>rfl,fun e u hu=>by
 simp only[Sh.cells,aEi,aEs,or_false]at hu
 rcases hu with rfl|rfl|rfl|rfl<;>rfl⟩
structure Fm where
 a:Bool
 b:Bool
 c:Nat
 d:Nat
 e:Bool
 f:Bool
def Fm.cells(x:Fm):List Value:=[.bool x.a, .bool x.b,nv x.c,nv x.d, .bool x.e, .bool x.f]
instance VB:Enc Fm.cells 6:=⟨fun _=>rfl,fun e u hu=>by
 simp only[Fm.cells,aEi,aEs,or_false]at hu
 rcases hu with rfl|rfl|rfl|rfl|rfl|rfl<;>rfl⟩
def BH:List Sh:=[⟨0,false,0,⟨#[]⟩⟩,⟨0,false,7,⟨#[]⟩⟩,⟨0,false,7,⟨#[116,114,117,101]⟩⟩,⟨0,false,7,⟨#[102,97,108,115,101]⟩⟩,⟨0,false,7,⟨#[110,111,119]⟩⟩,⟨0,true,7,⟨#[]⟩⟩,⟨1,true,7,⟨#[]⟩⟩,⟨1,true,7,⟨#[104,97,115,32]⟩⟩,⟨0,true,7,⟨#[115,105,122,101,32]⟩⟩,⟨1,false,6,⟨#[45]⟩⟩,⟨1,false,6,⟨#[110,111,116,32]⟩⟩,⟨2,false,5,⟨#[32,42,32]⟩⟩,⟨2,false,5,⟨#[32,47,32]⟩⟩,⟨2,false,5,⟨#[32,37,32]⟩⟩,⟨2,false,4,⟨#[32,43,32]⟩⟩,⟨2,false,4,⟨#[32,45,32]⟩⟩,⟨2,false,3,⟨#[32,61,61,32]⟩⟩,⟨2,false,3,⟨#[32,33,61,32]⟩⟩,⟨2,false,3,⟨#[32,60,32]⟩⟩,⟨2,false,3,⟨#[32,60,61,32]⟩⟩,⟨2,false,3,⟨#[32,62,32]⟩⟩,⟨2,false,3,⟨#[32,62,61,32]⟩⟩,⟨2,false,2,⟨#[32,97,110,100,32]⟩⟩,⟨2,false,1,⟨#[32,111,114,32]⟩⟩]
def BI:List Fm:=[⟨false,false,0,0,false,false⟩,⟨true,false,1,1,false,false⟩,⟨true,false,2,2,false,false⟩,⟨true,false,1,1,false,false⟩,⟨false,false,1,1,true,true⟩,⟨false,false,1,1,true,false⟩,⟨true,true,0,4,false,false⟩,⟨false,true,1,5,false,false⟩,⟨false,false,2,2,false,true⟩,⟨true,false,1,1,false,true⟩,⟨false,false,0,0,false,false⟩]
def shO(o:Nat):Sh:=BH.getD o ⟨0,false,0,⟨#[]⟩⟩
def fmO(o:Nat):Fm:=BI.getD o ⟨false,false,0,0,false,false⟩
theorem aBn{o:Nat}(h:o≤23):BH[o]?=some (shO o):=by
 have hl:o<BH.length:=by show o<24;omega
 rw[shO,aEx,gge hl];rfl
theorem aBo{o:Nat}(h:o≤10):BI[o]?=some (fmO o):=by
 have hl:o<BI.length:=by show o<11;omega
 rw[fmO,aEx,gge hl];rfl
abbrev pX:Ai:=ros aMb (some ⟨3,0,none⟩) Qx
abbrev shC:Ai:=ros Sh.cells (some ⟨4,0,none⟩) BH
abbrev fmC:Ai:=ros Fm.cells (some ⟨2,0,none⟩) BI
abbrev gl:List Ai:=[pX,shC,fmC]
def glc:Ai:=all gl
theorem RS:owns gl=[]:=rfl
theorem Nj{Γ:List Ai}(i:Nat)(h:Γ[i]?=some glc):∀w,oks Γ w→oks gl w:=fun w hw=>(hw _ (mog h):sat gl w).each
def jM(c:Nat):Bool:=(decide (97≤c)&&decide (c≤122))||(decide (65≤c)&&decide (c≤90))
def RV(c:Nat):Bool:=decide (48≤c)&&decide (c≤57)
def Tf(c:Nat):Bool:=jM c||(RV c||decide (c=95))
theorem mV(c:Nat):
    aMa Tryz.prog 191 [.int .u8 ((c:Nat):Int)] [] (fun v _=>v= .bool (jM c)):=by
 refine Am Tryz.func191 Tryz.ntmps191 fun w0=>?_
 refine Jz 9 ?_
 refine JgP ?_ ?_<;>intro g5
 refine Jz 3 ?_
 refine JgP ?_ ?_<;>intro g9
 refine Jz 11 ?_
 refine Je1 Tryz.results191 ?_
 refine congrArg Value.bool ?_
 rw[Bool.eq_iff_iff]
 simp only[jM,aFr,aFd,aFm,Bool.false_eq_true,iff_false,false_iff,true_iff,iff_true]
 omega
 refine Jz 2 ?_
 refine JgP ?_ ?_<;>intro g12
 refine Jz 8 ?_
 refine Je1 Tryz.results191 ?_
 refine congrArg Value.bool ?_
 rw[Bool.eq_iff_iff]
 simp only[jM,aFr,aFd,aFm,Bool.false_eq_true,iff_false,false_iff,true_iff,iff_true]
 omega
 refine Jz 8 ?_
 refine Je1 Tryz.results191 ?_
 refine congrArg Value.bool ?_
 rw[Bool.eq_iff_iff]
 simp only[jM,aFr,aFd,aFm,Bool.false_eq_true,iff_false,false_iff,true_iff,iff_true]
 omega
 refine Jz 6 ?_
 refine JgP ?_ ?_<;>intro g12
 refine Jz 8 ?_
 refine Je1 Tryz.results191 ?_
 refine congrArg Value.bool ?_
 rw[Bool.eq_iff_iff]
 simp only[jM,aFr,aFd,aFm,Bool.false_eq_true,iff_false,false_iff,true_iff,iff_true]
 omega
 refine Jz 8 ?_
 refine Je1 Tryz.results191 ?_
 refine congrArg Value.bool ?_
 rw[Bool.eq_iff_iff]
 simp only[jM,aFr,aFd,aFm,Bool.false_eq_true,iff_false,false_iff,true_iff,iff_true]
 omega
theorem LH(c:Nat):
    aMa Tryz.prog 195 [.int .u8 ((c:Nat):Int)] [] (fun v _=>v= .bool (RV c)):=by
 refine Am Tryz.func195 Tryz.ntmps195 fun w0=>?_
 refine Jz 9 ?_
 refine JgP ?_ ?_<;>intro g5
 refine Jz 7 ?_
 refine Je1 Tryz.results195 ?_
 refine congrArg Value.bool ?_
 rw[Bool.eq_iff_iff]
 simp only[RV,aFr,aFd,aFm,Bool.false_eq_true,iff_false,false_iff,true_iff,iff_true]
 omega
 refine Jz 7 ?_
 refine Je1 Tryz.results195 ?_
 refine congrArg Value.bool ?_
 rw[Bool.eq_iff_iff]
 simp only[RV,aFr,aFd,aFm,Bool.false_eq_true,iff_false,false_iff,true_iff,iff_true]
 omega
theorem EY(c:Nat):
    aMa Tryz.prog 193 [.int .u8 ((c:Nat):Int)] [] (fun v _=>v= .bool (Tf c)):=by
 refine Am Tryz.func193 Tryz.ntmps193 fun w0=>?_
 refine Jz 8 ?_
 refine Jvf (mV c) rfl (ocn _) ?_
 refine VZ rfl rfl rfl (Rd.move rfl rfl) (fun g5=>?_) (fun g5=>?_)
 refine Jz 11 ?_
 refine Je1 Tryz.results193 ?_
 refine congrArg Value.bool ?_
 simp[Tf,g5]<;>omega
 refine Jm ?_
 refine Jvf (LH c) rfl (ocn _) ?_
 refine JpF ?_
 refine JgB ?_ ?_<;>intro g9
 refine Jz 7 ?_
 refine Je1 Tryz.results193 ?_
 refine congrArg Value.bool ?_
 simp[Tf,g5,g9]<;>omega
 refine Jz 7 ?_
 refine Je1 Tryz.results193 ?_
 refine congrArg Value.bool ?_
 simp[Tf,g5,g9]<;>omega
theorem EZ(s:List Nat)(hs:∀x∈s,x<256∧Tf x=true)(hl:s.length≤12):
    aMa Tryz.prog 192 [.string (aLy s), .func (.func 193) #[] #[]] [] (fun v _=>v=nv s.length):=by
 refine Am Tryz.func192 Tryz.ntmps192 fun w0=>?_
 refine Jz 12 ?_
 refine Ce [] rfl (Lf (fun u g mz ρ Γ=>∃(j:Nat),ρ=[u 0,u 1,(5,nv j)]∧Γ=[]∧mz=s.length-j∧(j≤s.length)) ⟨⟨0,rfl,rfl,rfl,om⟩,sb⟩ ?_)
 rintro mz _ _ ⟨j,rfl,rfl,rfl,hj⟩
 refine Jz 5 ?_
 refine Jr (BF rfl Tryz.underlying9 rfl) ?_
 refine To.lt ?_
 refine JgP ?_ ?_<;>intro g10
 refine Jz 3 ?_
 obtain⟨c,hc⟩:∃c,s[j]?=some c:=⟨_,gge om⟩
 refine Jr (BG (j:=j) rfl Tryz.underlying9 rfl rfl hc (hs _ (mog hc)).1) ?_
 refine JcV rfl rfl rfl (Ent.func (first:=[]) (captured:=[]) rfl rfl rfl (kc.h 193 rfl)) ((EY c).mono (R':=fun v _=>v= .bool true) (fun v _ h=>by rw[h,(hs c (mog hc)).2])) rfl (ocn _) (Jz 14 ?_)
 refine Ce [] rfl (Hu ⟨⟨j+1,rfl,rfl,rfl,om⟩,sb⟩)
 refine Jz 21 ?_
 refine Je1 Tryz.results192 ?_
 exact congrArg iv om
theorem xK(s:List Nat)(hk:∀w∈Qx,w≠aLy s):
    aMa Tryz.prog 194 [.string (aLy s)] [pX] (fun v _=>v= .bool false):=by
 refine Am Tryz.func194 Tryz.ntmps194 fun w0=>?_
 refine Jz 8 ?_
 refine Jr (Ij (i:=0) (us:=Qx.flatMap aMb) rfl rfl aDi rfl (Iq (A:=some ⟨3,0,none⟩) (o:=0) (k:=39) rfl) rfl) ?_
 refine Jz 4 ?_
 refine Ce [0] rfl (Lf (fun u g mz ρ Γ=>∃(j:Nat),ρ=[u 0,u 5,(6,nv j)]∧Γ=[g 0]∧mz=39-j∧(j≤39)) ⟨⟨0,rfl,rfl,rfl,om⟩,sb⟩ ?_)
 rintro mz _ _ ⟨j,rfl,rfl,rfl,hj⟩
 refine Jz 6 ?_
 refine Jcp rfl ?_ ?_<;>intro k7
 have hlt:j<39:=om
 obtain⟨w,hw⟩:∃w,Qx[j]?=some w:=⟨_,gge (show j<Qx.length from hlt)⟩
 refine Jz 6 ?_
 refine Jr (xJ (xs:=Qx.flatMap aMb) rfl Tryz.underlying369 Tryz.underlying9 (by kernel_rfl) rfl rfl hlt (LG hw)) ?_
 refine Jz 7 ?_
 refine Jr (Nt rfl rfl rfl) ?_
 refine Jn (Jt (Jcp rfl (fun k11=>?_) (fun k11=>?_)))
 exact absurd k11 (hk w (mog hw))
 refine Jz 8 ?_
 refine Ce [0] rfl (Hu ⟨⟨j+1,rfl,rfl,rfl,om⟩,sb⟩)
 refine Jz 11 ?_
 refine Je1 Tryz.results194 ?_
 rfl
theorem LJ(s:List Nat)(c:Nat)(h0:s[0]?=some c)(hc:jM c=true)(hs:∀x∈s,x<256∧Tf x=true)(hl:s.length≤12)(hk:∀w∈Qx,w≠aLy s):
    aMa Tryz.prog 173 [.string (aLy s)] [pX] (fun v _=>v= .tuple #[.int .u8 1,nv s.length]):=by
 refine Am Tryz.func173 Tryz.ntmps173 fun w0=>?_
 refine Jz 10 ?_
 refine Jr (BG (j:=0) rfl Tryz.underlying9 rfl rfl h0 (hs _ (mog h0)).1) ?_
 refine Jz 7 ?_
 refine Jvf ((mV c).mono (R':=fun v _=>v= .bool true) (fun v _ h=>by rw[h,hc])) rfl (ocn _) ?_
 refine Jz 7 ?_
 refine Jvf (EZ s hs hl) rfl (ocn _) ?_
 refine Jz 8 ?_
 refine Jr (Cr (v':= .string (aLy s)) (congrArg (fun l=>Value.string (aLy l)) (aEm (aEu _))) (KV (a:=0) (b:=s.length) rfl Tryz.underlying9 rfl rfl ⟨_,rfl⟩ om (aEu _))) ?_
 refine Jvf (xK s hk) rfl (ocs (oca 0 rfl) (ocn _)) ?_
 refine Jz 11 ?_
 refine Jcp rfl ?_ ?_<;>intro k32
 refine Jz 10 ?_
 refine Gc (.inl rfl) Tryz.results173 rfl rfl ?_
 rfl
 exact absurd hl om
theorem XG(s:List Nat)(c:Nat)(h0:s[0]?=some c)(hc:jM c=true)(hs:∀x∈s,x<256∧Tf x=true)(hl:s.length≤12)(hk:∀w∈Qx,w≠aLy s)(hne:aLy s≠nE):
    aMa Tryz.prog 133 [.string (aLy s)] [pX] (fun v _=>v= .bool true):=by
 refine Am Tryz.func133 Tryz.ntmps133 fun w0=>?_
 refine Jz 9 ?_
 refine Jr (Nt rfl rfl rfl) ?_
 refine Jn (Jt (Jcp rfl (fun k6=>?_) (fun k6=>?_)))
 exact absurd k6 hne
 refine Jz 5 ?_
 refine Jvf (LJ s c h0 hc hs hl hk) rfl (ocs (oca 0 rfl) (ocn _)) ?_
 refine Jz 14 ?_
 refine Jr (BF rfl Tryz.underlying9 rfl) ?_
 refine Jz 6 ?_
 refine Je1 Tryz.results133 ?_
 exact congrArg Value.bool (aEk rfl)
theorem FB(o:Nat)(h1:1≤o)(h2:o≤23):
    aMa Tryz.prog 198 [.int .u8 ((o:Nat):Int)] [shC] (fun v Γ'=>v= .tuple #[.agg (Sh.cells (shO o)).toArray, .bool true]∧Γ'=[]):=by
 refine Am Tryz.func198 Tryz.ntmps198 fun w0=>?_
 refine Js (To.g (Jal fun b2=>?_))
 refine Jz 8 ?_
 refine JgP ?_ ?_<;>intro g6
 exact absurd g6 om
 refine Jz 5 ?_
 refine Jcp rfl ?_ ?_<;>intro k9
 exact absurd k9 om
 refine Jz 5 ?_
 refine Jr (Ir (j:=o) rfl (Sn.of (size:=4) Tryz.underlying370 (by kernel_rfl)) rfl rfl om) ?_
 refine Jr (Ij (i:=1) rfl rfl aAu rfl (rsg VA (A:=some ⟨4,0,none⟩) (aBn (o:=o) om)) (VA.len _)) ?_
 refine Jz 5 ?_
 refine Lp [] rfl (.inl rfl) Tryz.results198 rfl (i:=0) rfl aAu rfl rfl ?_
 exact⟨rfl,rfl⟩
theorem LK(o:Nat)(h1:1≤o)(h2:o≤10):
    aMa Tryz.prog 174 [.int .u8 ((o:Nat):Int)] [fmC] (fun v Γ'=>v= .tuple #[.agg (Fm.cells (fmO o)).toArray, .bool true]∧Γ'=[]):=by
 refine Am Tryz.func174 Tryz.ntmps174 fun w0=>?_
 refine Js (To.g (Jal fun b2=>?_))
 refine Jz 8 ?_
 refine JgP ?_ ?_<;>intro g6
 exact absurd g6 om
 refine Jz 5 ?_
 refine Jcp rfl ?_ ?_<;>intro k9
 exact absurd k9 om
 refine Jz 5 ?_
 refine Jr (Ir (j:=o) rfl (Sn.of (size:=6) Tryz.underlying352 (by kernel_rfl)) rfl rfl om) ?_
 refine Jr (Ij (i:=1) rfl rfl aAs rfl (rsg VB (A:=some ⟨2,0,none⟩) (aBo (o:=o) om)) (VB.len _)) ?_
 refine Jz 5 ?_
 refine Lp [] rfl (.inl rfl) Tryz.results174 rfl (i:=0) rfl aAs rfl rfl ?_
 exact⟨rfl,rfl⟩
open Go.RowKit Go.Flow Go.Mem Go.Sep Go.In
open Go.In
def Tu:List (List Nat):=[[120,48],[120,49],[120,50],[112,48],[112,49],[102,48],[102,49],[104,48],[104,49],[104,50],[98,48],[116,48],[97],[98],[99],[102,108,101,101,116,49]]
def Qt(s:ByteArray):Prop:=∃t∈Tu,s=aLy t
theorem LM:∀t∈Tu,((∃c,t[0]?=some c∧jM c=true)∧(∀x∈t,x<256∧Tf x=true)∧t.length≤12)∧(∀w∈Qx,w≠aLy t)∧aLy t≠nE:=by
 have h:Tu.all (fun t=>(jM (t.getD 0 0)&&decide (0<t.length))&&(t.all (fun x=>decide (x<256)&&Tf x)&&decide (t.length≤12))&&(Qx.all (fun w=>decide (w≠aLy t))&&decide (aLy t≠nE)))=true:=by decide+kernel
 intro t ht
 have h:=aGg.1 h t ht
 simp only[aFd,aGg,aFm]at h
 obtain⟨⟨⟨h1,h2⟩,h3,h4⟩,h5,h6⟩:=h
 exact⟨⟨⟨t.getD 0 0,by rw[aEx,gge h2];rfl,h1⟩,h3,h4⟩,h5,h6⟩
theorem Jv{s:ByteArray}(h:Qt s):aMa Tryz.prog 133 [.string s] gl (fun v _=>v= .bool true):=by
 obtain⟨t,ht,rfl⟩:=h
 obtain⟨⟨⟨c,h0,hc⟩,hs,hl⟩,hk,hne⟩:=LM t ht
 exact aMa.sub (is:=[0]) (XG t c h0 hc hs hl hk hne) rfl
theorem pY{k:Nat}(h:k<3):Qt (nm 120 k):=by
 match k,h with
 |0,_=>exact⟨_,(by decide:[120,48]∈Tu),rfl⟩
 |1,_=>exact⟨_,(by decide:[120,49]∈Tu),rfl⟩
 |2,_=>exact⟨_,(by decide:[120,50]∈Tu),rfl⟩
theorem LP{k:Nat}(h:k<2):Qt (nm 112 k):=by
 match k,h with
 |0,_=>exact⟨_,(by decide:[112,48]∈Tu),rfl⟩
 |1,_=>exact⟨_,(by decide:[112,49]∈Tu),rfl⟩
theorem LQ{k:Nat}(h:k<2):Qt (nm 102 k):=by
 match k,h with
 |0,_=>exact⟨_,(by decide:[102,48]∈Tu),rfl⟩
 |1,_=>exact⟨_,(by decide:[102,49]∈Tu),rfl⟩
theorem xL{k:Nat}(h:k<3):Qt (nm 104 k):=by
 match k,h with
 |0,_=>exact⟨_,(by decide:[104,48]∈Tu),rfl⟩
 |1,_=>exact⟨_,(by decide:[104,49]∈Tu),rfl⟩
 |2,_=>exact⟨_,(by decide:[104,50]∈Tu),rfl⟩
theorem qA{k:Nat}(h:k<3):Qt (nC k):=by
 match k,h with
 |0,_=>exact⟨_,(by decide:[97]∈Tu),rfl⟩
 |1,_=>exact⟨_,(by decide:[98]∈Tu),rfl⟩
 |2,_=>exact⟨_,(by decide:[99]∈Tu),rfl⟩
theorem qB:Qt nB0:=⟨_,(by decide:[98,48]∈Tu),rfl⟩
theorem Wy:Qt nT0:=⟨_,(by decide:[116,48]∈Tu),rfl⟩
theorem RX:Qt (aLy [102,108,101,101,116,49]):=⟨_,(by decide:[102,108,101,101,116,49]∈Tu),rfl⟩
open Go.RowKit Go.Flow Go.Mem Go.Sep Go.In
open Go.In
def xM:List Nat:=[0,0,0,0,0,0,1,1,0,1,1,2,2,2,2,2,2,2,2,2,2,2,2,2]
def qC:List Bool:=[false,false,false,false,false,true,true,true,true,false,false,false,false,false,false,false,false,false,false,false,false,false,false,false]
theorem VC:∀o,o≤23→(shO o).n=xM.getD o 0∧(shO o).nm=qC.getD o false:=by decide
theorem tY{o:Nat}(h1:1≤o)(h2:o≤23):aMa Tryz.prog 198 [.int .u8 ((o:Nat):Int)] gl (fun v Γ'=>∃(c:Int) (d:ByteArray),v= .tuple #[.agg #[nv (xM.getD o 0), .bool (qC.getD o false),iv c, .string d], .bool true]∧Γ'=[]):=
 (aMa.sub (is:=[1]) (FB o h1 h2) rfl).mono fun v Γ' hv=>⟨(shO o).lv,(shO o).tx,by rw[hv.1,←(VC o h2).1,←(VC o h2).2];rfl,hv.2⟩
def aDm:List (Bool×Bool×Nat×Nat×Bool×Bool):=[(false,false,0,0,false,false),(true,false,1,1,false,false),(true,false,2,2,false,false),(true,false,1,1,false,false),(false,false,1,1,true,true),(false,false,1,1,true,false),(true,true,0,4,false,false),(false,true,1,5,false,false),(false,false,2,2,false,true),(true,false,1,1,false,true),(false,false,0,0,false,false)]
abbrev frm(k:Nat):=aDm.getD k (false,false,0,0,false,false)
theorem aBp(k:Nat)(hk:k≤10):((fmO k).a,(fmO k).b,(fmO k).c,(fmO k).d,(fmO k).e,(fmO k).f)=frm k:=by
 have h:(List.range 11).all (fun k=>((fmO k).a,(fmO k).b,(fmO k).c,(fmO k).d,(fmO k).e,(fmO k).f)==frm k)=true:=by decide+kernel
 exact eq_of_beq (aGg.1 h k (List.mem_range.2 om))
theorem BJ{k:Nat}(h1:1≤k)(h2:k≤10):aMa Tryz.prog 174 [.int .u8 ((k:Nat):Int)] gl (fun v _=>v= .tuple #[.agg #[.bool (frm k).1, .bool (frm k).2.1,nv ((frm k).2.2.1),nv ((frm k).2.2.2.1), .bool (frm k).2.2.2.2.1, .bool (frm k).2.2.2.2.2], .bool true]):=
 (aMa.sub (is:=[2]) (LK k h1 h2) rfl).mono fun v Γ' hv=>by rw[hv.1,←aBp k h2];rfl
theorem Yk{C:Cx}{ρ:Cb}{Γ:List Ai}{K:Act→World→Prop}{α:Type}{enc:α→List Value}{size:Nat}(E:Enc enc size)(hs:0<size){A:OA}{l:List α}{x:α}{j:Nat}(i:Nat)(hi:Γ[i]?=some (ros enc A l))(hx:l[j]?=some x)(h:To C ρ (ros enc (some ⟨blk A,ofs A+j*size,none⟩) [x]::Γ) K):To C ρ Γ K:=by
 have hj:j<l.length:=(aEc.1 hx).1
 have e:l.flatMap enc=(l.take j).flatMap enc++(enc x++(l.drop (j+1)).flatMap enc):=by
  conv=>lhs;rw[←aFs j l,dog hx]
  rw[aFe,aFf]
 have el:((l.take j).flatMap enc).length=j*size:=by rw[E.flat_len,aEe,Nat.min_eq_left om]
 have ne:l.flatMap enc≠[]:=fun h0=>by
  have:=congrArg List.length e
  rw[h0,lap,lap,E.len,ln0]at this
  omega
 refine Lt (p:=A=some ⟨blk A,ofs A,none⟩) (fun w hw=>?_) (fun hA=>?_)
 · have hq:Src w A (l.flatMap enc):=hw.each _ (mog hi)
   rcases hq with h0|⟨g,off,h0,_⟩
   ·exact absurd h0 ne
   ·rw[h0];rfl
 refine Sl (ros enc (some ⟨blk A,ofs A+j*size,none⟩) [x]) rfl (fun g hg=>Tn i hi ?_) (fun w hw=>?_) h
 · show g∈Lu A (l.flatMap enc)
   have hg1:g∈Lu (some ⟨blk A,ofs A+j*size,none⟩) ([x].flatMap enc):=hg
   cases h2:[x].flatMap enc with
   |nil=>rw[h2]at hg1;simp[Lu]at hg1
   | cons u us=>
     rw[h2]at hg1
     have hg2:g=blk A:=by simpa[Lu,Ny]using hg1
     cases h3:l.flatMap enc with
     |nil=>exact absurd h3 ne
     | cons u2 us2=>
       show g∈Ny A
       rw[hA,hg2];simp[Ny]
 · have hq:Src w A (l.flatMap enc):=hw _ (mog hi)
   refine .inr ⟨blk A,ofs A+j*size,rfl,fun k v hv=>?_⟩
   rw[aFf,List.flatMap_nil,aEz]at hv
   have hk:k<(enc x).length:=(aEc.1 hv).1
   have hj2:(l.flatMap enc)[j*size+k]?=some v:=by
    rw[e,aFw om,el,Nat.add_sub_cancel_left,aFj hk];exact hv
   rcases hq with h0|⟨g,off,h0,hr⟩
   ·exact absurd h0 ne
   · subst h0
     have:=hr (j*size+k) v hj2
     rw[←Nat.add_assoc]at this
     exact this
end Go.Proofs.YtlihklladkagpaaGreatDoor
