/- Own text. -/
import Derived.Test.YtihgdnjkofpgiaaGreatDoorA17
set_option linter.unusedVariables false
set_option linter.unusedSimpArgs false
namespace Go.Proofs.YtihgdnjkofpgiaaGreatDoor
open Go.Proofs.Tryz
open Go.RowKit Go.Flow Go.Mem Go.Sep
open Go.In
def uM:List Nat:=[102,108,101,101,116,32,102,32,123,32,102,108,97,103,32,120,32,61,32,116,114,117,101,59,32,99,111,109,112,111,110,101,110,116,32,97,32,123,32,118,97,114,32,110,58,32,105,110,116,32,61,32,51,59,32,118,97,114,32,116,58,32,116,97,98,108,101,59,32,111,110,32,104,40,105,41,32,123,32,115,101,110,100,32,98,46,103,40,105,41,59,32,125,32,125,32,99,111,109,112,111,110,101,110,116,32,98,32,123,32,111,110,32,103,40,105,41,32,123,32,125,32,118,101,114,115,105,111,110,32,50,32,123,32,111,110,32,107,40,41,32,123,32,125,32,111,110,32,103,40,106,41,32,123,32,125,32,125,32,125,32,125]
def TA:List Tok:=[(2,[102,108,101,101,116],0),(1,[102],6),(4,[123],8),(2,[102,108,97,103],10),(1,[120],15),(4,[61],17),(2,[116,114,117,101],19),(4,[59],23),(2,[99,111,109,112,111,110,101,110,116],25),(1,[97],35),(4,[123],37),(2,[118,97,114],39),(1,[110],43),(4,[58],44),(2,[105,110,116],46),(4,[61],50),(3,[51],52),(4,[59],53),(2,[118,97,114],55),(1,[116],59),(4,[58],60),(2,[116,97,98,108,101],62),(4,[59],67),(2,[111,110],69),(1,[104],72),(4,[40],73),(1,[105],74),(4,[41],75),(4,[123],77),(2,[115,101,110,100],79),(1,[98],84),(4,[46],85),(1,[103],86),(4,[40],87),(1,[105],88),(4,[41],89),(4,[59],90),(4,[125],92),(4,[125],94),(2,[99,111,109,112,111,110,101,110,116],96),(1,[98],106),(4,[123],108),(2,[111,110],110),(1,[103],113),(4,[40],114),(1,[105],115),(4,[41],116),(4,[123],118),(4,[125],120),(2,[118,101,114,115,105,111,110],122),(3,[50],130),(4,[123],132),(2,[111,110],134),(1,[107],137),(4,[40],138),(4,[41],139),(4,[123],141),(4,[125],143),(2,[111,110],145),(1,[103],148),(4,[40],149),(1,[106],150),(4,[41],151),(4,[123],153),(4,[125],155),(4,[125],157),(4,[125],159),(4,[125],161)]
set_option maxRecDepth 1000000 in
theorem ZX:skA uM=some 0:=by kernel_rfl
set_option maxRecDepth 1000000 in
theorem TB:trc 70 uM 0=some TA:=by kernel_rfl
def xX:List Nat:=[102,108,101,101,116,32,102,32,123,32,99,111,109,112,111,110,101,110,116,32,97,32,123,32,111,110,32,104,40,41,32,123,32,120,32,61,32,49,59,32,125,32,125,32,125]
def TC:List Tok:=[(2,[102,108,101,101,116],0),(1,[102],6),(4,[123],8),(2,[99,111,109,112,111,110,101,110,116],10),(1,[97],20),(4,[123],22),(2,[111,110],24),(1,[104],27),(4,[40],28),(4,[41],29),(4,[123],31),(1,[120],33),(4,[61],35),(3,[49],37),(4,[59],38),(4,[125],40),(4,[125],42),(4,[125],44)]
set_option maxRecDepth 1000000 in
theorem ZY:skA xX=some 0:=by kernel_rfl
set_option maxRecDepth 1000000 in
theorem TD:trc 20 xX 0=some TC:=by kernel_rfl
def MV(l:List Tok):List AV:=l.flatMap fun x=>[.int .u8 (Int.ofNat x.1), .str x.2.1, .int .i64 (Int.ofNat x.2.2)]
theorem xY{σ:Nat→Nat}:∀l:List Tok,Dm σ (MV l)=l.flatMap Wi
 |[]=>rfl
 | x::l=>by
   show Dm σ ([.int .u8 (Int.ofNat x.1), .str x.2.1, .int .i64 (Int.ofNat x.2.2)]++MV l)=Wi x++l.flatMap Wi;rw[Dy,aOb,←Dy,←Dy,xY l];simp only[Dm,val,Wi,aQp,aQj];rfl
theorem xZ{k:Nat}:∀l:List Tok,Ej k (MV l)
 |[]=>by simp only[MV,List.flatMap_nil,Ej]
 | x::l=>by
   show Ej k ([.int .u8 (Int.ofNat x.1), .str x.2.1, .int .i64 (Int.ofNat x.2.2)]++MV l);exact Xg (by simp only[Ej,bq,and_true]) (xZ l)
def MW(k:Nat)(n m:Nat)(l:List Tok):List MC:=[⟨k, .box 225,[.slu (k+1) 0 n (k+2) n, .int .i64 0, .int .i64 (Int.ofNat m), .str [], .nils, .nils, .nils, .int .i64 0, .int .i64 0]⟩,⟨k+3, .box 219,[.ptr k 0]⟩,⟨k+1, .row 288 3 n (.un (k+2) n),MV l⟩]
theorem yA{k n m:Nat}{l:List Tok}:Le (k+4) (MW k n m l):=fun c hc=>by
 simp only[MW,aNx,aOe,aPh]at hc;rcases hc with rfl|rfl|rfl
 ·exact⟨by show k<k+4;omega,trivial,by simp only[Ej,bq,and_true,true_and];omega⟩
 ·exact⟨by show k+3<k+4;omega,trivial,by simp only[Ej,bq,and_true,true_and];omega⟩
 ·exact⟨by show k+1<k+4;omega,by show k+2<k+4;omega,xZ l⟩
def ZZ:Oz:=fun f vs M k=>bif Nat.beq f 103&&thB GL M then(match vs with
 |[.str s]=>bif eqL s uM then some (.ptr k 0,MW k TA.length uM.length TA++M,k+4)else bif eqL s xX then some (.ptr k 0,MW k TC.length xX.length TC++M,k+4)else none
 |_=>none)else none
theorem MX{P:Program}{f:FuncId}{vs:List Value}{Γ:List Ad}{R R':Value→List Ad→Prop}(h:Bd P f vs Γ R)(hr:∀v Γ' w,R v Γ'→sat Γ' w→R' v Γ'):Bd P f vs Γ R':=fun w hs=>
 (h w hs).mono fun _ w' ⟨v,Γ',h1,h2,h3⟩=>⟨v,Γ',h1,hr v Γ' w' h2 h3.sat,h3⟩
theorem yC{P:Program}{f:FuncId}{vs:List Value}{Γ Γ1:List Ad}{R:Value→List Ad→Prop}(h:Bd P f vs Γ1 R)(hq:owns Γ1=[])(hs:∀w,oks Γ w→oks Γ1 w)(hr:∀v Γ',R v Γ'→reads Γ'=[]):Bd P f vs Γ (fun v Γ'=>∃N,R v N∧Γ'=N++Γ):=fun w hw=>
 (h w (Gh hq (hs w hw.each))).mono fun _ _ ⟨v,N,h1,h2,h3⟩=>⟨v,N++Γ,h1,⟨N,h2,rfl⟩,(Rj hq h3 (hr v N h2)).add hw⟩
def oW(σ:Nat→Nat)(k a b c d:Nat):Nat→Nat:=fun i=>if i=k then a else if i=k+1 then b else if i=k+2 then c else if i=k+3 then d else σ i
theorem TE{σ:Nat→Nat}{k a b c d:Nat}:Sup k σ (oW σ k a b c d):=fun i hi=>by unfold oW;rw[aNy om,aNy om,aNy om,aNy om]
theorem uO{σ:Nat→Nat}{i:Nat}(h:4096≤i):bl σ i=σ i:=by
 unfold bl;have:Nat.blt i 4096=false:=by
  cases hb:Nat.blt i 4096 with
  |false=>rfl
  |true=>have:=aNt hb;omega
 rw[this];rfl
set_option maxRecDepth 100000 in
theorem aJw{txt:List Nat}{toks:List Tok}{o0 n0:Nat}(hpos:0<toks.length)(ht:txt.length≤20000)(htl:toks.length≤20000)(hsk:skA txt=some o0)(htr:trc n0 txt o0=some toks){M:List MC}{k:Nat}(hbig:4096≤k)(hM:Le k M)(hq:thB GL M=true)(σ:Nat→Nat):Dz 103 [.string (fT txt)] (mem σ M) (iK k σ (.ptr k 0) (MW k toks.length txt.length toks++M)):=by
 have h1:=SY txt ht toks htl o0 n0 hsk htr;have h2:=yC (Γ:=mem σ M) h1 rfl (fun w hw=>fun c hc=>by
  rw[aNz.1 hc];have e:gA=mem σ GL:=rfl;show sat gA w;rw[e];exact Gh (by rw[←e];exact jB) (Uv (σ:=σ) hq w hw)) (by
  rintro v Γ' ⟨b8,b3,A,ca,rfl,rfl⟩;rfl)
 refine MX h2 ?_;rintro v _ w ⟨N,⟨b8,b3,A,ca,rfl,rfl⟩,rfl⟩ hs;have hrow:w.ownsRow 0 288 3 (vs A toks ca) toks.length (toks.flatMap Wi):=hs.each (rows Wi 288 3 A ca toks) (by simp);have hA:=Qa hrow hpos;obtain⟨A2,cap2,g1,_,g2,_⟩:=Im hrow;cases g1;have hk:=TE (σ:=σ) (k:=k) (a:=b8) (b:=blk A) (c:=ca-toks.length) (d:=b3);have e0:oW σ k b8 (blk A) (ca-toks.length) b3 k=b8:=by unfold oW;rw[aOn rfl]
 have e1:oW σ k b8 (blk A) (ca-toks.length) b3 (k+1)=blk A:=by unfold oW;rw[aNy om,aOn rfl]
 have e2:oW σ k b8 (blk A) (ca-toks.length) b3 (k+2)=ca-toks.length:=by unfold oW;rw[aNy om,aNy om,aOn rfl]
 have e3:oW σ k b8 (blk A) (ca-toks.length) b3 (k+3)=b3:=by unfold oW;rw[aNy om,aNy om,aNy om,aOn rfl]
 refine⟨_,hk,by simp only[val];rw[uO hbig,e0],?_⟩;rw[bu,←Li (fun i hi=>hk i hi) hM];congr 1;simp only[MW,mem,ck,cp,aOw,aPq,Dm,val,xY,uO hbig,uO (show 4096≤k+1 by omega),uO (show 4096≤k+3 by omega),e0,e1,e2,e3];rw[show toks.length+(ca-toks.length)=ca by omega]
 conv=>lhs;rw[hA]
 rfl
set_option maxRecDepth 100000 in
theorem IY:Nb prog ZZ:=fun f vs M k v M' k' h hbig hvs hM=>by
 unfold ZZ at h;cases hf:(Nat.beq f 103&&thB GL M)with
 |false=>rw[hf]at h;cases h
 | true =>
   rw[hf]at h;simp only[aPo]at h;rw[aOc]at hf;have ef:=aOg hf.1;subst ef;split at h
   · rename_i s
     cases hq:eqL s uM with
     | true=>
       rw[hq]at h;simp only[aPo]at h;cases h;have es:=uD hq;subst es;exact⟨by omega,by simp only[bq];omega,Hg yA (Ov om hM),fun σ=>by
        simp only[Dm,val];exact aJw (by decide) (by decide) (by decide) ZX TB hbig hM hf.2 σ⟩
     | false=>
       rw[hq]at h;simp only[cond_false]at h;cases hq2:eqL s xX with
       |false=>rw[hq2]at h;cases h
       | true=>
         rw[hq2]at h;simp only[aPo]at h;cases h;have es:=uD hq2;subst es;exact⟨by omega,by simp only[bq];omega,Hg yA (Ov om hM),fun σ=>by
          simp only[Dm,val];exact aJw (by decide) (by decide) (by decide) ZY TD hbig hM hf.2 σ⟩
   ·cases h
end Go.Proofs.YtihgdnjkofpgiaaGreatDoor
