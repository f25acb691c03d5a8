/- Own text. -/
import Derived.Test.YtihgdnjkofpgiaaGreatDoorT
set_option linter.unusedVariables false
set_option linter.unusedSimpArgs false
set_option maxHeartbeats 2000000
set_option maxRecDepth 100000
namespace Go.Proofs.YtihgdnjkofpgiaaGreatDoor
open Go.Proofs.Tryz
open Go.RowKit Go.Flow Go.Mem Go.Sep
def Km(n:Int):List vU:=[iv n]
instance jC:Enc Km 1:=⟨fun _=>rfl,fun x u hu=>by simp[Km]at hu;subst hu;rfl⟩
def aJx(b:Bool):List vU:=[.bool b]
instance aLw:Enc aJx 1:=⟨fun _=>rfl,fun x u hu=>by simp[aJx]at hu;subst hu;rfl⟩
structure Ins where
 op:Nat
 a:Int
 b:Int
 n:Int
deriving DecidableEq
def Ins.cells(e:Ins):List vU:=[.int .u8 ((e.op:Nat):Int),iv e.a,iv e.b,iv e.n]
instance qU:Enc Ins.cells 4:=⟨fun _=>rfl,fun e u hu=>by
 simp only[Ins.cells,aNx,aOe,aPh]at hu;rcases hu with rfl|rfl|rfl|rfl<;>rfl⟩
def aDh(e:Int×Int):List vU:=[iv e.1,iv e.2]
instance aJy:Enc aDh 2:=⟨fun _=>rfl,fun e u hu=>by
 simp only[aDh,aNx,aOe,aPh]at hu;rcases hu with rfl|rfl<;>rfl⟩
structure Tb where
 A:OA
 q:Nat
 l:List (Int×Int)
def Tb.cells(e:Tb):List vU:=[.slice e.A e.l.length e.q]
instance aNj:Enc Tb.cells 1:=⟨fun _=>rfl,fun e u hu=>by
 simp only[Tb.cells,aNx,aOe,aPh]at hu;subst hu;rfl⟩
def Tb.ar(e:Tb):OA×List (Int×Int):=(e.A,e.l)
structure Ef where
 k:Int
 to:Int
 h:Int
 d:Int
 key:Int
 v:Int
 f:Bool
 A:OA
 q:Nat
 args:List Int
def Ef.cells(e:Ef):List vU:=[.int .u8 e.k,iv e.to,iv e.h,iv e.d,iv e.key,iv e.v, .bool e.f, .slice e.A e.args.length e.q]
instance aNk:Enc Ef.cells 8:=⟨fun _=>rfl,fun e u hu=>by
 simp only[Ef.cells,aNx,aOe,aPh]at hu;rcases hu with rfl|rfl|rfl|rfl|rfl|rfl|rfl|rfl<;>rfl⟩
def Ef.ar(e:Ef):OA×List Int:=(e.A,e.args)
def tgt(i:Ins):oP Int:=if(i.op:Int)=27∨(i.op:Int)=28 then some i.a else if(i.op:Int)=32∨(i.op:Int)=33 then some i.b else none
theorem Lv(x:Ins):
    Dz 183 [.agg (Ins.cells x).toArray] [] (fun v _=>v= .tuple #[iv ((tgt x).getD 0), .bool (tgt x).isSome]):=by
 refine Ba func183 ntmps183 fun w0=>?_;refine Js (cz (Jbo fun b1=>?_));refine Jz 19 ?_;refine aa rfl ?_ ?_<;>intro k6;refine Jsp (Jt (Ld (aOa (fun b=>some (Value.bool b)) (aOv k6)) (Jz 11 ?_)));refine Ei (.inl rfl) results183 rfl rfl ?_;simp[tgt,k6];refine Jz 5 ?_;refine aa rfl ?_ ?_<;>intro k6_2;refine Jz 11 ?_;refine Ei (.inl rfl) results183 rfl rfl ?_;simp[tgt,k6_2];refine Jz 7 ?_;refine aa rfl ?_ ?_<;>intro k11;refine Jsp (Jt (Ld (aOa (fun b=>some (Value.bool b)) (aOv k11)) (Jz 11 ?_)));refine Ei (.inl rfl) results183 rfl rfl ?_;simp[tgt,k11];refine Jz 5 ?_;refine aa rfl ?_ ?_<;>intro k11_2;refine Jz 11 ?_;refine Ei (.inl rfl) results183 rfl rfl ?_;simp[tgt,k11_2];refine Jz 10 ?_;refine Ei (.inl rfl) results183 rfl rfl ?_;simp[tgt,k6,k6_2,k11,k11_2]
structure Rw where
 text:yB
 uses:yB
 pops:Int
 pushes:Int
def Rw.cells(e:Rw):List vU:=[.string e.text, .string e.uses,iv e.pops,iv e.pushes]
instance aDi:Enc Rw.cells 4:=⟨fun _=>rfl,fun e u hu=>by
 simp only[Rw.cells,aNx,aOe,aPh]at hu;rcases hu with rfl|rfl|rfl|rfl<;>rfl⟩
def Uz:List Rw:=[⟨⟨#[]⟩,⟨#[]⟩,0,0⟩,⟨⟨#[99,111,110,115,116]⟩,⟨#[78]⟩,0,1⟩,⟨⟨#[118,97,114]⟩,⟨#[65]⟩,0,1⟩,⟨⟨#[112,97,114,97,109]⟩,⟨#[65]⟩,0,1⟩,⟨⟨#[102,108,97,103]⟩,⟨#[65]⟩,0,1⟩,⟨⟨#[110,111,119]⟩,⟨#[]⟩,0,1⟩,⟨⟨#[103,101,116]⟩,⟨#[65]⟩,1,1⟩,⟨⟨#[104,97,115]⟩,⟨#[65]⟩,1,1⟩,⟨⟨#[115,105,122,101]⟩,⟨#[65]⟩,0,1⟩,⟨⟨#[110,101,103]⟩,⟨#[]⟩,1,1⟩,⟨⟨#[110,111,116]⟩,⟨#[]⟩,1,1⟩,⟨⟨#[109,117,108]⟩,⟨#[]⟩,2,1⟩,⟨⟨#[100,105,118]⟩,⟨#[]⟩,2,1⟩,⟨⟨#[109,111,100]⟩,⟨#[]⟩,2,1⟩,⟨⟨#[97,100,100]⟩,⟨#[]⟩,2,1⟩,⟨⟨#[115,117,98]⟩,⟨#[]⟩,2,1⟩,⟨⟨#[101,113]⟩,⟨#[]⟩,2,1⟩,⟨⟨#[110,101]⟩,⟨#[]⟩,2,1⟩,⟨⟨#[108,116]⟩,⟨#[]⟩,2,1⟩,⟨⟨#[108,101]⟩,⟨#[]⟩,2,1⟩,⟨⟨#[103,116]⟩,⟨#[]⟩,2,1⟩,⟨⟨#[103,101]⟩,⟨#[]⟩,2,1⟩,⟨⟨#[97,110,100]⟩,⟨#[]⟩,2,1⟩,⟨⟨#[111,114]⟩,⟨#[]⟩,2,1⟩,⟨⟨#[115,101,116,118,97,114]⟩,⟨#[65]⟩,1,0⟩,⟨⟨#[112,117,116]⟩,⟨#[65]⟩,2,0⟩,⟨⟨#[100,101,108,101,116,101]⟩,⟨#[65]⟩,1,0⟩,⟨⟨#[106,117,109,112]⟩,⟨#[65]⟩,0,0⟩,⟨⟨#[98,114,97,110,99,104]⟩,⟨#[65]⟩,1,0⟩,⟨⟨#[99,111,115,116]⟩,⟨#[]⟩,0,0⟩,⟨⟨#[115,101,110,100]⟩,⟨#[65,66,78]⟩,0,0⟩,⟨⟨#[97,102,116,101,114]⟩,⟨#[66,78]⟩,1,0⟩,⟨⟨#[115,116,111,114,101]⟩,⟨#[66]⟩,2,0⟩,⟨⟨#[102,101,116,99,104]⟩,⟨#[65,66]⟩,1,0⟩,⟨⟨#[115,116,111,112]⟩,⟨#[]⟩,0,0⟩]
def rowOf(o:Nat):Rw:=Uz.getD o ⟨⟨#[]⟩,⟨#[]⟩,0,0⟩
theorem TG{o:Nat}(h:o≤34):Uz[o]?=some (rowOf o):=by
 have hl:o<Uz.length:=by show o<35;omega
 rw[rowOf,aQg,gge hl];rfl
theorem IZ{o:Nat}(h:¬o≤34):rowOf o=⟨⟨#[]⟩,⟨#[]⟩,0,0⟩:=by
 rw[rowOf,aQg,List.getElem?_eq_none (by show 35≤o;omega)];rfl
theorem DX(o:Nat):0≤(rowOf o).pops∧(rowOf o).pops≤2∧0≤(rowOf o).pushes∧(rowOf o).pushes≤1:=by
 by_cases h:o≤34
 · have hl:o<Uz.length:=by show o<35;omega
   have e:rowOf o=Uz[o]:=by have:=TG h;rw[gge hl]at this;exact(aOj this).symm
   have all:∀r∈Uz,0≤r.pops∧r.pops≤2∧0≤r.pushes∧r.pushes≤1:=by decide
   rw[e];exact all _ (List.getElem_mem hl)
 ·rw[IZ h];decide
def bT(o:Nat)(c:Int):Bool:=decide (0≤Lib.indexByte (rowOf o).uses.data.toList c.toNat.toUInt8)
abbrev Gz:Ad:=ros Rw.cells (some ⟨0,0,none⟩) Uz
theorem aFu(o:Nat):
    Dz 55 [.int .u8 ((o:Nat):Int)] [Gz] (fun v Γ'=>v= .agg (Rw.cells (rowOf o)).toArray∧Γ'=[]):=by
 refine Ba func55 ntmps55 fun w0=>?_;refine Js (cz (ae fun b2=>?_));refine Jz 9 ?_;refine aa rfl ?_ ?_<;>intro c4;refine Js (cz (Jr (.bd [.string bE, .string bE,iv 0,iv 0]) ?_));refine Jz 5 ?_;refine Ec [] results55 ?_;exact⟨by rw[IZ om];rfl,rfl⟩;refine Jz 5 ?_;refine Jr (Cz (j:=o) rfl (Ip.of (size:=4) underlying206 kr) rfl rfl om) ?_;refine Jr (Qc (i:=1) rfl rfl aMp rfl (rsg aDi (A:=some ⟨0,0,none⟩) (TG (o:=o) om)) (aDi.len _)) ?_;refine Jz 4 ?_;refine Ec [] results55 ?_;exact⟨rfl,rfl⟩
def Va(pr:Int)(nc:Nat)(x:Ins):Bool:=
 decide (1≤(x.op:Int))&&decide ((x.op:Int)≤34)&& !(!bT x.op 65&&decide (x.a≠0))&& !(!bT x.op 66&&decide (x.b≠0))&& !(!bT x.op 78&&decide (x.n≠0))&&
 !((tgt x).isSome&&(decide ((tgt x).getD 0<0)||decide (((nc:Nat):Int)<(tgt x).getD 0)))&&
 (if(x.op:Int)=27∨(x.op:Int)=28∨(x.op:Int)=32 then true else if(x.op:Int)=3 then decide (0≤x.a)&&decide (x.a<pr)else
  if((x.op:Int)=30∨(x.op:Int)=31)∧(x.b<0∨63<x.b∨x.n<0∨4<x.n)then false else decide (0≤x.a)&&decide (x.a≤63))
theorem DY{pr:Int}{nc:Nat}{x:Ins}(h:Va pr nc x=true):(((x.op:Nat):Int)=30∨((x.op:Nat):Int)=31→0≤x.n∧x.n≤4)∧0≤(tgt x).getD 0∧(tgt x).getD 0≤nc:=by
 unfold Va at h;simp only[aOc,aPf,Bool.not_eq_true',Bool.and_eq_false_iff,aQt,aQr]at h;obtain⟨⟨_,ht⟩,hr⟩:=h;constructor
 · intro hop
   rw[aNy om,aNy om]at hr;by_cases hb:x.b<0∨63<x.b∨x.n<0∨4<x.n
   ·rw[aOn ⟨hop,hb⟩]at hr;cases hr
   ·omega
 · rcases ht with ht|ht
   · have:tgt x=none:=by simpa using ht
     rw[this];exact⟨Int.le_refl _,Int.natCast_nonneg _⟩
   ·omega
def Gm(x:Ins):Int:=if((x.op:Nat):Int)=30∨((x.op:Nat):Int)=31 then(rowOf x.op).pops+x.n else(rowOf x.op).pops
def okH(y v:Int):Prop:=y<0∨y=v
instance(y v:Int):Decidable (okH y v):=inferInstanceAs (Decidable (_∨_))
def Zz(m:Int)(x:Ins):Int:=m-Gm x+(rowOf x.op).pushes
def Fp(h:List Int)(i:Nat)(x:Ins)(v:Int):oP (List Int):=
 if((x.op:Nat):Int)≠27∧((x.op:Nat):Int)≠34 then(if okH (h.getD (i+1) 0) v then some (h.set (i+1) v)else none)else some h
def Bo(h:List Int)(x:Ins)(v:Int):oP (List Int):=
 if(tgt x).isSome=true then(if okH (h.getD ((tgt x).getD 0).toNat 0) v then some (h.set ((tgt x).getD 0).toNat v)else none)else some h
def Br(h:List Int)(top:Int)(i:Nat)(x:Ins):oP (List Int×Int):=
 let m:=max (h.getD i 0) 0
 if m<Gm x∨(((x.op:Nat):Int)=34∧m≠0)then none else
 (Fp (h.set i m) i x (Zz m x)).bind fun h2=>(Bo h2 x (Zz m x)).map fun h3=>(h3,max (max top m) (Zz m x))
def goH:Nat→List Ins→List Int→Int→oP (List Int×Int)
 |_,[],h,top=>some (h,top)
 |i,x::r,h,top=>(Br h top i x).bind fun p=>goH (i+1) r p.1 p.2
def Qk(l:List Ins):Int×Bool:=match goH 0 l (List.replicate (l.length+1) (-1)) 0 with
 |none=>(0,false)
 |some (h,top)=>(top,decide (h.getD l.length 0≤0))
theorem Bt{l:List Ins}{i:Nat}{x:Ins}(hx:l[i]?=some x)(h:List Int)(top:Int):goH i (l.drop i) h top=(Br h top i x).bind fun p=>goH (i+1) (l.drop (i+1)) p.1 p.2:=by rw[dog hx];rfl
theorem Ck{l:List Ins}(h:goH 0 l (List.replicate (l.length+1) (-1)) 0=none):Qk l=(0,false):=by unfold Qk;rw[h]
theorem TH(k n:Nat):(List.replicate k (-1:Int)++List.replicate (n+1) 0).set k (-1)=List.replicate (k+1) (-1)++List.replicate n 0:=by
 rw[List.set_append_right _ _ sm,aPc,aQf,List.replicate_succ (n:=n),List.set_cons_zero,List.append_cons,←List.replicate_succ']
theorem Bg{l:List Int}{i:Nat}{y:Int}(h:l[i]?=some y):l.getD i 0=y:=by rw[aQg,h];rfl
theorem Gs{l:List Int}{i:Nat}{v lo hi:Int}(h:∀y∈l,lo≤y∧y≤hi)(hv:lo≤v∧v≤hi):∀y∈l.set i v,lo≤y∧y≤hi:=fun y hy=>by
 rcases List.mem_or_eq_of_mem_set hy with h1|rfl
 ·exact h y h1
 ·exact hv
theorem Iy(b:Nat)(Ah:OA)(qh:Nat)(h:List Int)(t:Nat)(v y:Int)(hy:h[t]?=some y):
    Dz 182 [nv t,iv v,pv b] [box b [.slice Ah h.length qh] 57,rows Km 3 1 Ah qh h] (fun r Γ'=>r= .bool (decide (okH y v))∧Γ'=[box b [.slice Ah h.length qh] 57,rows Km 3 1 Ah qh (h.set t v)]):=by
 refine Ba func182 ntmps182 fun w0=>?_;refine Jz 12 ?_;refine JgP ?_ ?_<;>intro g12;refine Jz 11 ?_;have htl:t<h.length:=(aNr.1 hy).1;refine Jz 5 ?_;refine To.u (cu (i:=1) rfl rfl rfl c3 rfl rfl (Ha jC (y:=v) de om)) ?_;refine Jz 9 ?_;refine Eg [0,0] rfl (ak results182 ?_);exact⟨by simp[okH,g12],rfl⟩;refine Jz 11 ?_;have htl:t<h.length:=(aNr.1 hy).1;refine Jz 5 ?_;refine To.u (cu (i:=1) rfl rfl rfl c3 rfl rfl (Ha jC (y:=v) de om)) ?_;refine Jz 9 ?_;refine Eg [0,0] rfl (ak results182 ?_);exact⟨by simp[okH,g12],rfl⟩
theorem DZ(pr:Int)(A:OA)(q:Nat)(l:List Ins)(hl:l.length≤4000)(hform:∀x∈l,Va pr l.length x=true):
    Dz 133 [.slice A l.length q] [ros Ins.cells A l,Gz] (fun v _=>v= .tuple #[iv (Qk l).1, .bool (Qk l).2]):=by
 refine Ba func133 ntmps133 fun w0=>?_;refine Jz 11 ?_;refine Jmk rfl rfl rfl (Sq (enc:=Km) (z:=0) (n:=(l.length+1)) rfl rfl s57 rfl rfl om (by simp only[maxLen];omega)) ?_;rintro _ _ ⟨b16,rfl,rfl⟩;refine ae fun b4=>?_;refine Jz 12 ?_;refine Eg [0,0,0,0] rfl (Il (fun s g mz ρ Γ=>∃(Ah:OA) (qh:Nat) (h:List Int) (k:Nat),ρ=[s 0,s 2,s 4,(18,nv ((l.length+1))),(19,nv k)]∧Γ=[box b4 [.slice Ah h.length qh] 57,rows Km 3 1 Ah qh h,g 2,Gz]∧mz=l.length+1-k∧(k≤l.length+1)∧(h=List.replicate k (-1)++List.replicate (l.length+1-k) 0)) ⟨⟨(some ⟨b16,0,none⟩),(l.length+1),(List.replicate (l.length+1) (0:Int)),0,rfl,rfl,rfl,om,sm⟩,⟨rfl,rfl,rfl,(aOa (fun n:Nat=>some (iv (n:Int))) aPc),rfl,trivial⟩⟩ ?_);rintro mz _ _ ⟨Ah,qh,h,k,rfl,rfl,rfl,hk,hh⟩;have hhl:h.length=l.length+1:=by rw[hh,aj,aPc,aPc];omega
 refine Jz 6 ?_;refine aa rfl ?_ ?_<;>intro c20;refine Jz 10 ?_;obtain⟨y,hy⟩:=ai h k om;refine Jz 4 ?_;refine To.u (cu (i:=1) rfl rfl rfl c3 rfl rfl (Ha jC (y:=(-1)) de om)) ?_;refine Jz 8 ?_;refine Eg [0,0,0,0] rfl (Jas [box b4 [.slice Ah (h.set k (-1)).length qh] 57,rows Km 3 1 Ah qh (h.set k (-1)),ros Ins.cells A l,Gz] (by(try unfold vs);rw[aNw]<;>rfl) (Dc ⟨⟨Ah,qh,(h.set k (-1)),k+1,rfl,rfl,rfl,om,(by rw[hh,show l.length+1-k=(l.length-k)+1 from by omega,TH,show l.length+1-(k+1)=l.length-k from by omega])⟩,sb⟩));refine Jz 7 ?_;refine Jr (Rd.makeFunc rfl rfl rfl) ?_;refine Jz 12 ?_;have hh0:h=List.replicate (l.length+1) (-1):=by rw[hh,show k=l.length+1 from by omega];simp
 subst hh0;refine Eg [0,0,0,0] rfl (Il (fun s g mz ρ Γ=>∃(h:List Int) (top:Int) (i:Nat),ρ=[s 0,(2,iv top),s 4,s 6,s 27,s 28,(29,nv i)]∧Γ=[box b4 [.slice Ah h.length qh] 57,rows Km 3 1 Ah qh h,g 2,Gz]∧mz=l.length-i∧(i≤l.length)∧(h.length=l.length+1)∧(∀y0∈h,(-1:Int)≤y0∧y0≤((i:Nat):Int))∧(goH 0 l (List.replicate (l.length+1) (-1)) 0=goH i (l.drop i) h top)∧(0≤top∧top≤4001)) ⟨⟨(List.replicate (l.length+1) (-1)),0,0,rfl,rfl,rfl,om,sm,(fun y0 hy0=>by rw[List.eq_of_mem_replicate hy0];omega),rfl,om⟩,sb⟩ ?_);rintro mz _ _ ⟨h,top,i,rfl,rfl,rfl,hi,hhl,hB,hI,ht⟩;refine Jz 6 ?_;refine aa rfl ?_ ?_<;>intro c30;obtain⟨x,hx⟩:=ai l i om;refine Jz 9 ?_;refine ae fun b8=>?_;refine Jz 5 ?_;obtain⟨y,hy⟩:=ai h i om;have hyb:=hB y (sN hy);have hix:i<h.length:=om;refine Jfw [] [1,3,100,102,104,105,6,107,508] (jP _) ?_;refine Jz 6 ?_;refine df rfl (Rd.max rfl rfl rfl) ?_;refine Jz 1 ?_;refine dh rfl rfl rfl (cu (i:=2) rfl rfl rfl c3 rfl rfl (Ha jC (y:=(max y 0)) de om)) (jP _) ?_;refine Jz 3 ?_;refine dx ?_;obtain⟨m,hm⟩:∃z0,z0=(max y 0):=⟨_,rfl⟩
 rw[←hm];refine dx ?_;obtain⟨h1,hh1⟩:∃z0,z0=(h.set i m):=⟨_,rfl⟩
 rw[←hh1];have hlh1:h1.length=h.length:=by rw[hh1];rw[aNw]
 rw[←hlh1];have hy1:h1[i]?=some m:=by rw[hh1,List.getElem?_set_self hix]
 have hmb:0≤m∧m≤i:=om;have hB1:∀y0∈h1,(-1:Int)≤y0∧y0≤((i:Nat):Int):=by rw[hh1];exact Gs hB om
 have hxf:=DY (hform x (sN hx));have hpb:=DX x.op;refine Jz 3 ?_;refine Jvf ((aFu x.op).mono (R':=fun v _=>v= .agg (Rw.cells (rowOf x.op)).toArray) (fun _ _ h=>h.1)) rfl (jS (lS 4 rfl) (jP _)) ?_;refine ae fun b9=>?_;refine Jz 9 ?_;refine JgP ?_ ?_<;>intro g48;refine Jz 12 ?_;refine Jr (Io rfl rfl rfl om) ?_;refine Jz 6 ?_;have hpn:((rowOf x.op).pops)+x.n=Gm x:=by unfold Gm;rw[aOn om]
 refine dx ?_;dsimp only[Rw.cells];rw[hpn];have hpb2:0≤Gm x∧Gm x≤6:=om;refine Jfw [] [1,4,100,102,103,105,6,7,8,109,10,11,13,112,114,115,16,17,18] (jP _) ?_;refine Jz 7 ?_;refine Wq rfl rfl rfl rfl (dn rfl rfl) (fun g66=>?_) (fun g66=>?_);refine Jz 27 ?_;refine Ei (.inl rfl) results133 rfl rfl ?_;have hm2:max (h.getD i 0) 0=m:=by rw[Bg hy,hm]
 rw[Ck (by rw[hI,Bt hx,show Br h top i x=none from(by unfold Br;simp only[hm2];rw[aOn om])];rfl)];refine Jz 3 ?_;refine Wq rfl rfl rfl rfl (dn rfl rfl) (fun g70=>?_) (fun g70=>?_);refine Jz 9 ?_;refine aa rfl ?_ ?_<;>intro c77;refine Jz 13 ?_;refine Ei (.inl rfl) results133 rfl rfl ?_;have hm2:max (h.getD i 0) 0=m:=by rw[Bg hy,hm]
 rw[Ck (by rw[hI,Bt hx,show Br h top i x=none from(by unfold Br;simp only[hm2];rw[aOn om])];rfl)];refine Jz 3 ?_;refine Jfw [] [1,4,7,100,102,103,105,6,108,9,10] (jP _) ?_;refine Jz 7 ?_;refine df rfl (Fh rfl rfl rfl om) ?_;refine Jz 1 ?_;refine df rfl (Io rfl rfl rfl om) ?_;refine Jz 4 ?_;refine dx ?_;obtain⟨v,hv⟩:∃z0,z0=((m-(Gm x))+((rowOf x.op).pushes)):=⟨_,rfl⟩
 rw[←hv];have hv2:v=Zz m x:=by rw[hv,Zz]
 have hvb:0≤v∧v≤i+1:=om;refine Jz 7 ?_;refine Jr (Um rfl rfl rfl rfl) ?_;refine Jz 2 ?_;refine Ju [(0, .slice A l.length q),(2,iv (max (max top m) v)),(4,pv b4),(6, .func (.func 182) #[] #[pv b4]),(27, .slice A l.length q),(28,nv l.length),(29,nv i),(30, .bool (decide (((i:Nat):Int)<((l.length:Nat):Int)))),(8,pv b8),(7,nv i),(9,pv b9),(52, .bool true),(77, .bool (decide (m≠0))),(10,iv v)] sb (Jz 3 ?_);obtain⟨y2,hy2⟩:∃z0,h1[i+1]?=some z0:=⟨h1[i+1]'om,gge _⟩
 refine dx ?_;obtain⟨top',htop'⟩:∃z0,z0=(max (max top m) v):=⟨_,rfl⟩
 rw[←htop'];refine Jz 4 ?_;refine JgP ?_ ?_<;>intro g98;refine Jz 4 ?_;refine JgP ?_ ?_<;>intro g103;refine Jz 4 ?_;refine Jcl [2,2] rfl rfl rfl (di (first:=[]) (captured:=[pv b4]) rfl rfl rfl (kc.h 182 rfl)) rfl (Iy b4 Ah qh h1 (i+1) v y2 hy2) ?_;rintro _ _ ⟨rfl,rfl⟩;refine Jz 4 ?_;refine Ee rfl ?_ ?_<;>intro c110;refine Jz 13 ?_;refine Ei (.inl rfl) results133 rfl rfl ?_;have hm2:max (h.getD i 0) 0=m:=by rw[Bg hy,hm]
 have hnf:¬(m<Gm x∨(((x.op:Nat):Int)=34∧m≠0)):=om;have hN:Fp h1 i x v=none:=by rw[Fp,aOn om,Bg hy2,aNy (by simpa using c110)]
 rw[Ck (by rw[hI,Bt hx,show Br h top i x=none from(by unfold Br;simp only[hm2,←hh1,←hv2];rw[aNy hnf,hN];rfl)];rfl)];refine Jz 3 ?_;have hnf:¬(m<Gm x∨(((x.op:Nat):Int)=34∧m≠0)):=om;refine dx ?_;obtain⟨h2,hh2⟩:∃z0,z0=(h1.set (i+1) v):=⟨_,rfl⟩
 rw[←hh2];have hlh2:h2.length=h1.length:=by rw[hh2];rw[aNw]
 rw[←hlh2];have hN:Fp h1 i x v=some h2:=by rw[Fp,aOn om,Bg hy2,aOn (by simpa using c110),hh2]
 have hB2:∀y0∈h2,(-1:Int)≤y0∧y0≤((i+1:Nat):Int):=by rw[hh2];exact Gs (fun y0 h0=>by have:=hB1 y0 h0;omega) om
 refine Jz 2 ?_;refine Jvf (Lv x) rfl (jP _) ?_;refine Jz 8 ?_;refine dx ?_;obtain⟨tn,htn⟩:∃tn:Nat,(tgt x).getD 0=((tn:Nat):Int):=⟨((tgt x).getD 0).toNat,by omega⟩
 rw[htn];obtain⟨y3,hy3⟩:=ai h2 tn om;have htn2:((tgt x).getD 0).toNat=tn:=om;refine Jz 2 ?_;refine JgB ?_ ?_<;>intro g117;refine Jz 3 ?_;refine Jcl [0,0] rfl rfl rfl (di (first:=[]) (captured:=[pv b4]) rfl rfl rfl (kc.h 182 rfl)) rfl (Iy b4 Ah qh h2 tn v y3 hy3) ?_;rintro _ _ ⟨rfl,rfl⟩;refine Jz 4 ?_;refine Ee rfl ?_ ?_<;>intro Hr;refine Jz 12 ?_;refine Ei (.inl rfl) results133 rfl rfl ?_;have hm2:max (h.getD i 0) 0=m:=by rw[Bg hy,hm]
 have hJ:Bo h2 x v=none:=by rw[Bo,aOn (by assumption),htn2,Bg hy3,aNy (by simpa using Hr)]
 rw[Ck (by rw[hI,Bt hx,show Br h top i x=none from(by unfold Br;simp only[hm2,←hh1,←hv2];rw[aNy hnf,hN];simp[hJ])];rfl)];refine Jz 8 ?_;have hm2:max (h.getD i 0) 0=m:=by rw[Bg hy,hm]
 have hJ:Bo h2 x v=some (h2.set tn v):=by rw[Bo,aOn (by assumption),htn2,Bg hy3,aOn (by simpa using Hr)]
 have hS:Br h top i x=some ((h2.set tn v),top'):=by
  unfold Br;simp only[hm2,←hh1,←hv2];rw[aNy hnf,hN];show((Bo h2 x v).map fun h3=>(h3,max (max top m) v))=_;rw[hJ,htop'];rfl
 refine Eg [0,0,2,2] rfl (Jas [box b4 [.slice Ah (h2.set tn v).length qh] 57,rows Km 3 1 Ah qh (h2.set tn v),ros Ins.cells A l,Gz] (by first|rfl|rw[aNw]<;>rfl) (Dc ⟨⟨(h2.set tn v),top',i+1,rfl,rfl,rfl,om,(by rw[aNw];omega),(Gs (fun y0 h0=>by have:=hB2 y0 h0;omega) om),(by rw[hI,Bt hx,hS];rfl),om⟩,sb⟩));refine Jz 17 ?_;have hm2:max (h.getD i 0) 0=m:=by rw[Bg hy,hm]
 have hJ:Bo h2 x v=some h2:=by rw[Bo,aNy (by simp[g117])]
 have hS:Br h top i x=some (h2,top'):=by
  unfold Br;simp only[hm2,←hh1,←hv2];rw[aNy hnf,hN];show((Bo h2 x v).map fun h3=>(h3,max (max top m) v))=_;rw[hJ,htop'];rfl
 refine Eg [0,0,2,2] rfl (Jas [box b4 [.slice Ah h2.length qh] 57,rows Km 3 1 Ah qh h2,ros Ins.cells A l,Gz] (by first|rfl|rw[aNw]<;>rfl) (Dc ⟨⟨h2,top',i+1,rfl,rfl,rfl,om,om,hB2,(by rw[hI,Bt hx,hS];rfl),om⟩,sb⟩));refine Jz 13 ?_;have hnf:¬(m<Gm x∨(((x.op:Nat):Int)=34∧m≠0)):=om;have hN:Fp h1 i x v=some h1:=by rw[Fp,aNy om]
 have hB2:∀y0∈h1,(-1:Int)≤y0∧y0≤((i+1:Nat):Int):=fun y0 h0=>by have:=hB1 y0 h0;omega
 refine Jz 2 ?_;refine Jvf (Lv x) rfl (jP _) ?_;refine Jz 8 ?_;refine dx ?_;obtain⟨tn,htn⟩:∃tn:Nat,(tgt x).getD 0=((tn:Nat):Int):=⟨((tgt x).getD 0).toNat,by omega⟩
 rw[htn];obtain⟨y3,hy3⟩:=ai h1 tn om;have htn2:((tgt x).getD 0).toNat=tn:=om;refine Jz 2 ?_;refine JgB ?_ ?_<;>intro g117;refine Jz 3 ?_;refine Jcl [2,2] rfl rfl rfl (di (first:=[]) (captured:=[pv b4]) rfl rfl rfl (kc.h 182 rfl)) rfl (Iy b4 Ah qh h1 tn v y3 hy3) ?_;rintro _ _ ⟨rfl,rfl⟩;refine Jz 4 ?_;refine Ee rfl ?_ ?_<;>intro Hr;refine Jz 12 ?_;refine Ei (.inl rfl) results133 rfl rfl ?_;have hm2:max (h.getD i 0) 0=m:=by rw[Bg hy,hm]
 have hJ:Bo h1 x v=none:=by rw[Bo,aOn (by assumption),htn2,Bg hy3,aNy (by simpa using Hr)]
 rw[Ck (by rw[hI,Bt hx,show Br h top i x=none from(by unfold Br;simp only[hm2,←hh1,←hv2];rw[aNy hnf,hN];simp[hJ])];rfl)];refine Jz 8 ?_;have hm2:max (h.getD i 0) 0=m:=by rw[Bg hy,hm]
 have hJ:Bo h1 x v=some (h1.set tn v):=by rw[Bo,aOn (by assumption),htn2,Bg hy3,aOn (by simpa using Hr)]
 have hS:Br h top i x=some ((h1.set tn v),top'):=by
  unfold Br;simp only[hm2,←hh1,←hv2];rw[aNy hnf,hN];show((Bo h1 x v).map fun h3=>(h3,max (max top m) v))=_;rw[hJ,htop'];rfl
 refine Eg [0,0,2,2] rfl (Jas [box b4 [.slice Ah (h1.set tn v).length qh] 57,rows Km 3 1 Ah qh (h1.set tn v),ros Ins.cells A l,Gz] (by first|rfl|rw[aNw]<;>rfl) (Dc ⟨⟨(h1.set tn v),top',i+1,rfl,rfl,rfl,om,(by rw[aNw];omega),(Gs (fun y0 h0=>by have:=hB2 y0 h0;omega) om),(by rw[hI,Bt hx,hS];rfl),om⟩,sb⟩));refine Jz 17 ?_;have hm2:max (h.getD i 0) 0=m:=by rw[Bg hy,hm]
 have hJ:Bo h1 x v=some h1:=by rw[Bo,aNy (by simp[g117])]
 have hS:Br h top i x=some (h1,top'):=by
  unfold Br;simp only[hm2,←hh1,←hv2];rw[aNy hnf,hN];show((Bo h1 x v).map fun h3=>(h3,max (max top m) v))=_;rw[hJ,htop'];rfl
 refine Eg [2,2,2,2] rfl (Jas [box b4 [.slice Ah h1.length qh] 57,rows Km 3 1 Ah qh h1,ros Ins.cells A l,Gz] (by first|rfl|rw[aNw]<;>rfl) (Dc ⟨⟨h1,top',i+1,rfl,rfl,rfl,om,om,hB2,(by rw[hI,Bt hx,hS];rfl),om⟩,sb⟩));refine Jz 18 ?_;have hnf:¬(m<Gm x∨(((x.op:Nat):Int)=34∧m≠0)):=om;have hN:Fp h1 i x v=some h1:=by rw[Fp,aNy om]
 have hB2:∀y0∈h1,(-1:Int)≤y0∧y0≤((i+1:Nat):Int):=fun y0 h0=>by have:=hB1 y0 h0;omega
 refine Jz 2 ?_;refine Jvf (Lv x) rfl (jP _) ?_;refine Jz 8 ?_;refine dx ?_;obtain⟨tn,htn⟩:∃tn:Nat,(tgt x).getD 0=((tn:Nat):Int):=⟨((tgt x).getD 0).toNat,by omega⟩
 rw[htn];obtain⟨y3,hy3⟩:=ai h1 tn om;have htn2:((tgt x).getD 0).toNat=tn:=om;refine Jz 2 ?_;refine JgB ?_ ?_<;>intro g117;refine Jz 3 ?_;refine Jcl [2,2] rfl rfl rfl (di (first:=[]) (captured:=[pv b4]) rfl rfl rfl (kc.h 182 rfl)) rfl (Iy b4 Ah qh h1 tn v y3 hy3) ?_;rintro _ _ ⟨rfl,rfl⟩;refine Jz 4 ?_;refine Ee rfl ?_ ?_<;>intro Hr;refine Jz 12 ?_;refine Ei (.inl rfl) results133 rfl rfl ?_;have hm2:max (h.getD i 0) 0=m:=by rw[Bg hy,hm]
 have hJ:Bo h1 x v=none:=by rw[Bo,aOn (by assumption),htn2,Bg hy3,aNy (by simpa using Hr)]
 rw[Ck (by rw[hI,Bt hx,show Br h top i x=none from(by unfold Br;simp only[hm2,←hh1,←hv2];rw[aNy hnf,hN];simp[hJ])];rfl)];refine Jz 8 ?_;have hm2:max (h.getD i 0) 0=m:=by rw[Bg hy,hm]
 have hJ:Bo h1 x v=some (h1.set tn v):=by rw[Bo,aOn (by assumption),htn2,Bg hy3,aOn (by simpa using Hr)]
 have hS:Br h top i x=some ((h1.set tn v),top'):=by
  unfold Br;simp only[hm2,←hh1,←hv2];rw[aNy hnf,hN];show((Bo h1 x v).map fun h3=>(h3,max (max top m) v))=_;rw[hJ,htop'];rfl
 refine Eg [0,0,2,2] rfl (Jas [box b4 [.slice Ah (h1.set tn v).length qh] 57,rows Km 3 1 Ah qh (h1.set tn v),ros Ins.cells A l,Gz] (by first|rfl|rw[aNw]<;>rfl) (Dc ⟨⟨(h1.set tn v),top',i+1,rfl,rfl,rfl,om,(by rw[aNw];omega),(Gs (fun y0 h0=>by have:=hB2 y0 h0;omega) om),(by rw[hI,Bt hx,hS];rfl),om⟩,sb⟩));refine Jz 17 ?_;have hm2:max (h.getD i 0) 0=m:=by rw[Bg hy,hm]
 have hJ:Bo h1 x v=some h1:=by rw[Bo,aNy (by simp[g117])]
 have hS:Br h top i x=some (h1,top'):=by
  unfold Br;simp only[hm2,←hh1,←hv2];rw[aNy hnf,hN];show((Bo h1 x v).map fun h3=>(h3,max (max top m) v))=_;rw[hJ,htop'];rfl
 refine Eg [2,2,2,2] rfl (Jas [box b4 [.slice Ah h1.length qh] 57,rows Km 3 1 Ah qh h1,ros Ins.cells A l,Gz] (by first|rfl|rw[aNw]<;>rfl) (Dc ⟨⟨h1,top',i+1,rfl,rfl,rfl,om,om,hB2,(by rw[hI,Bt hx,hS];rfl),om⟩,sb⟩));refine Jz 13 ?_;refine Jfw [] [1,4,7,100,102,103,105,6,108,9,10] (jP _) ?_;refine Jz 7 ?_;refine df rfl (Fh rfl rfl rfl om) ?_;refine Jz 1 ?_;refine df rfl (Io rfl rfl rfl om) ?_;refine Jz 4 ?_;refine dx ?_;obtain⟨v,hv⟩:∃z0,z0=((m-(Gm x))+((rowOf x.op).pushes)):=⟨_,rfl⟩
 rw[←hv];have hv2:v=Zz m x:=by rw[hv,Zz]
 have hvb:0≤v∧v≤i+1:=om;refine Jz 7 ?_;refine Jr (Um rfl rfl rfl rfl) ?_;refine Jz 2 ?_;refine Ju [(0, .slice A l.length q),(2,iv (max (max top m) v)),(4,pv b4),(6, .func (.func 182) #[] #[pv b4]),(27, .slice A l.length q),(28,nv l.length),(29,nv i),(30, .bool (decide (((i:Nat):Int)<((l.length:Nat):Int)))),(8,pv b8),(7,nv i),(9,pv b9),(52, .bool true),(77, .bool false),(10,iv v)] sb (Jz 3 ?_);obtain⟨y2,hy2⟩:∃z0,h1[i+1]?=some z0:=⟨h1[i+1]'om,gge _⟩
 refine dx ?_;obtain⟨top',htop'⟩:∃z0,z0=(max (max top m) v):=⟨_,rfl⟩
 rw[←htop'];refine Jz 4 ?_;refine JgP ?_ ?_<;>intro g98;refine Jz 4 ?_;refine JgP ?_ ?_<;>intro g103;refine Jz 4 ?_;refine Jcl [2,2] rfl rfl rfl (di (first:=[]) (captured:=[pv b4]) rfl rfl rfl (kc.h 182 rfl)) rfl (Iy b4 Ah qh h1 (i+1) v y2 hy2) ?_;rintro _ _ ⟨rfl,rfl⟩;refine Jz 4 ?_;refine Ee rfl ?_ ?_<;>intro c110;refine Jz 13 ?_;refine Ei (.inl rfl) results133 rfl rfl ?_;have hm2:max (h.getD i 0) 0=m:=by rw[Bg hy,hm]
 have hnf:¬(m<Gm x∨(((x.op:Nat):Int)=34∧m≠0)):=om;have hN:Fp h1 i x v=none:=by rw[Fp,aOn om,Bg hy2,aNy (by simpa using c110)]
 rw[Ck (by rw[hI,Bt hx,show Br h top i x=none from(by unfold Br;simp only[hm2,←hh1,←hv2];rw[aNy hnf,hN];rfl)];rfl)];refine Jz 3 ?_;have hnf:¬(m<Gm x∨(((x.op:Nat):Int)=34∧m≠0)):=om;refine dx ?_;obtain⟨h2,hh2⟩:∃z0,z0=(h1.set (i+1) v):=⟨_,rfl⟩
 rw[←hh2];have hlh2:h2.length=h1.length:=by rw[hh2];rw[aNw]
 rw[←hlh2];have hN:Fp h1 i x v=some h2:=by rw[Fp,aOn om,Bg hy2,aOn (by simpa using c110),hh2]
 have hB2:∀y0∈h2,(-1:Int)≤y0∧y0≤((i+1:Nat):Int):=by rw[hh2];exact Gs (fun y0 h0=>by have:=hB1 y0 h0;omega) om
 refine Jz 2 ?_;refine Jvf (Lv x) rfl (jP _) ?_;refine Jz 8 ?_;refine dx ?_;obtain⟨tn,htn⟩:∃tn:Nat,(tgt x).getD 0=((tn:Nat):Int):=⟨((tgt x).getD 0).toNat,by omega⟩
 rw[htn];obtain⟨y3,hy3⟩:=ai h2 tn om;have htn2:((tgt x).getD 0).toNat=tn:=om;refine Jz 2 ?_;refine JgB ?_ ?_<;>intro g117;refine Jz 3 ?_;refine Jcl [0,0] rfl rfl rfl (di (first:=[]) (captured:=[pv b4]) rfl rfl rfl (kc.h 182 rfl)) rfl (Iy b4 Ah qh h2 tn v y3 hy3) ?_;rintro _ _ ⟨rfl,rfl⟩;refine Jz 4 ?_;refine Ee rfl ?_ ?_<;>intro Hr;refine Jz 12 ?_;refine Ei (.inl rfl) results133 rfl rfl ?_;have hm2:max (h.getD i 0) 0=m:=by rw[Bg hy,hm]
 have hJ:Bo h2 x v=none:=by rw[Bo,aOn (by assumption),htn2,Bg hy3,aNy (by simpa using Hr)]
 rw[Ck (by rw[hI,Bt hx,show Br h top i x=none from(by unfold Br;simp only[hm2,←hh1,←hv2];rw[aNy hnf,hN];simp[hJ])];rfl)];refine Jz 8 ?_;have hm2:max (h.getD i 0) 0=m:=by rw[Bg hy,hm]
 have hJ:Bo h2 x v=some (h2.set tn v):=by rw[Bo,aOn (by assumption),htn2,Bg hy3,aOn (by simpa using Hr)]
 have hS:Br h top i x=some ((h2.set tn v),top'):=by
  unfold Br;simp only[hm2,←hh1,←hv2];rw[aNy hnf,hN];show((Bo h2 x v).map fun h3=>(h3,max (max top m) v))=_;rw[hJ,htop'];rfl
 refine Eg [0,0,2,2] rfl (Jas [box b4 [.slice Ah (h2.set tn v).length qh] 57,rows Km 3 1 Ah qh (h2.set tn v),ros Ins.cells A l,Gz] (by first|rfl|rw[aNw]<;>rfl) (Dc ⟨⟨(h2.set tn v),top',i+1,rfl,rfl,rfl,om,(by rw[aNw];omega),(Gs (fun y0 h0=>by have:=hB2 y0 h0;omega) om),(by rw[hI,Bt hx,hS];rfl),om⟩,sb⟩));refine Jz 17 ?_;have hm2:max (h.getD i 0) 0=m:=by rw[Bg hy,hm]
 have hJ:Bo h2 x v=some h2:=by rw[Bo,aNy (by simp[g117])]
 have hS:Br h top i x=some (h2,top'):=by
  unfold Br;simp only[hm2,←hh1,←hv2];rw[aNy hnf,hN];show((Bo h2 x v).map fun h3=>(h3,max (max top m) v))=_;rw[hJ,htop'];rfl
 refine Eg [0,0,2,2] rfl (Jas [box b4 [.slice Ah h2.length qh] 57,rows Km 3 1 Ah qh h2,ros Ins.cells A l,Gz] (by first|rfl|rw[aNw]<;>rfl) (Dc ⟨⟨h2,top',i+1,rfl,rfl,rfl,om,om,hB2,(by rw[hI,Bt hx,hS];rfl),om⟩,sb⟩));refine Jz 13 ?_;have hnf:¬(m<Gm x∨(((x.op:Nat):Int)=34∧m≠0)):=om;have hN:Fp h1 i x v=some h1:=by rw[Fp,aNy om]
 have hB2:∀y0∈h1,(-1:Int)≤y0∧y0≤((i+1:Nat):Int):=fun y0 h0=>by have:=hB1 y0 h0;omega
 refine Jz 2 ?_;refine Jvf (Lv x) rfl (jP _) ?_;refine Jz 8 ?_;refine dx ?_;obtain⟨tn,htn⟩:∃tn:Nat,(tgt x).getD 0=((tn:Nat):Int):=⟨((tgt x).getD 0).toNat,by omega⟩
 rw[htn];obtain⟨y3,hy3⟩:=ai h1 tn om;have htn2:((tgt x).getD 0).toNat=tn:=om;refine Jz 2 ?_;refine JgB ?_ ?_<;>intro g117;refine Jz 3 ?_;refine Jcl [2,2] rfl rfl rfl (di (first:=[]) (captured:=[pv b4]) rfl rfl rfl (kc.h 182 rfl)) rfl (Iy b4 Ah qh h1 tn v y3 hy3) ?_;rintro _ _ ⟨rfl,rfl⟩;refine Jz 4 ?_;refine Ee rfl ?_ ?_<;>intro Hr;refine Jz 12 ?_;refine Ei (.inl rfl) results133 rfl rfl ?_;have hm2:max (h.getD i 0) 0=m:=by rw[Bg hy,hm]
 have hJ:Bo h1 x v=none:=by rw[Bo,aOn (by assumption),htn2,Bg hy3,aNy (by simpa using Hr)]
 rw[Ck (by rw[hI,Bt hx,show Br h top i x=none from(by unfold Br;simp only[hm2,←hh1,←hv2];rw[aNy hnf,hN];simp[hJ])];rfl)];refine Jz 8 ?_;have hm2:max (h.getD i 0) 0=m:=by rw[Bg hy,hm]
 have hJ:Bo h1 x v=some (h1.set tn v):=by rw[Bo,aOn (by assumption),htn2,Bg hy3,aOn (by simpa using Hr)]
 have hS:Br h top i x=some ((h1.set tn v),top'):=by
  unfold Br;simp only[hm2,←hh1,←hv2];rw[aNy hnf,hN];show((Bo h1 x v).map fun h3=>(h3,max (max top m) v))=_;rw[hJ,htop'];rfl
 refine Eg [0,0,2,2] rfl (Jas [box b4 [.slice Ah (h1.set tn v).length qh] 57,rows Km 3 1 Ah qh (h1.set tn v),ros Ins.cells A l,Gz] (by first|rfl|rw[aNw]<;>rfl) (Dc ⟨⟨(h1.set tn v),top',i+1,rfl,rfl,rfl,om,(by rw[aNw];omega),(Gs (fun y0 h0=>by have:=hB2 y0 h0;omega) om),(by rw[hI,Bt hx,hS];rfl),om⟩,sb⟩));refine Jz 17 ?_;have hm2:max (h.getD i 0) 0=m:=by rw[Bg hy,hm]
 have hJ:Bo h1 x v=some h1:=by rw[Bo,aNy (by simp[g117])]
 have hS:Br h top i x=some (h1,top'):=by
  unfold Br;simp only[hm2,←hh1,←hv2];rw[aNy hnf,hN];show((Bo h1 x v).map fun h3=>(h3,max (max top m) v))=_;rw[hJ,htop'];rfl
 refine Eg [2,2,2,2] rfl (Jas [box b4 [.slice Ah h1.length qh] 57,rows Km 3 1 Ah qh h1,ros Ins.cells A l,Gz] (by first|rfl|rw[aNw]<;>rfl) (Dc ⟨⟨h1,top',i+1,rfl,rfl,rfl,om,om,hB2,(by rw[hI,Bt hx,hS];rfl),om⟩,sb⟩));refine Jz 18 ?_;have hnf:¬(m<Gm x∨(((x.op:Nat):Int)=34∧m≠0)):=om;have hN:Fp h1 i x v=some h1:=by rw[Fp,aNy om]
 have hB2:∀y0∈h1,(-1:Int)≤y0∧y0≤((i+1:Nat):Int):=fun y0 h0=>by have:=hB1 y0 h0;omega
 refine Jz 2 ?_;refine Jvf (Lv x) rfl (jP _) ?_;refine Jz 8 ?_;refine dx ?_;obtain⟨tn,htn⟩:∃tn:Nat,(tgt x).getD 0=((tn:Nat):Int):=⟨((tgt x).getD 0).toNat,by omega⟩
 rw[htn];obtain⟨y3,hy3⟩:=ai h1 tn om;have htn2:((tgt x).getD 0).toNat=tn:=om;refine Jz 2 ?_;refine JgB ?_ ?_<;>intro g117;refine Jz 3 ?_;refine Jcl [2,2] rfl rfl rfl (di (first:=[]) (captured:=[pv b4]) rfl rfl rfl (kc.h 182 rfl)) rfl (Iy b4 Ah qh h1 tn v y3 hy3) ?_;rintro _ _ ⟨rfl,rfl⟩;refine Jz 4 ?_;refine Ee rfl ?_ ?_<;>intro Hr;refine Jz 12 ?_;refine Ei (.inl rfl) results133 rfl rfl ?_;have hm2:max (h.getD i 0) 0=m:=by rw[Bg hy,hm]
 have hJ:Bo h1 x v=none:=by rw[Bo,aOn (by assumption),htn2,Bg hy3,aNy (by simpa using Hr)]
 rw[Ck (by rw[hI,Bt hx,show Br h top i x=none from(by unfold Br;simp only[hm2,←hh1,←hv2];rw[aNy hnf,hN];simp[hJ])];rfl)];refine Jz 8 ?_;have hm2:max (h.getD i 0) 0=m:=by rw[Bg hy,hm]
 have hJ:Bo h1 x v=some (h1.set tn v):=by rw[Bo,aOn (by assumption),htn2,Bg hy3,aOn (by simpa using Hr)]
 have hS:Br h top i x=some ((h1.set tn v),top'):=by
  unfold Br;simp only[hm2,←hh1,←hv2];rw[aNy hnf,hN];show((Bo h1 x v).map fun h3=>(h3,max (max top m) v))=_;rw[hJ,htop'];rfl
 refine Eg [0,0,2,2] rfl (Jas [box b4 [.slice Ah (h1.set tn v).length qh] 57,rows Km 3 1 Ah qh (h1.set tn v),ros Ins.cells A l,Gz] (by first|rfl|rw[aNw]<;>rfl) (Dc ⟨⟨(h1.set tn v),top',i+1,rfl,rfl,rfl,om,(by rw[aNw];omega),(Gs (fun y0 h0=>by have:=hB2 y0 h0;omega) om),(by rw[hI,Bt hx,hS];rfl),om⟩,sb⟩));refine Jz 17 ?_;have hm2:max (h.getD i 0) 0=m:=by rw[Bg hy,hm]
 have hJ:Bo h1 x v=some h1:=by rw[Bo,aNy (by simp[g117])]
 have hS:Br h top i x=some (h1,top'):=by
  unfold Br;simp only[hm2,←hh1,←hv2];rw[aNy hnf,hN];show((Bo h1 x v).map fun h3=>(h3,max (max top m) v))=_;rw[hJ,htop'];rfl
 refine Eg [2,2,2,2] rfl (Jas [box b4 [.slice Ah h1.length qh] 57,rows Km 3 1 Ah qh h1,ros Ins.cells A l,Gz] (by first|rfl|rw[aNw]<;>rfl) (Dc ⟨⟨h1,top',i+1,rfl,rfl,rfl,om,om,hB2,(by rw[hI,Bt hx,hS];rfl),om⟩,sb⟩));refine Jz 6 ?_;refine aa rfl ?_ ?_<;>intro c52;refine Jz 5 ?_;refine Jr (Io rfl rfl rfl om) ?_;refine Jz 6 ?_;have hpn:((rowOf x.op).pops)+x.n=Gm x:=by unfold Gm;rw[aOn om]
 refine dx ?_;dsimp only[Rw.cells];rw[hpn];have hpb2:0≤Gm x∧Gm x≤6:=om;refine Jfw [] [1,4,100,102,103,105,6,7,8,109,10,11,13,112,114,115,16,17,18] (jP _) ?_;refine Jz 7 ?_;refine Wq rfl rfl rfl rfl (dn rfl rfl) (fun g66=>?_) (fun g66=>?_);refine Jz 27 ?_;refine Ei (.inl rfl) results133 rfl rfl ?_;have hm2:max (h.getD i 0) 0=m:=by rw[Bg hy,hm]
 rw[Ck (by rw[hI,Bt hx,show Br h top i x=none from(by unfold Br;simp only[hm2];rw[aOn om])];rfl)];refine Jz 3 ?_;refine Wq rfl rfl rfl rfl (dn rfl rfl) (fun g70=>?_) (fun g70=>?_);refine Jz 9 ?_;refine aa rfl ?_ ?_<;>intro c77;refine Jz 13 ?_;refine Ei (.inl rfl) results133 rfl rfl ?_;have hm2:max (h.getD i 0) 0=m:=by rw[Bg hy,hm]
 rw[Ck (by rw[hI,Bt hx,show Br h top i x=none from(by unfold Br;simp only[hm2];rw[aOn om])];rfl)];refine Jz 3 ?_;refine Jfw [] [1,4,7,100,102,103,105,6,108,9,10] (jP _) ?_;refine Jz 7 ?_;refine df rfl (Fh rfl rfl rfl om) ?_;refine Jz 1 ?_;refine df rfl (Io rfl rfl rfl om) ?_;refine Jz 4 ?_;refine dx ?_;obtain⟨v,hv⟩:∃z0,z0=((m-(Gm x))+((rowOf x.op).pushes)):=⟨_,rfl⟩
 rw[←hv];have hv2:v=Zz m x:=by rw[hv,Zz]
 have hvb:0≤v∧v≤i+1:=om;refine Jz 7 ?_;refine Jr (Um rfl rfl rfl rfl) ?_;refine Jz 2 ?_;refine Ju [(0, .slice A l.length q),(2,iv (max (max top m) v)),(4,pv b4),(6, .func (.func 182) #[] #[pv b4]),(27, .slice A l.length q),(28,nv l.length),(29,nv i),(30, .bool (decide (((i:Nat):Int)<((l.length:Nat):Int)))),(8,pv b8),(7,nv i),(9,pv b9),(52, .bool (decide (((x.op:Nat):Int)=31))),(77, .bool (decide (m≠0))),(10,iv v)] sb (Jz 3 ?_);obtain⟨y2,hy2⟩:∃z0,h1[i+1]?=some z0:=⟨h1[i+1]'om,gge _⟩
 refine dx ?_;obtain⟨top',htop'⟩:∃z0,z0=(max (max top m) v):=⟨_,rfl⟩
 rw[←htop'];refine Jz 4 ?_;refine JgP ?_ ?_<;>intro g98;refine Jz 4 ?_;refine JgP ?_ ?_<;>intro g103;refine Jz 4 ?_;refine Jcl [2,2] rfl rfl rfl (di (first:=[]) (captured:=[pv b4]) rfl rfl rfl (kc.h 182 rfl)) rfl (Iy b4 Ah qh h1 (i+1) v y2 hy2) ?_;rintro _ _ ⟨rfl,rfl⟩;refine Jz 4 ?_;refine Ee rfl ?_ ?_<;>intro c110;refine Jz 13 ?_;refine Ei (.inl rfl) results133 rfl rfl ?_;have hm2:max (h.getD i 0) 0=m:=by rw[Bg hy,hm]
 have hnf:¬(m<Gm x∨(((x.op:Nat):Int)=34∧m≠0)):=om;have hN:Fp h1 i x v=none:=by rw[Fp,aOn om,Bg hy2,aNy (by simpa using c110)]
 rw[Ck (by rw[hI,Bt hx,show Br h top i x=none from(by unfold Br;simp only[hm2,←hh1,←hv2];rw[aNy hnf,hN];rfl)];rfl)];refine Jz 3 ?_;have hnf:¬(m<Gm x∨(((x.op:Nat):Int)=34∧m≠0)):=om;refine dx ?_;obtain⟨h2,hh2⟩:∃z0,z0=(h1.set (i+1) v):=⟨_,rfl⟩
 rw[←hh2];have hlh2:h2.length=h1.length:=by rw[hh2];rw[aNw]
 rw[←hlh2];have hN:Fp h1 i x v=some h2:=by rw[Fp,aOn om,Bg hy2,aOn (by simpa using c110),hh2]
 have hB2:∀y0∈h2,(-1:Int)≤y0∧y0≤((i+1:Nat):Int):=by rw[hh2];exact Gs (fun y0 h0=>by have:=hB1 y0 h0;omega) om
 refine Jz 2 ?_;refine Jvf (Lv x) rfl (jP _) ?_;refine Jz 8 ?_;refine dx ?_;obtain⟨tn,htn⟩:∃tn:Nat,(tgt x).getD 0=((tn:Nat):Int):=⟨((tgt x).getD 0).toNat,by omega⟩
 rw[htn];obtain⟨y3,hy3⟩:=ai h2 tn om;have htn2:((tgt x).getD 0).toNat=tn:=om;refine Jz 2 ?_;refine JgB ?_ ?_<;>intro g117;refine Jz 3 ?_;refine Jcl [0,0] rfl rfl rfl (di (first:=[]) (captured:=[pv b4]) rfl rfl rfl (kc.h 182 rfl)) rfl (Iy b4 Ah qh h2 tn v y3 hy3) ?_;rintro _ _ ⟨rfl,rfl⟩;refine Jz 4 ?_;refine Ee rfl ?_ ?_<;>intro Hr;refine Jz 12 ?_;refine Ei (.inl rfl) results133 rfl rfl ?_;have hm2:max (h.getD i 0) 0=m:=by rw[Bg hy,hm]
 have hJ:Bo h2 x v=none:=by rw[Bo,aOn (by assumption),htn2,Bg hy3,aNy (by simpa using Hr)]
 rw[Ck (by rw[hI,Bt hx,show Br h top i x=none from(by unfold Br;simp only[hm2,←hh1,←hv2];rw[aNy hnf,hN];simp[hJ])];rfl)];refine Jz 8 ?_;have hm2:max (h.getD i 0) 0=m:=by rw[Bg hy,hm]
 have hJ:Bo h2 x v=some (h2.set tn v):=by rw[Bo,aOn (by assumption),htn2,Bg hy3,aOn (by simpa using Hr)]
 have hS:Br h top i x=some ((h2.set tn v),top'):=by
  unfold Br;simp only[hm2,←hh1,←hv2];rw[aNy hnf,hN];show((Bo h2 x v).map fun h3=>(h3,max (max top m) v))=_;rw[hJ,htop'];rfl
 refine Eg [0,0,2,2] rfl (Jas [box b4 [.slice Ah (h2.set tn v).length qh] 57,rows Km 3 1 Ah qh (h2.set tn v),ros Ins.cells A l,Gz] (by first|rfl|rw[aNw]<;>rfl) (Dc ⟨⟨(h2.set tn v),top',i+1,rfl,rfl,rfl,om,(by rw[aNw];omega),(Gs (fun y0 h0=>by have:=hB2 y0 h0;omega) om),(by rw[hI,Bt hx,hS];rfl),om⟩,sb⟩));refine Jz 17 ?_;have hm2:max (h.getD i 0) 0=m:=by rw[Bg hy,hm]
 have hJ:Bo h2 x v=some h2:=by rw[Bo,aNy (by simp[g117])]
 have hS:Br h top i x=some (h2,top'):=by
  unfold Br;simp only[hm2,←hh1,←hv2];rw[aNy hnf,hN];show((Bo h2 x v).map fun h3=>(h3,max (max top m) v))=_;rw[hJ,htop'];rfl
 refine Eg [0,0,2,2] rfl (Jas [box b4 [.slice Ah h2.length qh] 57,rows Km 3 1 Ah qh h2,ros Ins.cells A l,Gz] (by first|rfl|rw[aNw]<;>rfl) (Dc ⟨⟨h2,top',i+1,rfl,rfl,rfl,om,om,hB2,(by rw[hI,Bt hx,hS];rfl),om⟩,sb⟩));refine Jz 13 ?_;have hnf:¬(m<Gm x∨(((x.op:Nat):Int)=34∧m≠0)):=om;have hN:Fp h1 i x v=some h1:=by rw[Fp,aNy om]
 have hB2:∀y0∈h1,(-1:Int)≤y0∧y0≤((i+1:Nat):Int):=fun y0 h0=>by have:=hB1 y0 h0;omega
 refine Jz 2 ?_;refine Jvf (Lv x) rfl (jP _) ?_;refine Jz 8 ?_;refine dx ?_;obtain⟨tn,htn⟩:∃tn:Nat,(tgt x).getD 0=((tn:Nat):Int):=⟨((tgt x).getD 0).toNat,by omega⟩
 rw[htn];obtain⟨y3,hy3⟩:=ai h1 tn om;have htn2:((tgt x).getD 0).toNat=tn:=om;refine Jz 2 ?_;refine JgB ?_ ?_<;>intro g117;refine Jz 3 ?_;refine Jcl [2,2] rfl rfl rfl (di (first:=[]) (captured:=[pv b4]) rfl rfl rfl (kc.h 182 rfl)) rfl (Iy b4 Ah qh h1 tn v y3 hy3) ?_;rintro _ _ ⟨rfl,rfl⟩;refine Jz 4 ?_;refine Ee rfl ?_ ?_<;>intro Hr;refine Jz 12 ?_;refine Ei (.inl rfl) results133 rfl rfl ?_;have hm2:max (h.getD i 0) 0=m:=by rw[Bg hy,hm]
 have hJ:Bo h1 x v=none:=by rw[Bo,aOn (by assumption),htn2,Bg hy3,aNy (by simpa using Hr)]
 rw[Ck (by rw[hI,Bt hx,show Br h top i x=none from(by unfold Br;simp only[hm2,←hh1,←hv2];rw[aNy hnf,hN];simp[hJ])];rfl)];refine Jz 8 ?_;have hm2:max (h.getD i 0) 0=m:=by rw[Bg hy,hm]
 have hJ:Bo h1 x v=some (h1.set tn v):=by rw[Bo,aOn (by assumption),htn2,Bg hy3,aOn (by simpa using Hr)]
 have hS:Br h top i x=some ((h1.set tn v),top'):=by
  unfold Br;simp only[hm2,←hh1,←hv2];rw[aNy hnf,hN];show((Bo h1 x v).map fun h3=>(h3,max (max top m) v))=_;rw[hJ,htop'];rfl
 refine Eg [0,0,2,2] rfl (Jas [box b4 [.slice Ah (h1.set tn v).length qh] 57,rows Km 3 1 Ah qh (h1.set tn v),ros Ins.cells A l,Gz] (by first|rfl|rw[aNw]<;>rfl) (Dc ⟨⟨(h1.set tn v),top',i+1,rfl,rfl,rfl,om,(by rw[aNw];omega),(Gs (fun y0 h0=>by have:=hB2 y0 h0;omega) om),(by rw[hI,Bt hx,hS];rfl),om⟩,sb⟩));refine Jz 17 ?_;have hm2:max (h.getD i 0) 0=m:=by rw[Bg hy,hm]
 have hJ:Bo h1 x v=some h1:=by rw[Bo,aNy (by simp[g117])]
 have hS:Br h top i x=some (h1,top'):=by
  unfold Br;simp only[hm2,←hh1,←hv2];rw[aNy hnf,hN];show((Bo h1 x v).map fun h3=>(h3,max (max top m) v))=_;rw[hJ,htop'];rfl
 refine Eg [2,2,2,2] rfl (Jas [box b4 [.slice Ah h1.length qh] 57,rows Km 3 1 Ah qh h1,ros Ins.cells A l,Gz] (by first|rfl|rw[aNw]<;>rfl) (Dc ⟨⟨h1,top',i+1,rfl,rfl,rfl,om,om,hB2,(by rw[hI,Bt hx,hS];rfl),om⟩,sb⟩));refine Jz 18 ?_;have hnf:¬(m<Gm x∨(((x.op:Nat):Int)=34∧m≠0)):=om;have hN:Fp h1 i x v=some h1:=by rw[Fp,aNy om]
 have hB2:∀y0∈h1,(-1:Int)≤y0∧y0≤((i+1:Nat):Int):=fun y0 h0=>by have:=hB1 y0 h0;omega
 refine Jz 2 ?_;refine Jvf (Lv x) rfl (jP _) ?_;refine Jz 8 ?_;refine dx ?_;obtain⟨tn,htn⟩:∃tn:Nat,(tgt x).getD 0=((tn:Nat):Int):=⟨((tgt x).getD 0).toNat,by omega⟩
 rw[htn];obtain⟨y3,hy3⟩:=ai h1 tn om;have htn2:((tgt x).getD 0).toNat=tn:=om;refine Jz 2 ?_;refine JgB ?_ ?_<;>intro g117;refine Jz 3 ?_;refine Jcl [2,2] rfl rfl rfl (di (first:=[]) (captured:=[pv b4]) rfl rfl rfl (kc.h 182 rfl)) rfl (Iy b4 Ah qh h1 tn v y3 hy3) ?_;rintro _ _ ⟨rfl,rfl⟩;refine Jz 4 ?_;refine Ee rfl ?_ ?_<;>intro Hr;refine Jz 12 ?_;refine Ei (.inl rfl) results133 rfl rfl ?_;have hm2:max (h.getD i 0) 0=m:=by rw[Bg hy,hm]
 have hJ:Bo h1 x v=none:=by rw[Bo,aOn (by assumption),htn2,Bg hy3,aNy (by simpa using Hr)]
 rw[Ck (by rw[hI,Bt hx,show Br h top i x=none from(by unfold Br;simp only[hm2,←hh1,←hv2];rw[aNy hnf,hN];simp[hJ])];rfl)];refine Jz 8 ?_;have hm2:max (h.getD i 0) 0=m:=by rw[Bg hy,hm]
 have hJ:Bo h1 x v=some (h1.set tn v):=by rw[Bo,aOn (by assumption),htn2,Bg hy3,aOn (by simpa using Hr)]
 have hS:Br h top i x=some ((h1.set tn v),top'):=by
  unfold Br;simp only[hm2,←hh1,←hv2];rw[aNy hnf,hN];show((Bo h1 x v).map fun h3=>(h3,max (max top m) v))=_;rw[hJ,htop'];rfl
 refine Eg [0,0,2,2] rfl (Jas [box b4 [.slice Ah (h1.set tn v).length qh] 57,rows Km 3 1 Ah qh (h1.set tn v),ros Ins.cells A l,Gz] (by first|rfl|rw[aNw]<;>rfl) (Dc ⟨⟨(h1.set tn v),top',i+1,rfl,rfl,rfl,om,(by rw[aNw];omega),(Gs (fun y0 h0=>by have:=hB2 y0 h0;omega) om),(by rw[hI,Bt hx,hS];rfl),om⟩,sb⟩));refine Jz 17 ?_;have hm2:max (h.getD i 0) 0=m:=by rw[Bg hy,hm]
 have hJ:Bo h1 x v=some h1:=by rw[Bo,aNy (by simp[g117])]
 have hS:Br h top i x=some (h1,top'):=by
  unfold Br;simp only[hm2,←hh1,←hv2];rw[aNy hnf,hN];show((Bo h1 x v).map fun h3=>(h3,max (max top m) v))=_;rw[hJ,htop'];rfl
 refine Eg [2,2,2,2] rfl (Jas [box b4 [.slice Ah h1.length qh] 57,rows Km 3 1 Ah qh h1,ros Ins.cells A l,Gz] (by first|rfl|rw[aNw]<;>rfl) (Dc ⟨⟨h1,top',i+1,rfl,rfl,rfl,om,om,hB2,(by rw[hI,Bt hx,hS];rfl),om⟩,sb⟩));refine Jz 13 ?_;refine Jfw [] [1,4,7,100,102,103,105,6,108,9,10] (jP _) ?_;refine Jz 7 ?_;refine df rfl (Fh rfl rfl rfl om) ?_;refine Jz 1 ?_;refine df rfl (Io rfl rfl rfl om) ?_;refine Jz 4 ?_;refine dx ?_;obtain⟨v,hv⟩:∃z0,z0=((m-(Gm x))+((rowOf x.op).pushes)):=⟨_,rfl⟩
 rw[←hv];have hv2:v=Zz m x:=by rw[hv,Zz]
 have hvb:0≤v∧v≤i+1:=om;refine Jz 7 ?_;refine Jr (Um rfl rfl rfl rfl) ?_;refine Jz 2 ?_;refine Ju [(0, .slice A l.length q),(2,iv (max (max top m) v)),(4,pv b4),(6, .func (.func 182) #[] #[pv b4]),(27, .slice A l.length q),(28,nv l.length),(29,nv i),(30, .bool (decide (((i:Nat):Int)<((l.length:Nat):Int)))),(8,pv b8),(7,nv i),(9,pv b9),(52, .bool (decide (((x.op:Nat):Int)=31))),(77, .bool false),(10,iv v)] sb (Jz 3 ?_);obtain⟨y2,hy2⟩:∃z0,h1[i+1]?=some z0:=⟨h1[i+1]'om,gge _⟩
 refine dx ?_;obtain⟨top',htop'⟩:∃z0,z0=(max (max top m) v):=⟨_,rfl⟩
 rw[←htop'];refine Jz 4 ?_;refine JgP ?_ ?_<;>intro g98;refine Jz 4 ?_;refine JgP ?_ ?_<;>intro g103;refine Jz 4 ?_;refine Jcl [2,2] rfl rfl rfl (di (first:=[]) (captured:=[pv b4]) rfl rfl rfl (kc.h 182 rfl)) rfl (Iy b4 Ah qh h1 (i+1) v y2 hy2) ?_;rintro _ _ ⟨rfl,rfl⟩;refine Jz 4 ?_;refine Ee rfl ?_ ?_<;>intro c110;refine Jz 13 ?_;refine Ei (.inl rfl) results133 rfl rfl ?_;have hm2:max (h.getD i 0) 0=m:=by rw[Bg hy,hm]
 have hnf:¬(m<Gm x∨(((x.op:Nat):Int)=34∧m≠0)):=om;have hN:Fp h1 i x v=none:=by rw[Fp,aOn om,Bg hy2,aNy (by simpa using c110)]
 rw[Ck (by rw[hI,Bt hx,show Br h top i x=none from(by unfold Br;simp only[hm2,←hh1,←hv2];rw[aNy hnf,hN];rfl)];rfl)];refine Jz 3 ?_;have hnf:¬(m<Gm x∨(((x.op:Nat):Int)=34∧m≠0)):=om;refine dx ?_;obtain⟨h2,hh2⟩:∃z0,z0=(h1.set (i+1) v):=⟨_,rfl⟩
 rw[←hh2];have hlh2:h2.length=h1.length:=by rw[hh2];rw[aNw]
 rw[←hlh2];have hN:Fp h1 i x v=some h2:=by rw[Fp,aOn om,Bg hy2,aOn (by simpa using c110),hh2]
 have hB2:∀y0∈h2,(-1:Int)≤y0∧y0≤((i+1:Nat):Int):=by rw[hh2];exact Gs (fun y0 h0=>by have:=hB1 y0 h0;omega) om
 refine Jz 2 ?_;refine Jvf (Lv x) rfl (jP _) ?_;refine Jz 8 ?_;refine dx ?_;obtain⟨tn,htn⟩:∃tn:Nat,(tgt x).getD 0=((tn:Nat):Int):=⟨((tgt x).getD 0).toNat,by omega⟩
 rw[htn];obtain⟨y3,hy3⟩:=ai h2 tn om;have htn2:((tgt x).getD 0).toNat=tn:=om;refine Jz 2 ?_;refine JgB ?_ ?_<;>intro g117;refine Jz 3 ?_;refine Jcl [0,0] rfl rfl rfl (di (first:=[]) (captured:=[pv b4]) rfl rfl rfl (kc.h 182 rfl)) rfl (Iy b4 Ah qh h2 tn v y3 hy3) ?_;rintro _ _ ⟨rfl,rfl⟩;refine Jz 4 ?_;refine Ee rfl ?_ ?_<;>intro Hr;refine Jz 12 ?_;refine Ei (.inl rfl) results133 rfl rfl ?_;have hm2:max (h.getD i 0) 0=m:=by rw[Bg hy,hm]
 have hJ:Bo h2 x v=none:=by rw[Bo,aOn (by assumption),htn2,Bg hy3,aNy (by simpa using Hr)]
 rw[Ck (by rw[hI,Bt hx,show Br h top i x=none from(by unfold Br;simp only[hm2,←hh1,←hv2];rw[aNy hnf,hN];simp[hJ])];rfl)];refine Jz 8 ?_;have hm2:max (h.getD i 0) 0=m:=by rw[Bg hy,hm]
 have hJ:Bo h2 x v=some (h2.set tn v):=by rw[Bo,aOn (by assumption),htn2,Bg hy3,aOn (by simpa using Hr)]
 have hS:Br h top i x=some ((h2.set tn v),top'):=by
  unfold Br;simp only[hm2,←hh1,←hv2];rw[aNy hnf,hN];show((Bo h2 x v).map fun h3=>(h3,max (max top m) v))=_;rw[hJ,htop'];rfl
 refine Eg [0,0,2,2] rfl (Jas [box b4 [.slice Ah (h2.set tn v).length qh] 57,rows Km 3 1 Ah qh (h2.set tn v),ros Ins.cells A l,Gz] (by first|rfl|rw[aNw]<;>rfl) (Dc ⟨⟨(h2.set tn v),top',i+1,rfl,rfl,rfl,om,(by rw[aNw];omega),(Gs (fun y0 h0=>by have:=hB2 y0 h0;omega) om),(by rw[hI,Bt hx,hS];rfl),om⟩,sb⟩));refine Jz 17 ?_;have hm2:max (h.getD i 0) 0=m:=by rw[Bg hy,hm]
 have hJ:Bo h2 x v=some h2:=by rw[Bo,aNy (by simp[g117])]
 have hS:Br h top i x=some (h2,top'):=by
  unfold Br;simp only[hm2,←hh1,←hv2];rw[aNy hnf,hN];show((Bo h2 x v).map fun h3=>(h3,max (max top m) v))=_;rw[hJ,htop'];rfl
 refine Eg [0,0,2,2] rfl (Jas [box b4 [.slice Ah h2.length qh] 57,rows Km 3 1 Ah qh h2,ros Ins.cells A l,Gz] (by first|rfl|rw[aNw]<;>rfl) (Dc ⟨⟨h2,top',i+1,rfl,rfl,rfl,om,om,hB2,(by rw[hI,Bt hx,hS];rfl),om⟩,sb⟩));refine Jz 13 ?_;have hnf:¬(m<Gm x∨(((x.op:Nat):Int)=34∧m≠0)):=om;have hN:Fp h1 i x v=some h1:=by rw[Fp,aNy om]
 have hB2:∀y0∈h1,(-1:Int)≤y0∧y0≤((i+1:Nat):Int):=fun y0 h0=>by have:=hB1 y0 h0;omega
 refine Jz 2 ?_;refine Jvf (Lv x) rfl (jP _) ?_;refine Jz 8 ?_;refine dx ?_;obtain⟨tn,htn⟩:∃tn:Nat,(tgt x).getD 0=((tn:Nat):Int):=⟨((tgt x).getD 0).toNat,by omega⟩
 rw[htn];obtain⟨y3,hy3⟩:=ai h1 tn om;have htn2:((tgt x).getD 0).toNat=tn:=om;refine Jz 2 ?_;refine JgB ?_ ?_<;>intro g117;refine Jz 3 ?_;refine Jcl [2,2] rfl rfl rfl (di (first:=[]) (captured:=[pv b4]) rfl rfl rfl (kc.h 182 rfl)) rfl (Iy b4 Ah qh h1 tn v y3 hy3) ?_;rintro _ _ ⟨rfl,rfl⟩;refine Jz 4 ?_;refine Ee rfl ?_ ?_<;>intro Hr;refine Jz 12 ?_;refine Ei (.inl rfl) results133 rfl rfl ?_;have hm2:max (h.getD i 0) 0=m:=by rw[Bg hy,hm]
 have hJ:Bo h1 x v=none:=by rw[Bo,aOn (by assumption),htn2,Bg hy3,aNy (by simpa using Hr)]
 rw[Ck (by rw[hI,Bt hx,show Br h top i x=none from(by unfold Br;simp only[hm2,←hh1,←hv2];rw[aNy hnf,hN];simp[hJ])];rfl)];refine Jz 8 ?_;have hm2:max (h.getD i 0) 0=m:=by rw[Bg hy,hm]
 have hJ:Bo h1 x v=some (h1.set tn v):=by rw[Bo,aOn (by assumption),htn2,Bg hy3,aOn (by simpa using Hr)]
 have hS:Br h top i x=some ((h1.set tn v),top'):=by
  unfold Br;simp only[hm2,←hh1,←hv2];rw[aNy hnf,hN];show((Bo h1 x v).map fun h3=>(h3,max (max top m) v))=_;rw[hJ,htop'];rfl
 refine Eg [0,0,2,2] rfl (Jas [box b4 [.slice Ah (h1.set tn v).length qh] 57,rows Km 3 1 Ah qh (h1.set tn v),ros Ins.cells A l,Gz] (by first|rfl|rw[aNw]<;>rfl) (Dc ⟨⟨(h1.set tn v),top',i+1,rfl,rfl,rfl,om,(by rw[aNw];omega),(Gs (fun y0 h0=>by have:=hB2 y0 h0;omega) om),(by rw[hI,Bt hx,hS];rfl),om⟩,sb⟩));refine Jz 17 ?_;have hm2:max (h.getD i 0) 0=m:=by rw[Bg hy,hm]
 have hJ:Bo h1 x v=some h1:=by rw[Bo,aNy (by simp[g117])]
 have hS:Br h top i x=some (h1,top'):=by
  unfold Br;simp only[hm2,←hh1,←hv2];rw[aNy hnf,hN];show((Bo h1 x v).map fun h3=>(h3,max (max top m) v))=_;rw[hJ,htop'];rfl
 refine Eg [2,2,2,2] rfl (Jas [box b4 [.slice Ah h1.length qh] 57,rows Km 3 1 Ah qh h1,ros Ins.cells A l,Gz] (by first|rfl|rw[aNw]<;>rfl) (Dc ⟨⟨h1,top',i+1,rfl,rfl,rfl,om,om,hB2,(by rw[hI,Bt hx,hS];rfl),om⟩,sb⟩));refine Jz 18 ?_;have hnf:¬(m<Gm x∨(((x.op:Nat):Int)=34∧m≠0)):=om;have hN:Fp h1 i x v=some h1:=by rw[Fp,aNy om]
 have hB2:∀y0∈h1,(-1:Int)≤y0∧y0≤((i+1:Nat):Int):=fun y0 h0=>by have:=hB1 y0 h0;omega
 refine Jz 2 ?_;refine Jvf (Lv x) rfl (jP _) ?_;refine Jz 8 ?_;refine dx ?_;obtain⟨tn,htn⟩:∃tn:Nat,(tgt x).getD 0=((tn:Nat):Int):=⟨((tgt x).getD 0).toNat,by omega⟩
 rw[htn];obtain⟨y3,hy3⟩:=ai h1 tn om;have htn2:((tgt x).getD 0).toNat=tn:=om;refine Jz 2 ?_;refine JgB ?_ ?_<;>intro g117;refine Jz 3 ?_;refine Jcl [2,2] rfl rfl rfl (di (first:=[]) (captured:=[pv b4]) rfl rfl rfl (kc.h 182 rfl)) rfl (Iy b4 Ah qh h1 tn v y3 hy3) ?_;rintro _ _ ⟨rfl,rfl⟩;refine Jz 4 ?_;refine Ee rfl ?_ ?_<;>intro Hr;refine Jz 12 ?_;refine Ei (.inl rfl) results133 rfl rfl ?_;have hm2:max (h.getD i 0) 0=m:=by rw[Bg hy,hm]
 have hJ:Bo h1 x v=none:=by rw[Bo,aOn (by assumption),htn2,Bg hy3,aNy (by simpa using Hr)]
 rw[Ck (by rw[hI,Bt hx,show Br h top i x=none from(by unfold Br;simp only[hm2,←hh1,←hv2];rw[aNy hnf,hN];simp[hJ])];rfl)];refine Jz 8 ?_;have hm2:max (h.getD i 0) 0=m:=by rw[Bg hy,hm]
 have hJ:Bo h1 x v=some (h1.set tn v):=by rw[Bo,aOn (by assumption),htn2,Bg hy3,aOn (by simpa using Hr)]
 have hS:Br h top i x=some ((h1.set tn v),top'):=by
  unfold Br;simp only[hm2,←hh1,←hv2];rw[aNy hnf,hN];show((Bo h1 x v).map fun h3=>(h3,max (max top m) v))=_;rw[hJ,htop'];rfl
 refine Eg [0,0,2,2] rfl (Jas [box b4 [.slice Ah (h1.set tn v).length qh] 57,rows Km 3 1 Ah qh (h1.set tn v),ros Ins.cells A l,Gz] (by first|rfl|rw[aNw]<;>rfl) (Dc ⟨⟨(h1.set tn v),top',i+1,rfl,rfl,rfl,om,(by rw[aNw];omega),(Gs (fun y0 h0=>by have:=hB2 y0 h0;omega) om),(by rw[hI,Bt hx,hS];rfl),om⟩,sb⟩));refine Jz 17 ?_;have hm2:max (h.getD i 0) 0=m:=by rw[Bg hy,hm]
 have hJ:Bo h1 x v=some h1:=by rw[Bo,aNy (by simp[g117])]
 have hS:Br h top i x=some (h1,top'):=by
  unfold Br;simp only[hm2,←hh1,←hv2];rw[aNy hnf,hN];show((Bo h1 x v).map fun h3=>(h3,max (max top m) v))=_;rw[hJ,htop'];rfl
 refine Eg [2,2,2,2] rfl (Jas [box b4 [.slice Ah h1.length qh] 57,rows Km 3 1 Ah qh h1,ros Ins.cells A l,Gz] (by first|rfl|rw[aNw]<;>rfl) (Dc ⟨⟨h1,top',i+1,rfl,rfl,rfl,om,om,hB2,(by rw[hI,Bt hx,hS];rfl),om⟩,sb⟩));refine Jz 4 ?_;have hpn:(rowOf x.op).pops=Gm x:=by unfold Gm;rw[aNy om]
 refine dx ?_;dsimp only[Rw.cells];rw[hpn];have hpb2:0≤Gm x∧Gm x≤6:=om;refine Jfw [] [1,4,100,102,103,105,6,7,8,109,10,11,13,112,114,115,16,17,18] (jP _) ?_;refine Jz 7 ?_;refine Wq rfl rfl rfl rfl (dn rfl rfl) (fun g66=>?_) (fun g66=>?_);refine Jz 27 ?_;refine Ei (.inl rfl) results133 rfl rfl ?_;have hm2:max (h.getD i 0) 0=m:=by rw[Bg hy,hm]
 rw[Ck (by rw[hI,Bt hx,show Br h top i x=none from(by unfold Br;simp only[hm2];rw[aOn om])];rfl)];refine Jz 3 ?_;refine Wq rfl rfl rfl rfl (dn rfl rfl) (fun g70=>?_) (fun g70=>?_);refine Jz 9 ?_;refine aa rfl ?_ ?_<;>intro c77;refine Jz 13 ?_;refine Ei (.inl rfl) results133 rfl rfl ?_;have hm2:max (h.getD i 0) 0=m:=by rw[Bg hy,hm]
 rw[Ck (by rw[hI,Bt hx,show Br h top i x=none from(by unfold Br;simp only[hm2];rw[aOn om])];rfl)];refine Jz 3 ?_;refine Jfw [] [1,4,7,100,102,103,105,6,108,9,10] (jP _) ?_;refine Jz 7 ?_;refine df rfl (Fh rfl rfl rfl om) ?_;refine Jz 1 ?_;refine df rfl (Io rfl rfl rfl om) ?_;refine Jz 4 ?_;refine dx ?_;obtain⟨v,hv⟩:∃z0,z0=((m-(Gm x))+((rowOf x.op).pushes)):=⟨_,rfl⟩
 rw[←hv];have hv2:v=Zz m x:=by rw[hv,Zz]
 have hvb:0≤v∧v≤i+1:=om;refine Jz 7 ?_;refine Jr (Um rfl rfl rfl rfl) ?_;refine Jz 5 ?_;obtain⟨y2,hy2⟩:∃z0,h1[i+1]?=some z0:=⟨h1[i+1]'om,gge _⟩
 refine dx ?_;obtain⟨top',htop'⟩:∃z0,z0=(max (max top m) v):=⟨_,rfl⟩
 rw[←htop'];refine Jz 4 ?_;refine JgP ?_ ?_<;>intro g98;refine Jz 4 ?_;refine JgP ?_ ?_<;>intro g103;refine Jz 4 ?_;refine Jcl [2,2] rfl rfl rfl (di (first:=[]) (captured:=[pv b4]) rfl rfl rfl (kc.h 182 rfl)) rfl (Iy b4 Ah qh h1 (i+1) v y2 hy2) ?_;rintro _ _ ⟨rfl,rfl⟩;refine Jz 3 ?_;refine Ju [(0, .slice A l.length q),(2,iv top'),(4,pv b4),(6, .func (.func 182) #[] #[pv b4]),(27, .slice A l.length q),(28,nv l.length),(29,nv i),(30, .bool (decide (((i:Nat):Int)<((l.length:Nat):Int)))),(8,pv b8),(7,nv i),(9,pv b9),(52, .bool (decide (((x.op:Nat):Int)=31))),(77, .bool (decide (m≠0))),(10,iv v),(110, .bool (!(decide (okH y2 v))))] sb (Jt (Ee rfl (fun c110=>?_) (fun c110=>?_)));refine Jz 13 ?_;refine Ei (.inl rfl) results133 rfl rfl ?_;have hm2:max (h.getD i 0) 0=m:=by rw[Bg hy,hm]
 have hnf:¬(m<Gm x∨(((x.op:Nat):Int)=34∧m≠0)):=om;have hN:Fp h1 i x v=none:=by rw[Fp,aOn om,Bg hy2,aNy (by simpa using c110)]
 rw[Ck (by rw[hI,Bt hx,show Br h top i x=none from(by unfold Br;simp only[hm2,←hh1,←hv2];rw[aNy hnf,hN];rfl)];rfl)];refine Jz 3 ?_;have hnf:¬(m<Gm x∨(((x.op:Nat):Int)=34∧m≠0)):=om;refine dx ?_;obtain⟨h2,hh2⟩:∃z0,z0=(h1.set (i+1) v):=⟨_,rfl⟩
 rw[←hh2];have hlh2:h2.length=h1.length:=by rw[hh2];rw[aNw]
 rw[←hlh2];have hN:Fp h1 i x v=some h2:=by rw[Fp,aOn om,Bg hy2,aOn (by simpa using c110),hh2]
 have hB2:∀y0∈h2,(-1:Int)≤y0∧y0≤((i+1:Nat):Int):=by rw[hh2];exact Gs (fun y0 h0=>by have:=hB1 y0 h0;omega) om
 refine Jz 2 ?_;refine Jvf (Lv x) rfl (jP _) ?_;refine Jz 8 ?_;refine dx ?_;obtain⟨tn,htn⟩:∃tn:Nat,(tgt x).getD 0=((tn:Nat):Int):=⟨((tgt x).getD 0).toNat,by omega⟩
 rw[htn];obtain⟨y3,hy3⟩:=ai h2 tn om;have htn2:((tgt x).getD 0).toNat=tn:=om;refine Jz 2 ?_;refine JgB ?_ ?_<;>intro g117;refine Jz 3 ?_;refine Jcl [0,0] rfl rfl rfl (di (first:=[]) (captured:=[pv b4]) rfl rfl rfl (kc.h 182 rfl)) rfl (Iy b4 Ah qh h2 tn v y3 hy3) ?_;rintro _ _ ⟨rfl,rfl⟩;refine Jz 4 ?_;refine Ee rfl ?_ ?_<;>intro Hr;refine Jz 12 ?_;refine Ei (.inl rfl) results133 rfl rfl ?_;have hm2:max (h.getD i 0) 0=m:=by rw[Bg hy,hm]
 have hJ:Bo h2 x v=none:=by rw[Bo,aOn (by assumption),htn2,Bg hy3,aNy (by simpa using Hr)]
 rw[Ck (by rw[hI,Bt hx,show Br h top i x=none from(by unfold Br;simp only[hm2,←hh1,←hv2];rw[aNy hnf,hN];simp[hJ])];rfl)];refine Jz 8 ?_;have hm2:max (h.getD i 0) 0=m:=by rw[Bg hy,hm]
 have hJ:Bo h2 x v=some (h2.set tn v):=by rw[Bo,aOn (by assumption),htn2,Bg hy3,aOn (by simpa using Hr)]
 have hS:Br h top i x=some ((h2.set tn v),top'):=by
  unfold Br;simp only[hm2,←hh1,←hv2];rw[aNy hnf,hN];show((Bo h2 x v).map fun h3=>(h3,max (max top m) v))=_;rw[hJ,htop'];rfl
 refine Eg [0,0,2,2] rfl (Jas [box b4 [.slice Ah (h2.set tn v).length qh] 57,rows Km 3 1 Ah qh (h2.set tn v),ros Ins.cells A l,Gz] (by first|rfl|rw[aNw]<;>rfl) (Dc ⟨⟨(h2.set tn v),top',i+1,rfl,rfl,rfl,om,(by rw[aNw];omega),(Gs (fun y0 h0=>by have:=hB2 y0 h0;omega) om),(by rw[hI,Bt hx,hS];rfl),om⟩,sb⟩));refine Jz 17 ?_;have hm2:max (h.getD i 0) 0=m:=by rw[Bg hy,hm]
 have hJ:Bo h2 x v=some h2:=by rw[Bo,aNy (by simp[g117])]
 have hS:Br h top i x=some (h2,top'):=by
  unfold Br;simp only[hm2,←hh1,←hv2];rw[aNy hnf,hN];show((Bo h2 x v).map fun h3=>(h3,max (max top m) v))=_;rw[hJ,htop'];rfl
 refine Eg [0,0,2,2] rfl (Jas [box b4 [.slice Ah h2.length qh] 57,rows Km 3 1 Ah qh h2,ros Ins.cells A l,Gz] (by first|rfl|rw[aNw]<;>rfl) (Dc ⟨⟨h2,top',i+1,rfl,rfl,rfl,om,om,hB2,(by rw[hI,Bt hx,hS];rfl),om⟩,sb⟩));refine Jz 8 ?_;refine Ju [(0, .slice A l.length q),(2,iv top'),(4,pv b4),(6, .func (.func 182) #[] #[pv b4]),(27, .slice A l.length q),(28,nv l.length),(29,nv i),(30, .bool (decide (((i:Nat):Int)<((l.length:Nat):Int)))),(8,pv b8),(7,nv i),(9,pv b9),(52, .bool (decide (((x.op:Nat):Int)=31))),(77, .bool (decide (m≠0))),(10,iv v),(110, .bool false)] sb (Jz 5 ?_);have hnf:¬(m<Gm x∨(((x.op:Nat):Int)=34∧m≠0)):=om;have hN:Fp h1 i x v=some h1:=by rw[Fp,aNy om]
 have hB2:∀y0∈h1,(-1:Int)≤y0∧y0≤((i+1:Nat):Int):=fun y0 h0=>by have:=hB1 y0 h0;omega
 refine Jz 2 ?_;refine Jvf (Lv x) rfl (jP _) ?_;refine Jz 8 ?_;refine dx ?_;obtain⟨tn,htn⟩:∃tn:Nat,(tgt x).getD 0=((tn:Nat):Int):=⟨((tgt x).getD 0).toNat,by omega⟩
 rw[htn];obtain⟨y3,hy3⟩:=ai h1 tn om;have htn2:((tgt x).getD 0).toNat=tn:=om;refine Jz 2 ?_;refine JgB ?_ ?_<;>intro g117;refine Jz 3 ?_;refine Jcl [2,2] rfl rfl rfl (di (first:=[]) (captured:=[pv b4]) rfl rfl rfl (kc.h 182 rfl)) rfl (Iy b4 Ah qh h1 tn v y3 hy3) ?_;rintro _ _ ⟨rfl,rfl⟩;refine Jz 4 ?_;refine Ee rfl ?_ ?_<;>intro Hr;refine Jz 12 ?_;refine Ei (.inl rfl) results133 rfl rfl ?_;have hm2:max (h.getD i 0) 0=m:=by rw[Bg hy,hm]
 have hJ:Bo h1 x v=none:=by rw[Bo,aOn (by assumption),htn2,Bg hy3,aNy (by simpa using Hr)]
 rw[Ck (by rw[hI,Bt hx,show Br h top i x=none from(by unfold Br;simp only[hm2,←hh1,←hv2];rw[aNy hnf,hN];simp[hJ])];rfl)];refine Jz 8 ?_;have hm2:max (h.getD i 0) 0=m:=by rw[Bg hy,hm]
 have hJ:Bo h1 x v=some (h1.set tn v):=by rw[Bo,aOn (by assumption),htn2,Bg hy3,aOn (by simpa using Hr)]
 have hS:Br h top i x=some ((h1.set tn v),top'):=by
  unfold Br;simp only[hm2,←hh1,←hv2];rw[aNy hnf,hN];show((Bo h1 x v).map fun h3=>(h3,max (max top m) v))=_;rw[hJ,htop'];rfl
 refine Eg [0,0,2,2] rfl (Jas [box b4 [.slice Ah (h1.set tn v).length qh] 57,rows Km 3 1 Ah qh (h1.set tn v),ros Ins.cells A l,Gz] (by first|rfl|rw[aNw]<;>rfl) (Dc ⟨⟨(h1.set tn v),top',i+1,rfl,rfl,rfl,om,(by rw[aNw];omega),(Gs (fun y0 h0=>by have:=hB2 y0 h0;omega) om),(by rw[hI,Bt hx,hS];rfl),om⟩,sb⟩));refine Jz 17 ?_;have hm2:max (h.getD i 0) 0=m:=by rw[Bg hy,hm]
 have hJ:Bo h1 x v=some h1:=by rw[Bo,aNy (by simp[g117])]
 have hS:Br h top i x=some (h1,top'):=by
  unfold Br;simp only[hm2,←hh1,←hv2];rw[aNy hnf,hN];show((Bo h1 x v).map fun h3=>(h3,max (max top m) v))=_;rw[hJ,htop'];rfl
 refine Eg [2,2,2,2] rfl (Jas [box b4 [.slice Ah h1.length qh] 57,rows Km 3 1 Ah qh h1,ros Ins.cells A l,Gz] (by first|rfl|rw[aNw]<;>rfl) (Dc ⟨⟨h1,top',i+1,rfl,rfl,rfl,om,om,hB2,(by rw[hI,Bt hx,hS];rfl),om⟩,sb⟩));refine Jz 13 ?_;refine Ju [(0, .slice A l.length q),(2,iv top'),(4,pv b4),(6, .func (.func 182) #[] #[pv b4]),(27, .slice A l.length q),(28,nv l.length),(29,nv i),(30, .bool (decide (((i:Nat):Int)<((l.length:Nat):Int)))),(8,pv b8),(7,nv i),(9,pv b9),(52, .bool (decide (((x.op:Nat):Int)=31))),(77, .bool (decide (m≠0))),(10,iv v),(110, .bool false)] sb (Jz 5 ?_);have hnf:¬(m<Gm x∨(((x.op:Nat):Int)=34∧m≠0)):=om;have hN:Fp h1 i x v=some h1:=by rw[Fp,aNy om]
 have hB2:∀y0∈h1,(-1:Int)≤y0∧y0≤((i+1:Nat):Int):=fun y0 h0=>by have:=hB1 y0 h0;omega
 refine Jz 2 ?_;refine Jvf (Lv x) rfl (jP _) ?_;refine Jz 8 ?_;refine dx ?_;obtain⟨tn,htn⟩:∃tn:Nat,(tgt x).getD 0=((tn:Nat):Int):=⟨((tgt x).getD 0).toNat,by omega⟩
 rw[htn];obtain⟨y3,hy3⟩:=ai h1 tn om;have htn2:((tgt x).getD 0).toNat=tn:=om;refine Jz 2 ?_;refine JgB ?_ ?_<;>intro g117;refine Jz 3 ?_;refine Jcl [2,2] rfl rfl rfl (di (first:=[]) (captured:=[pv b4]) rfl rfl rfl (kc.h 182 rfl)) rfl (Iy b4 Ah qh h1 tn v y3 hy3) ?_;rintro _ _ ⟨rfl,rfl⟩;refine Jz 4 ?_;refine Ee rfl ?_ ?_<;>intro Hr;refine Jz 12 ?_;refine Ei (.inl rfl) results133 rfl rfl ?_;have hm2:max (h.getD i 0) 0=m:=by rw[Bg hy,hm]
 have hJ:Bo h1 x v=none:=by rw[Bo,aOn (by assumption),htn2,Bg hy3,aNy (by simpa using Hr)]
 rw[Ck (by rw[hI,Bt hx,show Br h top i x=none from(by unfold Br;simp only[hm2,←hh1,←hv2];rw[aNy hnf,hN];simp[hJ])];rfl)];refine Jz 8 ?_;have hm2:max (h.getD i 0) 0=m:=by rw[Bg hy,hm]
 have hJ:Bo h1 x v=some (h1.set tn v):=by rw[Bo,aOn (by assumption),htn2,Bg hy3,aOn (by simpa using Hr)]
 have hS:Br h top i x=some ((h1.set tn v),top'):=by
  unfold Br;simp only[hm2,←hh1,←hv2];rw[aNy hnf,hN];show((Bo h1 x v).map fun h3=>(h3,max (max top m) v))=_;rw[hJ,htop'];rfl
 refine Eg [0,0,2,2] rfl (Jas [box b4 [.slice Ah (h1.set tn v).length qh] 57,rows Km 3 1 Ah qh (h1.set tn v),ros Ins.cells A l,Gz] (by first|rfl|rw[aNw]<;>rfl) (Dc ⟨⟨(h1.set tn v),top',i+1,rfl,rfl,rfl,om,(by rw[aNw];omega),(Gs (fun y0 h0=>by have:=hB2 y0 h0;omega) om),(by rw[hI,Bt hx,hS];rfl),om⟩,sb⟩));refine Jz 17 ?_;have hm2:max (h.getD i 0) 0=m:=by rw[Bg hy,hm]
 have hJ:Bo h1 x v=some h1:=by rw[Bo,aNy (by simp[g117])]
 have hS:Br h top i x=some (h1,top'):=by
  unfold Br;simp only[hm2,←hh1,←hv2];rw[aNy hnf,hN];show((Bo h1 x v).map fun h3=>(h3,max (max top m) v))=_;rw[hJ,htop'];rfl
 refine Eg [2,2,2,2] rfl (Jas [box b4 [.slice Ah h1.length qh] 57,rows Km 3 1 Ah qh h1,ros Ins.cells A l,Gz] (by first|rfl|rw[aNw]<;>rfl) (Dc ⟨⟨h1,top',i+1,rfl,rfl,rfl,om,om,hB2,(by rw[hI,Bt hx,hS];rfl),om⟩,sb⟩));refine Jz 13 ?_;refine Jfw [] [1,4,7,100,102,103,105,6,108,9,10] (jP _) ?_;refine Jz 7 ?_;refine df rfl (Fh rfl rfl rfl om) ?_;refine Jz 1 ?_;refine df rfl (Io rfl rfl rfl om) ?_;refine Jz 4 ?_;refine dx ?_;obtain⟨v,hv⟩:∃z0,z0=((m-(Gm x))+((rowOf x.op).pushes)):=⟨_,rfl⟩
 rw[←hv];have hv2:v=Zz m x:=by rw[hv,Zz]
 have hvb:0≤v∧v≤i+1:=om;refine Jz 7 ?_;refine Jr (Um rfl rfl rfl rfl) ?_;refine Jz 5 ?_;obtain⟨y2,hy2⟩:∃z0,h1[i+1]?=some z0:=⟨h1[i+1]'om,gge _⟩
 refine dx ?_;obtain⟨top',htop'⟩:∃z0,z0=(max (max top m) v):=⟨_,rfl⟩
 rw[←htop'];refine Jz 4 ?_;refine JgP ?_ ?_<;>intro g98;refine Jz 4 ?_;refine JgP ?_ ?_<;>intro g103;refine Jz 4 ?_;refine Jcl [2,2] rfl rfl rfl (di (first:=[]) (captured:=[pv b4]) rfl rfl rfl (kc.h 182 rfl)) rfl (Iy b4 Ah qh h1 (i+1) v y2 hy2) ?_;rintro _ _ ⟨rfl,rfl⟩;refine Jz 3 ?_;refine Ju [(0, .slice A l.length q),(2,iv top'),(4,pv b4),(6, .func (.func 182) #[] #[pv b4]),(27, .slice A l.length q),(28,nv l.length),(29,nv i),(30, .bool (decide (((i:Nat):Int)<((l.length:Nat):Int)))),(8,pv b8),(7,nv i),(9,pv b9),(52, .bool (decide (((x.op:Nat):Int)=31))),(77, .bool false),(10,iv v),(110, .bool (!(decide (okH y2 v))))] sb (Jt (Ee rfl (fun c110=>?_) (fun c110=>?_)));refine Jz 13 ?_;refine Ei (.inl rfl) results133 rfl rfl ?_;have hm2:max (h.getD i 0) 0=m:=by rw[Bg hy,hm]
 have hnf:¬(m<Gm x∨(((x.op:Nat):Int)=34∧m≠0)):=om;have hN:Fp h1 i x v=none:=by rw[Fp,aOn om,Bg hy2,aNy (by simpa using c110)]
 rw[Ck (by rw[hI,Bt hx,show Br h top i x=none from(by unfold Br;simp only[hm2,←hh1,←hv2];rw[aNy hnf,hN];rfl)];rfl)];refine Jz 3 ?_;have hnf:¬(m<Gm x∨(((x.op:Nat):Int)=34∧m≠0)):=om;refine dx ?_;obtain⟨h2,hh2⟩:∃z0,z0=(h1.set (i+1) v):=⟨_,rfl⟩
 rw[←hh2];have hlh2:h2.length=h1.length:=by rw[hh2];rw[aNw]
 rw[←hlh2];have hN:Fp h1 i x v=some h2:=by rw[Fp,aOn om,Bg hy2,aOn (by simpa using c110),hh2]
 have hB2:∀y0∈h2,(-1:Int)≤y0∧y0≤((i+1:Nat):Int):=by rw[hh2];exact Gs (fun y0 h0=>by have:=hB1 y0 h0;omega) om
 refine Jz 2 ?_;refine Jvf (Lv x) rfl (jP _) ?_;refine Jz 8 ?_;refine dx ?_;obtain⟨tn,htn⟩:∃tn:Nat,(tgt x).getD 0=((tn:Nat):Int):=⟨((tgt x).getD 0).toNat,by omega⟩
 rw[htn];obtain⟨y3,hy3⟩:=ai h2 tn om;have htn2:((tgt x).getD 0).toNat=tn:=om;refine Jz 2 ?_;refine JgB ?_ ?_<;>intro g117;refine Jz 3 ?_;refine Jcl [0,0] rfl rfl rfl (di (first:=[]) (captured:=[pv b4]) rfl rfl rfl (kc.h 182 rfl)) rfl (Iy b4 Ah qh h2 tn v y3 hy3) ?_;rintro _ _ ⟨rfl,rfl⟩;refine Jz 4 ?_;refine Ee rfl ?_ ?_<;>intro Hr;refine Jz 12 ?_;refine Ei (.inl rfl) results133 rfl rfl ?_;have hm2:max (h.getD i 0) 0=m:=by rw[Bg hy,hm]
 have hJ:Bo h2 x v=none:=by rw[Bo,aOn (by assumption),htn2,Bg hy3,aNy (by simpa using Hr)]
 rw[Ck (by rw[hI,Bt hx,show Br h top i x=none from(by unfold Br;simp only[hm2,←hh1,←hv2];rw[aNy hnf,hN];simp[hJ])];rfl)];refine Jz 8 ?_;have hm2:max (h.getD i 0) 0=m:=by rw[Bg hy,hm]
 have hJ:Bo h2 x v=some (h2.set tn v):=by rw[Bo,aOn (by assumption),htn2,Bg hy3,aOn (by simpa using Hr)]
 have hS:Br h top i x=some ((h2.set tn v),top'):=by
  unfold Br;simp only[hm2,←hh1,←hv2];rw[aNy hnf,hN];show((Bo h2 x v).map fun h3=>(h3,max (max top m) v))=_;rw[hJ,htop'];rfl
 refine Eg [0,0,2,2] rfl (Jas [box b4 [.slice Ah (h2.set tn v).length qh] 57,rows Km 3 1 Ah qh (h2.set tn v),ros Ins.cells A l,Gz] (by first|rfl|rw[aNw]<;>rfl) (Dc ⟨⟨(h2.set tn v),top',i+1,rfl,rfl,rfl,om,(by rw[aNw];omega),(Gs (fun y0 h0=>by have:=hB2 y0 h0;omega) om),(by rw[hI,Bt hx,hS];rfl),om⟩,sb⟩));refine Jz 17 ?_;have hm2:max (h.getD i 0) 0=m:=by rw[Bg hy,hm]
 have hJ:Bo h2 x v=some h2:=by rw[Bo,aNy (by simp[g117])]
 have hS:Br h top i x=some (h2,top'):=by
  unfold Br;simp only[hm2,←hh1,←hv2];rw[aNy hnf,hN];show((Bo h2 x v).map fun h3=>(h3,max (max top m) v))=_;rw[hJ,htop'];rfl
 refine Eg [0,0,2,2] rfl (Jas [box b4 [.slice Ah h2.length qh] 57,rows Km 3 1 Ah qh h2,ros Ins.cells A l,Gz] (by first|rfl|rw[aNw]<;>rfl) (Dc ⟨⟨h2,top',i+1,rfl,rfl,rfl,om,om,hB2,(by rw[hI,Bt hx,hS];rfl),om⟩,sb⟩));refine Jz 8 ?_;refine Ju [(0, .slice A l.length q),(2,iv top'),(4,pv b4),(6, .func (.func 182) #[] #[pv b4]),(27, .slice A l.length q),(28,nv l.length),(29,nv i),(30, .bool (decide (((i:Nat):Int)<((l.length:Nat):Int)))),(8,pv b8),(7,nv i),(9,pv b9),(52, .bool (decide (((x.op:Nat):Int)=31))),(77, .bool false),(10,iv v),(110, .bool false)] sb (Jz 5 ?_);have hnf:¬(m<Gm x∨(((x.op:Nat):Int)=34∧m≠0)):=om;have hN:Fp h1 i x v=some h1:=by rw[Fp,aNy om]
 have hB2:∀y0∈h1,(-1:Int)≤y0∧y0≤((i+1:Nat):Int):=fun y0 h0=>by have:=hB1 y0 h0;omega
 refine Jz 2 ?_;refine Jvf (Lv x) rfl (jP _) ?_;refine Jz 8 ?_;refine dx ?_;obtain⟨tn,htn⟩:∃tn:Nat,(tgt x).getD 0=((tn:Nat):Int):=⟨((tgt x).getD 0).toNat,by omega⟩
 rw[htn];obtain⟨y3,hy3⟩:=ai h1 tn om;have htn2:((tgt x).getD 0).toNat=tn:=om;refine Jz 2 ?_;refine JgB ?_ ?_<;>intro g117;refine Jz 3 ?_;refine Jcl [2,2] rfl rfl rfl (di (first:=[]) (captured:=[pv b4]) rfl rfl rfl (kc.h 182 rfl)) rfl (Iy b4 Ah qh h1 tn v y3 hy3) ?_;rintro _ _ ⟨rfl,rfl⟩;refine Jz 4 ?_;refine Ee rfl ?_ ?_<;>intro Hr;refine Jz 12 ?_;refine Ei (.inl rfl) results133 rfl rfl ?_;have hm2:max (h.getD i 0) 0=m:=by rw[Bg hy,hm]
 have hJ:Bo h1 x v=none:=by rw[Bo,aOn (by assumption),htn2,Bg hy3,aNy (by simpa using Hr)]
 rw[Ck (by rw[hI,Bt hx,show Br h top i x=none from(by unfold Br;simp only[hm2,←hh1,←hv2];rw[aNy hnf,hN];simp[hJ])];rfl)];refine Jz 8 ?_;have hm2:max (h.getD i 0) 0=m:=by rw[Bg hy,hm]
 have hJ:Bo h1 x v=some (h1.set tn v):=by rw[Bo,aOn (by assumption),htn2,Bg hy3,aOn (by simpa using Hr)]
 have hS:Br h top i x=some ((h1.set tn v),top'):=by
  unfold Br;simp only[hm2,←hh1,←hv2];rw[aNy hnf,hN];show((Bo h1 x v).map fun h3=>(h3,max (max top m) v))=_;rw[hJ,htop'];rfl
 refine Eg [0,0,2,2] rfl (Jas [box b4 [.slice Ah (h1.set tn v).length qh] 57,rows Km 3 1 Ah qh (h1.set tn v),ros Ins.cells A l,Gz] (by first|rfl|rw[aNw]<;>rfl) (Dc ⟨⟨(h1.set tn v),top',i+1,rfl,rfl,rfl,om,(by rw[aNw];omega),(Gs (fun y0 h0=>by have:=hB2 y0 h0;omega) om),(by rw[hI,Bt hx,hS];rfl),om⟩,sb⟩));refine Jz 17 ?_;have hm2:max (h.getD i 0) 0=m:=by rw[Bg hy,hm]
 have hJ:Bo h1 x v=some h1:=by rw[Bo,aNy (by simp[g117])]
 have hS:Br h top i x=some (h1,top'):=by
  unfold Br;simp only[hm2,←hh1,←hv2];rw[aNy hnf,hN];show((Bo h1 x v).map fun h3=>(h3,max (max top m) v))=_;rw[hJ,htop'];rfl
 refine Eg [2,2,2,2] rfl (Jas [box b4 [.slice Ah h1.length qh] 57,rows Km 3 1 Ah qh h1,ros Ins.cells A l,Gz] (by first|rfl|rw[aNw]<;>rfl) (Dc ⟨⟨h1,top',i+1,rfl,rfl,rfl,om,om,hB2,(by rw[hI,Bt hx,hS];rfl),om⟩,sb⟩));refine Jz 13 ?_;refine Ju [(0, .slice A l.length q),(2,iv top'),(4,pv b4),(6, .func (.func 182) #[] #[pv b4]),(27, .slice A l.length q),(28,nv l.length),(29,nv i),(30, .bool (decide (((i:Nat):Int)<((l.length:Nat):Int)))),(8,pv b8),(7,nv i),(9,pv b9),(52, .bool (decide (((x.op:Nat):Int)=31))),(77, .bool false),(10,iv v),(110, .bool false)] sb (Jz 5 ?_);have hnf:¬(m<Gm x∨(((x.op:Nat):Int)=34∧m≠0)):=om;have hN:Fp h1 i x v=some h1:=by rw[Fp,aNy om]
 have hB2:∀y0∈h1,(-1:Int)≤y0∧y0≤((i+1:Nat):Int):=fun y0 h0=>by have:=hB1 y0 h0;omega
 refine Jz 2 ?_;refine Jvf (Lv x) rfl (jP _) ?_;refine Jz 8 ?_;refine dx ?_;obtain⟨tn,htn⟩:∃tn:Nat,(tgt x).getD 0=((tn:Nat):Int):=⟨((tgt x).getD 0).toNat,by omega⟩
 rw[htn];obtain⟨y3,hy3⟩:=ai h1 tn om;have htn2:((tgt x).getD 0).toNat=tn:=om;refine Jz 2 ?_;refine JgB ?_ ?_<;>intro g117;refine Jz 3 ?_;refine Jcl [2,2] rfl rfl rfl (di (first:=[]) (captured:=[pv b4]) rfl rfl rfl (kc.h 182 rfl)) rfl (Iy b4 Ah qh h1 tn v y3 hy3) ?_;rintro _ _ ⟨rfl,rfl⟩;refine Jz 4 ?_;refine Ee rfl ?_ ?_<;>intro Hr;refine Jz 12 ?_;refine Ei (.inl rfl) results133 rfl rfl ?_;have hm2:max (h.getD i 0) 0=m:=by rw[Bg hy,hm]
 have hJ:Bo h1 x v=none:=by rw[Bo,aOn (by assumption),htn2,Bg hy3,aNy (by simpa using Hr)]
 rw[Ck (by rw[hI,Bt hx,show Br h top i x=none from(by unfold Br;simp only[hm2,←hh1,←hv2];rw[aNy hnf,hN];simp[hJ])];rfl)];refine Jz 8 ?_;have hm2:max (h.getD i 0) 0=m:=by rw[Bg hy,hm]
 have hJ:Bo h1 x v=some (h1.set tn v):=by rw[Bo,aOn (by assumption),htn2,Bg hy3,aOn (by simpa using Hr)]
 have hS:Br h top i x=some ((h1.set tn v),top'):=by
  unfold Br;simp only[hm2,←hh1,←hv2];rw[aNy hnf,hN];show((Bo h1 x v).map fun h3=>(h3,max (max top m) v))=_;rw[hJ,htop'];rfl
 refine Eg [0,0,2,2] rfl (Jas [box b4 [.slice Ah (h1.set tn v).length qh] 57,rows Km 3 1 Ah qh (h1.set tn v),ros Ins.cells A l,Gz] (by first|rfl|rw[aNw]<;>rfl) (Dc ⟨⟨(h1.set tn v),top',i+1,rfl,rfl,rfl,om,(by rw[aNw];omega),(Gs (fun y0 h0=>by have:=hB2 y0 h0;omega) om),(by rw[hI,Bt hx,hS];rfl),om⟩,sb⟩));refine Jz 17 ?_;have hm2:max (h.getD i 0) 0=m:=by rw[Bg hy,hm]
 have hJ:Bo h1 x v=some h1:=by rw[Bo,aNy (by simp[g117])]
 have hS:Br h top i x=some (h1,top'):=by
  unfold Br;simp only[hm2,←hh1,←hv2];rw[aNy hnf,hN];show((Bo h1 x v).map fun h3=>(h3,max (max top m) v))=_;rw[hJ,htop'];rfl
 refine Eg [2,2,2,2] rfl (Jas [box b4 [.slice Ah h1.length qh] 57,rows Km 3 1 Ah qh h1,ros Ins.cells A l,Gz] (by first|rfl|rw[aNw]<;>rfl) (Dc ⟨⟨h1,top',i+1,rfl,rfl,rfl,om,om,hB2,(by rw[hI,Bt hx,hS];rfl),om⟩,sb⟩));refine Jz 6 ?_;obtain⟨y4,hy4⟩:∃z0,h[l.length]?=some z0:=⟨h[l.length]'om,gge _⟩
 refine Jfw [] [0,2,3,7,101,104,105,6,8] (jP _) ?_;refine Jz 12 ?_;refine Ei (.inl rfl) results133 rfl rfl ?_;rw[show Qk l=(top,decide (y4≤0))from(by unfold Qk;rw[hI,aPz om];simp only[goH];rw[Bg hy4])]
def TI(e:Ins):List vU:=[nv e.op,iv e.a,iv e.b,iv e.n]
instance aNl:Enc TI 4:=⟨fun _=>rfl,fun e u hu=>by
 simp only[TI,aNx,aOe,aPh]at hu;rcases hu with rfl|rfl|rfl|rfl<;>rfl⟩
def uA(o:Int):Bool:=decide ((2≤o∧o≤4)∨(6≤o∧o≤8)∨(24≤o∧o≤28)∨o=30∨o=33)
def uB(o:Int):Bool:=decide (30≤o∧o≤33)
def uN(o:Int):Bool:=decide (o=1∨o=30∨o=31)
def jR(x:Ins):Int:=if((x.op:Nat):Int)=27∨((x.op:Nat):Int)=28 then x.a else if((x.op:Nat):Int)=32∨((x.op:Nat):Int)=33 then x.b else-1
def Nl(pr:Int)(nc:Nat)(x:Ins):Bool:=!((decide (((x.op:Nat):Int)<1))||decide (34<((x.op:Nat):Int)))&&(!((!uA ((x.op:Nat):Int)&&decide (x.a≠0))||((!uB ((x.op:Nat):Int)&&decide (x.b≠0))||(!uN ((x.op:Nat):Int)&&decide (x.n≠0))))&&(!((uA ((x.op:Nat):Int)&&(!((decide (((x.op:Nat):Int)=27))||decide (((x.op:Nat):Int)=28))&&(decide (x.a<0)||decide (63<x.a))))||(decide (((x.op:Nat):Int)=3)&&decide (pr≤x.a)))&&(!(((decide (((x.op:Nat):Int)=30))||decide (((x.op:Nat):Int)=31))&&(decide (x.b<0)||(decide (63<x.b)||(decide (x.n<0)||decide (4<x.n)))))&&(!(((decide (((x.op:Nat):Int)=27))||decide (((x.op:Nat):Int)=28))||(decide (((x.op:Nat):Int)=32)||decide (((x.op:Nat):Int)=33)))||(decide (0≤jR x)&&decide (jR x≤((nc:Nat):Int)))))))
theorem Uo{C:Cx}{P:pG}{ρ:Bj}{Γ:List Ad}{Q:Exit→Act→wD→Prop}{T:Type}{c:Code}{K:Act→wD→Prop}(F:T→Bj×List Ad)(p:T→Prop)(h:To C ρ Γ (c.wp P (Exit.then (fun a w=>∃t,p t∧Has C.n C.ds (F t).1 a∧Db C.Γ0 (F t).2 C.w0 w) Q)))(k:∀t,p t→To C (F t).1 (F t).2 K):To C ρ Γ (c.wp P (Exit.then K Q)):=fun a w ha hp=>
 Code.wp_mono (fun e a w hq=>by
  cases e with
  |normal=>obtain⟨t,h1,h2,h3⟩:=hq;exact k t h1 a w h2 h3
  |exit id=>exact hq
  |goto l=>exact hq
  |ret=>exact hq
  |panic ch=>exact hq
  |outgrown=>exact hq) (h a w ha hp)
theorem TJ:((List.range 35).all fun o=>o==0||(bT o 65==uA ((o:Nat):Int)&&bT o 66==uB ((o:Nat):Int)&&bT o 78==uN ((o:Nat):Int)))=true:=by kernel_rfl
theorem aAc{o:Nat}(h1:1≤o)(h2:o≤34):bT o 65=uA ((o:Nat):Int)∧bT o 66=uB ((o:Nat):Int)∧bT o 78=uN ((o:Nat):Int):=by
 have h:=aPt.1 TJ o (List.mem_range.2 om);simp only[aPu,aOc,beq_iff_eq]at h;rcases h with h|⟨⟨ha,hb⟩,hn⟩
 ·omega
 ·exact⟨ha,hb,hn⟩
theorem aAd{pr:Int}{nc:Nat}{x:Ins}(hp:0≤pr∧pr≤4):Nl pr nc x=Va pr nc x:=by
 obtain⟨o,a,b,n⟩:=x;by_cases ho:1≤o∧o≤34
 · obtain⟨ea,eb,en⟩:=aAc ho.1 ho.2
   rw[Bool.eq_iff_iff];unfold Nl Va;rw[ea,eb,en];clear ea eb en;rcases(by omega:o=1∨o=2∨o=3∨o=4∨o=5∨o=6∨o=7∨o=8∨o=9∨o=10∨o=11∨o=12∨o=13∨o=14∨o=15∨o=16∨o=17∨o=18∨o=19∨o=20∨o=21∨o=22∨o=23∨o=24∨o=25∨o=26∨o=27∨o=28∨o=29∨o=30∨o=31∨o=32∨o=33∨o=34)with rfl|rfl|rfl|rfl|rfl|rfl|rfl|rfl|rfl|rfl|rfl|rfl|rfl|rfl|rfl|rfl|rfl|rfl|rfl|rfl|rfl|rfl|rfl|rfl|rfl|rfl|rfl|rfl|rfl|rfl|rfl|rfl|rfl|rfl<;>simp[uA,uB,uN,tgt,jR]<;>omega
 · rw[Bool.eq_iff_iff]
   unfold Nl Va;simp only[aOc,aPu,aPf,Bool.not_eq_true',aQt,aQr];constructor<;>intro h<;>omega
structure Sp where
 t:Nat
 f:Nat
 v:Int
def Sp.cells(e:Sp):List vU:=[.int .u8 ((e.t:Nat):Int), .int .u8 ((e.f:Nat):Int), .int .i32 e.v]
instance aNm:Enc Sp.cells 3:=⟨fun _=>rfl,fun e u hu=>by
 simp only[Sp.cells,aNx,aOe,aPh]at hu;rcases hu with rfl|rfl|rfl<;>rfl⟩
def Fa(n:Nat):List vU:=[.int .u8 ((n:Nat):Int)]
instance Ym:Enc Fa 1:=⟨fun _=>rfl,fun x u hu=>by simp[Fa]at hu;subst hu;rfl⟩
section
variable{P:pG}{o:Oper}{ρ:Bj}{Γ:List Ad}{x y:Operand}{t t':tI}{a b j:Nat}
end
end Go.Proofs.YtihgdnjkofpgiaaGreatDoor
