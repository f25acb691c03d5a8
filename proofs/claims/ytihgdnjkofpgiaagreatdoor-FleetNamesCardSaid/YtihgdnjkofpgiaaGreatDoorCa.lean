/- Own text. -/
import Derived.Test.YtihgdnjkofpgiaaGreatDoorT
set_option linter.unusedVariables false
set_option linter.unusedSimpArgs false
set_option maxHeartbeats 2000000
set_option maxRecDepth 100000
namespace Go.Proofs.YtihgdnjkofpgiaaGreatDoor
open Go.Proofs.Tryz
open Go.RowKit Go.Flow Go.Mem Go.Sep
def Kw(n:Int):List vU:=[iv n]
instance jX:Enc Kw 1:=⟨fun _=>rfl,fun x u hu=>by simp[Kw]at hu;subst hu;rfl⟩
def aLf(b:Bool):List vU:=[.bool b]
instance aNe:Enc aLf 1:=⟨fun _=>rfl,fun x u hu=>by simp[aLf]at hu;subst hu;rfl⟩
structure Ins where
 op:Nat
 a:Int
 b:Int
 n:Int
deriving DecidableEq
def Ins.cells(e:Ins):List vU:=[.int .u8 ((e.op:Nat):Int),iv e.a,iv e.b,iv e.n]
instance iN:Enc Ins.cells 4:=⟨fun _=>rfl,fun e u hu=>by
 simp only[Ins.cells,aPi,aPm,aQo]at hu;rcases hu with rfl|rfl|rfl|rfl<;>rfl⟩
def aEl(e:Int×Int):List vU:=[iv e.1,iv e.2]
instance aLg:Enc aEl 2:=⟨fun _=>rfl,fun e u hu=>by
 simp only[aEl,aPi,aPm,aQo]at hu;rcases hu with rfl|rfl<;>rfl⟩
structure Tb where
 A:OA
 q:Nat
 l:List (Int×Int)
def Tb.cells(e:Tb):List vU:=[.slice e.A e.l.length e.q]
instance aOs:Enc Tb.cells 1:=⟨fun _=>rfl,fun e u hu=>by
 simp only[Tb.cells,aPi,aPm,aQo]at hu;subst hu;rfl⟩
def Tb.ar(e:Tb):OA×List (Int×Int):=(e.A,e.l)
structure Ef where
 k:Int
 to:Int
 h:Int
 d:Int
 key:Int
 v:Int
 f:Bool
 A:OA
 q:Nat
 args:List Int
def Ef.cells(e:Ef):List vU:=[.int .u8 e.k,iv e.to,iv e.h,iv e.d,iv e.key,iv e.v, .bool e.f, .slice e.A e.args.length e.q]
instance aOt:Enc Ef.cells 8:=⟨fun _=>rfl,fun e u hu=>by
 simp only[Ef.cells,aPi,aPm,aQo]at hu;rcases hu with rfl|rfl|rfl|rfl|rfl|rfl|rfl|rfl<;>rfl⟩
def Ef.ar(e:Ef):OA×List Int:=(e.A,e.args)
def tgt(i:Ins):oP Int:=if(i.op:Int)=27∨(i.op:Int)=28 then some i.a else if(i.op:Int)=32∨(i.op:Int)=33 then some i.b else none
theorem Ml(x:Ins):
    Dz 183 [.agg (Ins.cells x).toArray] [] (fun v _=>v= .tuple #[iv ((tgt x).getD 0), .bool (tgt x).isSome]):=by
 refine Ba func183 ntmps183 fun w0=>?_;refine Js (dh (Jbo fun b1=>?_));refine Jz 19 ?_;refine ax rfl ?_ ?_<;>intro k6;refine Jsp (Jt (Ll (aPe (fun b=>some (Value.bool b)) (aQg k6)) (Jz 11 ?_)));refine Eo (.inl rfl) results183 rfl rfl ?_;simp[tgt,k6];refine Jz 5 ?_;refine ax rfl ?_ ?_<;>intro k6_2;refine Jz 11 ?_;refine Eo (.inl rfl) results183 rfl rfl ?_;simp[tgt,k6_2];refine Jz 7 ?_;refine ax rfl ?_ ?_<;>intro k11;refine Jsp (Jt (Ll (aPe (fun b=>some (Value.bool b)) (aQg k11)) (Jz 11 ?_)));refine Eo (.inl rfl) results183 rfl rfl ?_;simp[tgt,k11];refine Jz 5 ?_;refine ax rfl ?_ ?_<;>intro k11_2;refine Jz 11 ?_;refine Eo (.inl rfl) results183 rfl rfl ?_;simp[tgt,k11_2];refine Jz 10 ?_;refine Eo (.inl rfl) results183 rfl rfl ?_;simp[tgt,k6,k6_2,k11,k11_2]
structure Rw where
 text:yB
 uses:yB
 pops:Int
 pushes:Int
def Rw.cells(e:Rw):List vU:=[.string e.text, .string e.uses,iv e.pops,iv e.pushes]
instance aEm:Enc Rw.cells 4:=⟨fun _=>rfl,fun e u hu=>by
 simp only[Rw.cells,aPi,aPm,aQo]at hu;rcases hu with rfl|rfl|rfl|rfl<;>rfl⟩
def Vx:List Rw:=[⟨⟨#[]⟩,⟨#[]⟩,0,0⟩,⟨⟨#[99,111,110,115,116]⟩,⟨#[78]⟩,0,1⟩,⟨⟨#[118,97,114]⟩,⟨#[65]⟩,0,1⟩,⟨⟨#[112,97,114,97,109]⟩,⟨#[65]⟩,0,1⟩,⟨⟨#[102,108,97,103]⟩,⟨#[65]⟩,0,1⟩,⟨⟨#[110,111,119]⟩,⟨#[]⟩,0,1⟩,⟨⟨#[103,101,116]⟩,⟨#[65]⟩,1,1⟩,⟨⟨#[104,97,115]⟩,⟨#[65]⟩,1,1⟩,⟨⟨#[115,105,122,101]⟩,⟨#[65]⟩,0,1⟩,⟨⟨#[110,101,103]⟩,⟨#[]⟩,1,1⟩,⟨⟨#[110,111,116]⟩,⟨#[]⟩,1,1⟩,⟨⟨#[109,117,108]⟩,⟨#[]⟩,2,1⟩,⟨⟨#[100,105,118]⟩,⟨#[]⟩,2,1⟩,⟨⟨#[109,111,100]⟩,⟨#[]⟩,2,1⟩,⟨⟨#[97,100,100]⟩,⟨#[]⟩,2,1⟩,⟨⟨#[115,117,98]⟩,⟨#[]⟩,2,1⟩,⟨⟨#[101,113]⟩,⟨#[]⟩,2,1⟩,⟨⟨#[110,101]⟩,⟨#[]⟩,2,1⟩,⟨⟨#[108,116]⟩,⟨#[]⟩,2,1⟩,⟨⟨#[108,101]⟩,⟨#[]⟩,2,1⟩,⟨⟨#[103,116]⟩,⟨#[]⟩,2,1⟩,⟨⟨#[103,101]⟩,⟨#[]⟩,2,1⟩,⟨⟨#[97,110,100]⟩,⟨#[]⟩,2,1⟩,⟨⟨#[111,114]⟩,⟨#[]⟩,2,1⟩,⟨⟨#[115,101,116,118,97,114]⟩,⟨#[65]⟩,1,0⟩,⟨⟨#[112,117,116]⟩,⟨#[65]⟩,2,0⟩,⟨⟨#[100,101,108,101,116,101]⟩,⟨#[65]⟩,1,0⟩,⟨⟨#[106,117,109,112]⟩,⟨#[65]⟩,0,0⟩,⟨⟨#[98,114,97,110,99,104]⟩,⟨#[65]⟩,1,0⟩,⟨⟨#[99,111,115,116]⟩,⟨#[]⟩,0,0⟩,⟨⟨#[115,101,110,100]⟩,⟨#[65,66,78]⟩,0,0⟩,⟨⟨#[97,102,116,101,114]⟩,⟨#[66,78]⟩,1,0⟩,⟨⟨#[115,116,111,114,101]⟩,⟨#[66]⟩,2,0⟩,⟨⟨#[102,101,116,99,104]⟩,⟨#[65,66]⟩,1,0⟩,⟨⟨#[115,116,111,112]⟩,⟨#[]⟩,0,0⟩]
def rowOf(o:Nat):Rw:=Vx.getD o ⟨⟨#[]⟩,⟨#[]⟩,0,0⟩
theorem UE{o:Nat}(h:o≤34):Vx[o]?=some (rowOf o):=by
 have hl:o<Vx.length:=by show o<35;omega
 rw[rowOf,aRp,gge hl];rfl
theorem vQ{o:Nat}(h:¬o≤34):rowOf o=⟨⟨#[]⟩,⟨#[]⟩,0,0⟩:=by
 rw[rowOf,aRp,List.getElem?_eq_none (by show 35≤o;omega)];rfl
theorem EW(o:Nat):0≤(rowOf o).pops∧(rowOf o).pops≤2∧0≤(rowOf o).pushes∧(rowOf o).pushes≤1:=by
 by_cases h:o≤34
 · have hl:o<Vx.length:=by show o<35;omega
   have e:rowOf o=Vx[o]:=by have:=UE h;rw[gge hl]at this;exact(aPq this).symm
   have all:∀r∈Vx,0≤r.pops∧r.pops≤2∧0≤r.pushes∧r.pushes≤1:=by decide
   rw[e];exact all _ (List.getElem_mem hl)
 ·rw[vQ h];decide
def Ri(o:Nat)(c:Int):Bool:=decide (0≤Lib.indexByte (rowOf o).uses.data.toList c.toNat.toUInt8)
abbrev Fx:Ad:=ros Rw.cells (some ⟨0,0,none⟩) Vx
theorem EX(o:Nat):
    Dz 55 [.int .u8 ((o:Nat):Int)] [Fx] (fun v Γ'=>v= .agg (Rw.cells (rowOf o)).toArray∧Γ'=[]):=by
 refine Ba func55 ntmps55 fun w0=>?_;refine Js (dh (ay fun b2=>?_));refine Jz 9 ?_;refine ax rfl ?_ ?_<;>intro c4;refine Js (dh (Jr (.bd [.string bE, .string bE,iv 0,iv 0]) ?_));refine Jz 5 ?_;refine Ee [] results55 ?_;exact⟨by rw[vQ om];rfl,rfl⟩;refine Jz 5 ?_;refine Jr (Df (j:=o) rfl (Io.of (size:=4) underlying206 kr) rfl rfl om) ?_;refine Jr (Pg (i:=1) rfl rfl aNy rfl (rsg aEm (A:=some ⟨0,0,none⟩) (UE (o:=o) om)) (aEm.len _)) ?_;refine Jz 4 ?_;refine Ee [] results55 ?_;exact⟨rfl,rfl⟩
def Vy(pr:Int)(nc:Nat)(x:Ins):Bool:=
 decide (1≤(x.op:Int))&&decide ((x.op:Int)≤34)&& !(!Ri x.op 65&&decide (x.a≠0))&& !(!Ri x.op 66&&decide (x.b≠0))&& !(!Ri x.op 78&&decide (x.n≠0))&&
 !((tgt x).isSome&&(decide ((tgt x).getD 0<0)||decide (((nc:Nat):Int)<(tgt x).getD 0)))&&
 (if(x.op:Int)=27∨(x.op:Int)=28∨(x.op:Int)=32 then true else if(x.op:Int)=3 then decide (0≤x.a)&&decide (x.a<pr)else
  if((x.op:Int)=30∨(x.op:Int)=31)∧(x.b<0∨63<x.b∨x.n<0∨4<x.n)then false else decide (0≤x.a)&&decide (x.a≤63))
theorem EY{pr:Int}{nc:Nat}{x:Ins}(h:Vy pr nc x=true):(((x.op:Nat):Int)=30∨((x.op:Nat):Int)=31→0≤x.n∧x.n≤4)∧0≤(tgt x).getD 0∧(tgt x).getD 0≤nc:=by
 unfold Vy at h;simp only[aPk,aQx,Bool.not_eq_true',Bool.and_eq_false_iff,aRx,aRs]at h;obtain⟨⟨_,ht⟩,hr⟩:=h;constructor
 · intro hop
   rw[aPf om,aPf om]at hr;by_cases hb:x.b<0∨63<x.b∨x.n<0∨4<x.n
   ·rw[aPr ⟨hop,hb⟩]at hr;cases hr
   ·omega
 · rcases ht with ht|ht
   · have:tgt x=none:=by simpa using ht
     rw[this];exact⟨Int.le_refl _,Int.natCast_nonneg _⟩
   ·omega
def Gs(x:Ins):Int:=if((x.op:Nat):Int)=30∨((x.op:Nat):Int)=31 then(rowOf x.op).pops+x.n else(rowOf x.op).pops
def okH(y v:Int):Prop:=y<0∨y=v
instance(y v:Int):Decidable (okH y v):=inferInstanceAs (Decidable (_∨_))
def aU(m:Int)(x:Ins):Int:=m-Gs x+(rowOf x.op).pushes
def Fy(h:List Int)(i:Nat)(x:Ins)(v:Int):oP (List Int):=
 if((x.op:Nat):Int)≠27∧((x.op:Nat):Int)≠34 then(if okH (h.getD (i+1) 0) v then some (h.set (i+1) v)else none)else some h
def Bv(h:List Int)(x:Ins)(v:Int):oP (List Int):=
 if(tgt x).isSome=true then(if okH (h.getD ((tgt x).getD 0).toNat 0) v then some (h.set ((tgt x).getD 0).toNat v)else none)else some h
def Cb(h:List Int)(top:Int)(i:Nat)(x:Ins):oP (List Int×Int):=
 let m:=max (h.getD i 0) 0
 if m<Gs x∨(((x.op:Nat):Int)=34∧m≠0)then none else
 (Fy (h.set i m) i x (aU m x)).bind fun h2=>(Bv h2 x (aU m x)).map fun h3=>(h3,max (max top m) (aU m x))
def goH:Nat→List Ins→List Int→Int→oP (List Int×Int)
 |_,[],h,top=>some (h,top)
 |i,x::r,h,top=>(Cb h top i x).bind fun p=>goH (i+1) r p.1 p.2
def Lr(l:List Ins):Int×Bool:=match goH 0 l (List.replicate (l.length+1) (-1)) 0 with
 |none=>(0,false)
 |some (h,top)=>(top,decide (h.getD l.length 0≤0))
theorem Ce{l:List Ins}{i:Nat}{x:Ins}(hx:l[i]?=some x)(h:List Int)(top:Int):goH i (l.drop i) h top=(Cb h top i x).bind fun p=>goH (i+1) (l.drop (i+1)) p.1 p.2:=by rw[dog hx];rfl
theorem Cs{l:List Ins}(h:goH 0 l (List.replicate (l.length+1) (-1)) 0=none):Lr l=(0,false):=by unfold Lr;rw[h]
theorem UF(k n:Nat):(List.replicate k (-1:Int)++List.replicate (n+1) 0).set k (-1)=List.replicate (k+1) (-1)++List.replicate n 0:=by
 rw[List.set_append_right _ _ sm,aQj,aRo,List.replicate_succ (n:=n),List.set_cons_zero,List.append_cons,←List.replicate_succ']
theorem Bi{l:List Int}{i:Nat}{y:Int}(h:l[i]?=some y):l.getD i 0=y:=by rw[aRp,h];rfl
theorem Gx{l:List Int}{i:Nat}{v lo hi:Int}(h:∀y∈l,lo≤y∧y≤hi)(hv:lo≤v∧v≤hi):∀y∈l.set i v,lo≤y∧y≤hi:=fun y hy=>by
 rcases List.mem_or_eq_of_mem_set hy with h1|rfl
 ·exact h y h1
 ·exact hv
theorem Iu(b:Nat)(Ah:OA)(qh:Nat)(h:List Int)(t:Nat)(v y:Int)(hy:h[t]?=some y):
    Dz 182 [nv t,iv v,pv b] [box b [.slice Ah h.length qh] 57,rows Kw 3 1 Ah qh h] (fun r Γ'=>r= .bool (decide (okH y v))∧Γ'=[box b [.slice Ah h.length qh] 57,rows Kw 3 1 Ah qh (h.set t v)]):=by
 refine Ba func182 ntmps182 fun w0=>?_;refine Jz 12 ?_;refine JgP ?_ ?_<;>intro g12;refine Jz 11 ?_;have htl:t<h.length:=(aOz.1 hy).1;refine Jz 5 ?_;refine To.u (df (i:=1) rfl rfl rfl c3 rfl rfl (Hl jX (y:=v) de om)) ?_;refine Jz 9 ?_;refine Em [0,0] rfl (bv results182 ?_);exact⟨by simp[okH,g12],rfl⟩;refine Jz 11 ?_;have htl:t<h.length:=(aOz.1 hy).1;refine Jz 5 ?_;refine To.u (df (i:=1) rfl rfl rfl c3 rfl rfl (Hl jX (y:=v) de om)) ?_;refine Jz 9 ?_;refine Em [0,0] rfl (bv results182 ?_);exact⟨by simp[okH,g12],rfl⟩
theorem EZ(pr:Int)(A:OA)(q:Nat)(l:List Ins)(hl:l.length≤4000)(hform:∀x∈l,Vy pr l.length x=true):
    Dz 133 [.slice A l.length q] [ros Ins.cells A l,Fx] (fun v _=>v= .tuple #[iv (Lr l).1, .bool (Lr l).2]):=by
 refine Ba func133 ntmps133 fun w0=>?_;refine Jz 11 ?_;refine Jmk rfl rfl rfl (Tf (enc:=Kw) (z:=0) (n:=(l.length+1)) rfl rfl s57 rfl rfl om (by simp only[maxLen];omega)) ?_;rintro _ _ ⟨b16,rfl,rfl⟩;refine ay fun b4=>?_;refine Jz 12 ?_;refine Em [0,0,0,0] rfl (Jh (fun s g mz ρ Γ=>∃(Ah:OA) (qh:Nat) (h:List Int) (k:Nat),ρ=[s 0,s 2,s 4,(18,nv ((l.length+1))),(19,nv k)]∧Γ=[box b4 [.slice Ah h.length qh] 57,rows Kw 3 1 Ah qh h,g 2,Fx]∧mz=l.length+1-k∧(k≤l.length+1)∧(h=List.replicate k (-1)++List.replicate (l.length+1-k) 0)) ⟨⟨(some ⟨b16,0,none⟩),(l.length+1),(List.replicate (l.length+1) (0:Int)),0,rfl,rfl,rfl,om,sm⟩,⟨rfl,rfl,rfl,(aPe (fun n:Nat=>some (iv (n:Int))) aQj),rfl,trivial⟩⟩ ?_);rintro mz _ _ ⟨Ah,qh,h,k,rfl,rfl,rfl,hk,hh⟩;have hhl:h.length=l.length+1:=by rw[hh,bu,aQj,aQj];omega
 refine Jz 6 ?_;refine ax rfl ?_ ?_<;>intro c20;refine Jz 10 ?_;obtain⟨y,hy⟩:=bq h k om;refine Jz 4 ?_;refine To.u (df (i:=1) rfl rfl rfl c3 rfl rfl (Hl jX (y:=(-1)) de om)) ?_;refine Jz 8 ?_;refine Em [0,0,0,0] rfl (Jas [box b4 [.slice Ah (h.set k (-1)).length qh] 57,rows Kw 3 1 Ah qh (h.set k (-1)),ros Ins.cells A l,Fx] (by(try unfold vs);rw[aPh]<;>rfl) (Db ⟨⟨Ah,qh,(h.set k (-1)),k+1,rfl,rfl,rfl,om,(by rw[hh,show l.length+1-k=(l.length-k)+1 from by omega,UF,show l.length+1-(k+1)=l.length-k from by omega])⟩,sb⟩));refine Jz 7 ?_;refine Jr (Rd.makeFunc rfl rfl rfl) ?_;refine Jz 12 ?_;have hh0:h=List.replicate (l.length+1) (-1):=by rw[hh,show k=l.length+1 from by omega];simp
 subst hh0;refine Em [0,0,0,0] rfl (Jh (fun s g mz ρ Γ=>∃(h:List Int) (top:Int) (i:Nat),ρ=[s 0,(2,iv top),s 4,s 6,s 27,s 28,(29,nv i)]∧Γ=[box b4 [.slice Ah h.length qh] 57,rows Kw 3 1 Ah qh h,g 2,Fx]∧mz=l.length-i∧(i≤l.length)∧(h.length=l.length+1)∧(∀y0∈h,(-1:Int)≤y0∧y0≤((i:Nat):Int))∧(goH 0 l (List.replicate (l.length+1) (-1)) 0=goH i (l.drop i) h top)∧(0≤top∧top≤4001)) ⟨⟨(List.replicate (l.length+1) (-1)),0,0,rfl,rfl,rfl,om,sm,(fun y0 hy0=>by rw[List.eq_of_mem_replicate hy0];omega),rfl,om⟩,sb⟩ ?_);rintro mz _ _ ⟨h,top,i,rfl,rfl,rfl,hi,hhl,hB,hI,ht⟩;refine Jz 6 ?_;refine ax rfl ?_ ?_<;>intro c30;obtain⟨x,hx⟩:=bq l i om;refine Jz 9 ?_;refine ay fun b8=>?_;refine Jz 5 ?_;obtain⟨y,hy⟩:=bq h i om;have hyb:=hB y (av hy);have hix:i<h.length:=om;refine Jfw [] [1,3,100,102,104,105,6,107,508] (af _) ?_;refine Jz 6 ?_;refine di rfl (Rd.max rfl rfl rfl) ?_;refine Jz 1 ?_;refine dm rfl rfl rfl (df (i:=2) rfl rfl rfl c3 rfl rfl (Hl jX (y:=(max y 0)) de om)) (af _) ?_;refine Jz 3 ?_;refine gp ?_;obtain⟨m,hm⟩:∃z0,z0=(max y 0):=⟨_,rfl⟩
 rw[←hm];refine gp ?_;obtain⟨h1,hh1⟩:∃z0,z0=(h.set i m):=⟨_,rfl⟩
 rw[←hh1];have hlh1:h1.length=h.length:=by rw[hh1];rw[aPh]
 rw[←hlh1];have hy1:h1[i]?=some m:=by rw[hh1,List.getElem?_set_self hix]
 have hmb:0≤m∧m≤i:=om;have hB1:∀y0∈h1,(-1:Int)≤y0∧y0≤((i:Nat):Int):=by rw[hh1];exact Gx hB om
 have hxf:=EY (hform x (av hx));have hpb:=EW x.op;refine Jz 3 ?_;refine Jvf ((EX x.op).mono (R':=fun v _=>v= .agg (Rw.cells (rowOf x.op)).toArray) (fun _ _ h=>h.1)) rfl (ag (au 4 rfl) (af _)) ?_;refine ay fun b9=>?_;refine Jz 9 ?_;refine JgP ?_ ?_<;>intro g48;refine Jz 12 ?_;refine Jr (Im rfl rfl rfl om) ?_;refine Jz 6 ?_;have hpn:((rowOf x.op).pops)+x.n=Gs x:=by unfold Gs;rw[aPr om]
 refine gp ?_;dsimp only[Rw.cells];rw[hpn];have hpb2:0≤Gs x∧Gs x≤6:=om;refine Jfw [] [1,4,100,102,103,105,6,7,8,109,10,11,13,112,114,115,16,17,18] (af _) ?_;refine Jz 7 ?_;refine Xo rfl rfl rfl rfl (dz rfl rfl) (fun g66=>?_) (fun g66=>?_);refine Jz 27 ?_;refine Eo (.inl rfl) results133 rfl rfl ?_;have hm2:max (h.getD i 0) 0=m:=by rw[Bi hy,hm]
 rw[Cs (by rw[hI,Ce hx,show Cb h top i x=none from(by unfold Cb;simp only[hm2];rw[aPr om])];rfl)];refine Jz 3 ?_;refine Xo rfl rfl rfl rfl (dz rfl rfl) (fun g70=>?_) (fun g70=>?_);refine Jz 9 ?_;refine ax rfl ?_ ?_<;>intro c77;refine Jz 13 ?_;refine Eo (.inl rfl) results133 rfl rfl ?_;have hm2:max (h.getD i 0) 0=m:=by rw[Bi hy,hm]
 rw[Cs (by rw[hI,Ce hx,show Cb h top i x=none from(by unfold Cb;simp only[hm2];rw[aPr om])];rfl)];refine Jz 3 ?_;refine Jfw [] [1,4,7,100,102,103,105,6,108,9,10] (af _) ?_;refine Jz 7 ?_;refine di rfl (Ev rfl rfl rfl om) ?_;refine Jz 1 ?_;refine di rfl (Im rfl rfl rfl om) ?_;refine Jz 4 ?_;refine gp ?_;obtain⟨v,hv⟩:∃z0,z0=((m-(Gs x))+((rowOf x.op).pushes)):=⟨_,rfl⟩
 rw[←hv];have hv2:v=aU m x:=by rw[hv,aU]
 have hvb:0≤v∧v≤i+1:=om;refine Jz 7 ?_;refine Jr (Vk rfl rfl rfl rfl) ?_;refine Jz 2 ?_;refine Jo [(0, .slice A l.length q),(2,iv (max (max top m) v)),(4,pv b4),(6, .func (.func 182) #[] #[pv b4]),(27, .slice A l.length q),(28,nv l.length),(29,nv i),(30, .bool (decide (((i:Nat):Int)<((l.length:Nat):Int)))),(8,pv b8),(7,nv i),(9,pv b9),(52, .bool true),(77, .bool (decide (m≠0))),(10,iv v)] sb (Jz 3 ?_);obtain⟨y2,hy2⟩:∃z0,h1[i+1]?=some z0:=⟨h1[i+1]'om,gge _⟩
 refine gp ?_;obtain⟨top',htop'⟩:∃z0,z0=(max (max top m) v):=⟨_,rfl⟩
 rw[←htop'];refine Jz 4 ?_;refine JgP ?_ ?_<;>intro g98;refine Jz 4 ?_;refine JgP ?_ ?_<;>intro g103;refine Jz 4 ?_;refine Jcl [2,2] rfl rfl rfl (dn (first:=[]) (captured:=[pv b4]) rfl rfl rfl (kc.h 182 rfl)) rfl (Iu b4 Ah qh h1 (i+1) v y2 hy2) ?_;rintro _ _ ⟨rfl,rfl⟩;refine Jz 4 ?_;refine Ej rfl ?_ ?_<;>intro c110;refine Jz 13 ?_;refine Eo (.inl rfl) results133 rfl rfl ?_;have hm2:max (h.getD i 0) 0=m:=by rw[Bi hy,hm]
 have hnf:¬(m<Gs x∨(((x.op:Nat):Int)=34∧m≠0)):=om;have hN:Fy h1 i x v=none:=by rw[Fy,aPr om,Bi hy2,aPf (by simpa using c110)]
 rw[Cs (by rw[hI,Ce hx,show Cb h top i x=none from(by unfold Cb;simp only[hm2,←hh1,←hv2];rw[aPf hnf,hN];rfl)];rfl)];refine Jz 3 ?_;have hnf:¬(m<Gs x∨(((x.op:Nat):Int)=34∧m≠0)):=om;refine gp ?_;obtain⟨h2,hh2⟩:∃z0,z0=(h1.set (i+1) v):=⟨_,rfl⟩
 rw[←hh2];have hlh2:h2.length=h1.length:=by rw[hh2];rw[aPh]
 rw[←hlh2];have hN:Fy h1 i x v=some h2:=by rw[Fy,aPr om,Bi hy2,aPr (by simpa using c110),hh2]
 have hB2:∀y0∈h2,(-1:Int)≤y0∧y0≤((i+1:Nat):Int):=by rw[hh2];exact Gx (fun y0 h0=>by have:=hB1 y0 h0;omega) om
 refine Jz 2 ?_;refine Jvf (Ml x) rfl (af _) ?_;refine Jz 8 ?_;refine gp ?_;obtain⟨tn,htn⟩:∃tn:Nat,(tgt x).getD 0=((tn:Nat):Int):=⟨((tgt x).getD 0).toNat,by omega⟩
 rw[htn];obtain⟨y3,hy3⟩:=bq h2 tn om;have htn2:((tgt x).getD 0).toNat=tn:=om;refine Jz 2 ?_;refine JgB ?_ ?_<;>intro g117;refine Jz 3 ?_;refine Jcl [0,0] rfl rfl rfl (dn (first:=[]) (captured:=[pv b4]) rfl rfl rfl (kc.h 182 rfl)) rfl (Iu b4 Ah qh h2 tn v y3 hy3) ?_;rintro _ _ ⟨rfl,rfl⟩;refine Jz 4 ?_;refine Ej rfl ?_ ?_<;>intro Hw;refine Jz 12 ?_;refine Eo (.inl rfl) results133 rfl rfl ?_;have hm2:max (h.getD i 0) 0=m:=by rw[Bi hy,hm]
 have hJ:Bv h2 x v=none:=by rw[Bv,aPr (by assumption),htn2,Bi hy3,aPf (by simpa using Hw)]
 rw[Cs (by rw[hI,Ce hx,show Cb h top i x=none from(by unfold Cb;simp only[hm2,←hh1,←hv2];rw[aPf hnf,hN];simp[hJ])];rfl)];refine Jz 8 ?_;have hm2:max (h.getD i 0) 0=m:=by rw[Bi hy,hm]
 have hJ:Bv h2 x v=some (h2.set tn v):=by rw[Bv,aPr (by assumption),htn2,Bi hy3,aPr (by simpa using Hw)]
 have hS:Cb h top i x=some ((h2.set tn v),top'):=by
  unfold Cb;simp only[hm2,←hh1,←hv2];rw[aPf hnf,hN];show((Bv h2 x v).map fun h3=>(h3,max (max top m) v))=_;rw[hJ,htop'];rfl
 refine Em [0,0,2,2] rfl (Jas [box b4 [.slice Ah (h2.set tn v).length qh] 57,rows Kw 3 1 Ah qh (h2.set tn v),ros Ins.cells A l,Fx] (by first|rfl|rw[aPh]<;>rfl) (Db ⟨⟨(h2.set tn v),top',i+1,rfl,rfl,rfl,om,(by rw[aPh];omega),(Gx (fun y0 h0=>by have:=hB2 y0 h0;omega) om),(by rw[hI,Ce hx,hS];rfl),om⟩,sb⟩));refine Jz 17 ?_;have hm2:max (h.getD i 0) 0=m:=by rw[Bi hy,hm]
 have hJ:Bv h2 x v=some h2:=by rw[Bv,aPf (by simp[g117])]
 have hS:Cb h top i x=some (h2,top'):=by
  unfold Cb;simp only[hm2,←hh1,←hv2];rw[aPf hnf,hN];show((Bv h2 x v).map fun h3=>(h3,max (max top m) v))=_;rw[hJ,htop'];rfl
 refine Em [0,0,2,2] rfl (Jas [box b4 [.slice Ah h2.length qh] 57,rows Kw 3 1 Ah qh h2,ros Ins.cells A l,Fx] (by first|rfl|rw[aPh]<;>rfl) (Db ⟨⟨h2,top',i+1,rfl,rfl,rfl,om,om,hB2,(by rw[hI,Ce hx,hS];rfl),om⟩,sb⟩));refine Jz 13 ?_;have hnf:¬(m<Gs x∨(((x.op:Nat):Int)=34∧m≠0)):=om;have hN:Fy h1 i x v=some h1:=by rw[Fy,aPf om]
 have hB2:∀y0∈h1,(-1:Int)≤y0∧y0≤((i+1:Nat):Int):=fun y0 h0=>by have:=hB1 y0 h0;omega
 refine Jz 2 ?_;refine Jvf (Ml x) rfl (af _) ?_;refine Jz 8 ?_;refine gp ?_;obtain⟨tn,htn⟩:∃tn:Nat,(tgt x).getD 0=((tn:Nat):Int):=⟨((tgt x).getD 0).toNat,by omega⟩
 rw[htn];obtain⟨y3,hy3⟩:=bq h1 tn om;have htn2:((tgt x).getD 0).toNat=tn:=om;refine Jz 2 ?_;refine JgB ?_ ?_<;>intro g117;refine Jz 3 ?_;refine Jcl [2,2] rfl rfl rfl (dn (first:=[]) (captured:=[pv b4]) rfl rfl rfl (kc.h 182 rfl)) rfl (Iu b4 Ah qh h1 tn v y3 hy3) ?_;rintro _ _ ⟨rfl,rfl⟩;refine Jz 4 ?_;refine Ej rfl ?_ ?_<;>intro Hw;refine Jz 12 ?_;refine Eo (.inl rfl) results133 rfl rfl ?_;have hm2:max (h.getD i 0) 0=m:=by rw[Bi hy,hm]
 have hJ:Bv h1 x v=none:=by rw[Bv,aPr (by assumption),htn2,Bi hy3,aPf (by simpa using Hw)]
 rw[Cs (by rw[hI,Ce hx,show Cb h top i x=none from(by unfold Cb;simp only[hm2,←hh1,←hv2];rw[aPf hnf,hN];simp[hJ])];rfl)];refine Jz 8 ?_;have hm2:max (h.getD i 0) 0=m:=by rw[Bi hy,hm]
 have hJ:Bv h1 x v=some (h1.set tn v):=by rw[Bv,aPr (by assumption),htn2,Bi hy3,aPr (by simpa using Hw)]
 have hS:Cb h top i x=some ((h1.set tn v),top'):=by
  unfold Cb;simp only[hm2,←hh1,←hv2];rw[aPf hnf,hN];show((Bv h1 x v).map fun h3=>(h3,max (max top m) v))=_;rw[hJ,htop'];rfl
 refine Em [0,0,2,2] rfl (Jas [box b4 [.slice Ah (h1.set tn v).length qh] 57,rows Kw 3 1 Ah qh (h1.set tn v),ros Ins.cells A l,Fx] (by first|rfl|rw[aPh]<;>rfl) (Db ⟨⟨(h1.set tn v),top',i+1,rfl,rfl,rfl,om,(by rw[aPh];omega),(Gx (fun y0 h0=>by have:=hB2 y0 h0;omega) om),(by rw[hI,Ce hx,hS];rfl),om⟩,sb⟩));refine Jz 17 ?_;have hm2:max (h.getD i 0) 0=m:=by rw[Bi hy,hm]
 have hJ:Bv h1 x v=some h1:=by rw[Bv,aPf (by simp[g117])]
 have hS:Cb h top i x=some (h1,top'):=by
  unfold Cb;simp only[hm2,←hh1,←hv2];rw[aPf hnf,hN];show((Bv h1 x v).map fun h3=>(h3,max (max top m) v))=_;rw[hJ,htop'];rfl
 refine Em [2,2,2,2] rfl (Jas [box b4 [.slice Ah h1.length qh] 57,rows Kw 3 1 Ah qh h1,ros Ins.cells A l,Fx] (by first|rfl|rw[aPh]<;>rfl) (Db ⟨⟨h1,top',i+1,rfl,rfl,rfl,om,om,hB2,(by rw[hI,Ce hx,hS];rfl),om⟩,sb⟩));refine Jz 18 ?_;have hnf:¬(m<Gs x∨(((x.op:Nat):Int)=34∧m≠0)):=om;have hN:Fy h1 i x v=some h1:=by rw[Fy,aPf om]
 have hB2:∀y0∈h1,(-1:Int)≤y0∧y0≤((i+1:Nat):Int):=fun y0 h0=>by have:=hB1 y0 h0;omega
 refine Jz 2 ?_;refine Jvf (Ml x) rfl (af _) ?_;refine Jz 8 ?_;refine gp ?_;obtain⟨tn,htn⟩:∃tn:Nat,(tgt x).getD 0=((tn:Nat):Int):=⟨((tgt x).getD 0).toNat,by omega⟩
 rw[htn];obtain⟨y3,hy3⟩:=bq h1 tn om;have htn2:((tgt x).getD 0).toNat=tn:=om;refine Jz 2 ?_;refine JgB ?_ ?_<;>intro g117;refine Jz 3 ?_;refine Jcl [2,2] rfl rfl rfl (dn (first:=[]) (captured:=[pv b4]) rfl rfl rfl (kc.h 182 rfl)) rfl (Iu b4 Ah qh h1 tn v y3 hy3) ?_;rintro _ _ ⟨rfl,rfl⟩;refine Jz 4 ?_;refine Ej rfl ?_ ?_<;>intro Hw;refine Jz 12 ?_;refine Eo (.inl rfl) results133 rfl rfl ?_;have hm2:max (h.getD i 0) 0=m:=by rw[Bi hy,hm]
 have hJ:Bv h1 x v=none:=by rw[Bv,aPr (by assumption),htn2,Bi hy3,aPf (by simpa using Hw)]
 rw[Cs (by rw[hI,Ce hx,show Cb h top i x=none from(by unfold Cb;simp only[hm2,←hh1,←hv2];rw[aPf hnf,hN];simp[hJ])];rfl)];refine Jz 8 ?_;have hm2:max (h.getD i 0) 0=m:=by rw[Bi hy,hm]
 have hJ:Bv h1 x v=some (h1.set tn v):=by rw[Bv,aPr (by assumption),htn2,Bi hy3,aPr (by simpa using Hw)]
 have hS:Cb h top i x=some ((h1.set tn v),top'):=by
  unfold Cb;simp only[hm2,←hh1,←hv2];rw[aPf hnf,hN];show((Bv h1 x v).map fun h3=>(h3,max (max top m) v))=_;rw[hJ,htop'];rfl
 refine Em [0,0,2,2] rfl (Jas [box b4 [.slice Ah (h1.set tn v).length qh] 57,rows Kw 3 1 Ah qh (h1.set tn v),ros Ins.cells A l,Fx] (by first|rfl|rw[aPh]<;>rfl) (Db ⟨⟨(h1.set tn v),top',i+1,rfl,rfl,rfl,om,(by rw[aPh];omega),(Gx (fun y0 h0=>by have:=hB2 y0 h0;omega) om),(by rw[hI,Ce hx,hS];rfl),om⟩,sb⟩));refine Jz 17 ?_;have hm2:max (h.getD i 0) 0=m:=by rw[Bi hy,hm]
 have hJ:Bv h1 x v=some h1:=by rw[Bv,aPf (by simp[g117])]
 have hS:Cb h top i x=some (h1,top'):=by
  unfold Cb;simp only[hm2,←hh1,←hv2];rw[aPf hnf,hN];show((Bv h1 x v).map fun h3=>(h3,max (max top m) v))=_;rw[hJ,htop'];rfl
 refine Em [2,2,2,2] rfl (Jas [box b4 [.slice Ah h1.length qh] 57,rows Kw 3 1 Ah qh h1,ros Ins.cells A l,Fx] (by first|rfl|rw[aPh]<;>rfl) (Db ⟨⟨h1,top',i+1,rfl,rfl,rfl,om,om,hB2,(by rw[hI,Ce hx,hS];rfl),om⟩,sb⟩));refine Jz 13 ?_;refine Jfw [] [1,4,7,100,102,103,105,6,108,9,10] (af _) ?_;refine Jz 7 ?_;refine di rfl (Ev rfl rfl rfl om) ?_;refine Jz 1 ?_;refine di rfl (Im rfl rfl rfl om) ?_;refine Jz 4 ?_;refine gp ?_;obtain⟨v,hv⟩:∃z0,z0=((m-(Gs x))+((rowOf x.op).pushes)):=⟨_,rfl⟩
 rw[←hv];have hv2:v=aU m x:=by rw[hv,aU]
 have hvb:0≤v∧v≤i+1:=om;refine Jz 7 ?_;refine Jr (Vk rfl rfl rfl rfl) ?_;refine Jz 2 ?_;refine Jo [(0, .slice A l.length q),(2,iv (max (max top m) v)),(4,pv b4),(6, .func (.func 182) #[] #[pv b4]),(27, .slice A l.length q),(28,nv l.length),(29,nv i),(30, .bool (decide (((i:Nat):Int)<((l.length:Nat):Int)))),(8,pv b8),(7,nv i),(9,pv b9),(52, .bool true),(77, .bool false),(10,iv v)] sb (Jz 3 ?_);obtain⟨y2,hy2⟩:∃z0,h1[i+1]?=some z0:=⟨h1[i+1]'om,gge _⟩
 refine gp ?_;obtain⟨top',htop'⟩:∃z0,z0=(max (max top m) v):=⟨_,rfl⟩
 rw[←htop'];refine Jz 4 ?_;refine JgP ?_ ?_<;>intro g98;refine Jz 4 ?_;refine JgP ?_ ?_<;>intro g103;refine Jz 4 ?_;refine Jcl [2,2] rfl rfl rfl (dn (first:=[]) (captured:=[pv b4]) rfl rfl rfl (kc.h 182 rfl)) rfl (Iu b4 Ah qh h1 (i+1) v y2 hy2) ?_;rintro _ _ ⟨rfl,rfl⟩;refine Jz 4 ?_;refine Ej rfl ?_ ?_<;>intro c110;refine Jz 13 ?_;refine Eo (.inl rfl) results133 rfl rfl ?_;have hm2:max (h.getD i 0) 0=m:=by rw[Bi hy,hm]
 have hnf:¬(m<Gs x∨(((x.op:Nat):Int)=34∧m≠0)):=om;have hN:Fy h1 i x v=none:=by rw[Fy,aPr om,Bi hy2,aPf (by simpa using c110)]
 rw[Cs (by rw[hI,Ce hx,show Cb h top i x=none from(by unfold Cb;simp only[hm2,←hh1,←hv2];rw[aPf hnf,hN];rfl)];rfl)];refine Jz 3 ?_;have hnf:¬(m<Gs x∨(((x.op:Nat):Int)=34∧m≠0)):=om;refine gp ?_;obtain⟨h2,hh2⟩:∃z0,z0=(h1.set (i+1) v):=⟨_,rfl⟩
 rw[←hh2];have hlh2:h2.length=h1.length:=by rw[hh2];rw[aPh]
 rw[←hlh2];have hN:Fy h1 i x v=some h2:=by rw[Fy,aPr om,Bi hy2,aPr (by simpa using c110),hh2]
 have hB2:∀y0∈h2,(-1:Int)≤y0∧y0≤((i+1:Nat):Int):=by rw[hh2];exact Gx (fun y0 h0=>by have:=hB1 y0 h0;omega) om
 refine Jz 2 ?_;refine Jvf (Ml x) rfl (af _) ?_;refine Jz 8 ?_;refine gp ?_;obtain⟨tn,htn⟩:∃tn:Nat,(tgt x).getD 0=((tn:Nat):Int):=⟨((tgt x).getD 0).toNat,by omega⟩
 rw[htn];obtain⟨y3,hy3⟩:=bq h2 tn om;have htn2:((tgt x).getD 0).toNat=tn:=om;refine Jz 2 ?_;refine JgB ?_ ?_<;>intro g117;refine Jz 3 ?_;refine Jcl [0,0] rfl rfl rfl (dn (first:=[]) (captured:=[pv b4]) rfl rfl rfl (kc.h 182 rfl)) rfl (Iu b4 Ah qh h2 tn v y3 hy3) ?_;rintro _ _ ⟨rfl,rfl⟩;refine Jz 4 ?_;refine Ej rfl ?_ ?_<;>intro Hw;refine Jz 12 ?_;refine Eo (.inl rfl) results133 rfl rfl ?_;have hm2:max (h.getD i 0) 0=m:=by rw[Bi hy,hm]
 have hJ:Bv h2 x v=none:=by rw[Bv,aPr (by assumption),htn2,Bi hy3,aPf (by simpa using Hw)]
 rw[Cs (by rw[hI,Ce hx,show Cb h top i x=none from(by unfold Cb;simp only[hm2,←hh1,←hv2];rw[aPf hnf,hN];simp[hJ])];rfl)];refine Jz 8 ?_;have hm2:max (h.getD i 0) 0=m:=by rw[Bi hy,hm]
 have hJ:Bv h2 x v=some (h2.set tn v):=by rw[Bv,aPr (by assumption),htn2,Bi hy3,aPr (by simpa using Hw)]
 have hS:Cb h top i x=some ((h2.set tn v),top'):=by
  unfold Cb;simp only[hm2,←hh1,←hv2];rw[aPf hnf,hN];show((Bv h2 x v).map fun h3=>(h3,max (max top m) v))=_;rw[hJ,htop'];rfl
 refine Em [0,0,2,2] rfl (Jas [box b4 [.slice Ah (h2.set tn v).length qh] 57,rows Kw 3 1 Ah qh (h2.set tn v),ros Ins.cells A l,Fx] (by first|rfl|rw[aPh]<;>rfl) (Db ⟨⟨(h2.set tn v),top',i+1,rfl,rfl,rfl,om,(by rw[aPh];omega),(Gx (fun y0 h0=>by have:=hB2 y0 h0;omega) om),(by rw[hI,Ce hx,hS];rfl),om⟩,sb⟩));refine Jz 17 ?_;have hm2:max (h.getD i 0) 0=m:=by rw[Bi hy,hm]
 have hJ:Bv h2 x v=some h2:=by rw[Bv,aPf (by simp[g117])]
 have hS:Cb h top i x=some (h2,top'):=by
  unfold Cb;simp only[hm2,←hh1,←hv2];rw[aPf hnf,hN];show((Bv h2 x v).map fun h3=>(h3,max (max top m) v))=_;rw[hJ,htop'];rfl
 refine Em [0,0,2,2] rfl (Jas [box b4 [.slice Ah h2.length qh] 57,rows Kw 3 1 Ah qh h2,ros Ins.cells A l,Fx] (by first|rfl|rw[aPh]<;>rfl) (Db ⟨⟨h2,top',i+1,rfl,rfl,rfl,om,om,hB2,(by rw[hI,Ce hx,hS];rfl),om⟩,sb⟩));refine Jz 13 ?_;have hnf:¬(m<Gs x∨(((x.op:Nat):Int)=34∧m≠0)):=om;have hN:Fy h1 i x v=some h1:=by rw[Fy,aPf om]
 have hB2:∀y0∈h1,(-1:Int)≤y0∧y0≤((i+1:Nat):Int):=fun y0 h0=>by have:=hB1 y0 h0;omega
 refine Jz 2 ?_;refine Jvf (Ml x) rfl (af _) ?_;refine Jz 8 ?_;refine gp ?_;obtain⟨tn,htn⟩:∃tn:Nat,(tgt x).getD 0=((tn:Nat):Int):=⟨((tgt x).getD 0).toNat,by omega⟩
 rw[htn];obtain⟨y3,hy3⟩:=bq h1 tn om;have htn2:((tgt x).getD 0).toNat=tn:=om;refine Jz 2 ?_;refine JgB ?_ ?_<;>intro g117;refine Jz 3 ?_;refine Jcl [2,2] rfl rfl rfl (dn (first:=[]) (captured:=[pv b4]) rfl rfl rfl (kc.h 182 rfl)) rfl (Iu b4 Ah qh h1 tn v y3 hy3) ?_;rintro _ _ ⟨rfl,rfl⟩;refine Jz 4 ?_;refine Ej rfl ?_ ?_<;>intro Hw;refine Jz 12 ?_;refine Eo (.inl rfl) results133 rfl rfl ?_;have hm2:max (h.getD i 0) 0=m:=by rw[Bi hy,hm]
 have hJ:Bv h1 x v=none:=by rw[Bv,aPr (by assumption),htn2,Bi hy3,aPf (by simpa using Hw)]
 rw[Cs (by rw[hI,Ce hx,show Cb h top i x=none from(by unfold Cb;simp only[hm2,←hh1,←hv2];rw[aPf hnf,hN];simp[hJ])];rfl)];refine Jz 8 ?_;have hm2:max (h.getD i 0) 0=m:=by rw[Bi hy,hm]
 have hJ:Bv h1 x v=some (h1.set tn v):=by rw[Bv,aPr (by assumption),htn2,Bi hy3,aPr (by simpa using Hw)]
 have hS:Cb h top i x=some ((h1.set tn v),top'):=by
  unfold Cb;simp only[hm2,←hh1,←hv2];rw[aPf hnf,hN];show((Bv h1 x v).map fun h3=>(h3,max (max top m) v))=_;rw[hJ,htop'];rfl
 refine Em [0,0,2,2] rfl (Jas [box b4 [.slice Ah (h1.set tn v).length qh] 57,rows Kw 3 1 Ah qh (h1.set tn v),ros Ins.cells A l,Fx] (by first|rfl|rw[aPh]<;>rfl) (Db ⟨⟨(h1.set tn v),top',i+1,rfl,rfl,rfl,om,(by rw[aPh];omega),(Gx (fun y0 h0=>by have:=hB2 y0 h0;omega) om),(by rw[hI,Ce hx,hS];rfl),om⟩,sb⟩));refine Jz 17 ?_;have hm2:max (h.getD i 0) 0=m:=by rw[Bi hy,hm]
 have hJ:Bv h1 x v=some h1:=by rw[Bv,aPf (by simp[g117])]
 have hS:Cb h top i x=some (h1,top'):=by
  unfold Cb;simp only[hm2,←hh1,←hv2];rw[aPf hnf,hN];show((Bv h1 x v).map fun h3=>(h3,max (max top m) v))=_;rw[hJ,htop'];rfl
 refine Em [2,2,2,2] rfl (Jas [box b4 [.slice Ah h1.length qh] 57,rows Kw 3 1 Ah qh h1,ros Ins.cells A l,Fx] (by first|rfl|rw[aPh]<;>rfl) (Db ⟨⟨h1,top',i+1,rfl,rfl,rfl,om,om,hB2,(by rw[hI,Ce hx,hS];rfl),om⟩,sb⟩));refine Jz 18 ?_;have hnf:¬(m<Gs x∨(((x.op:Nat):Int)=34∧m≠0)):=om;have hN:Fy h1 i x v=some h1:=by rw[Fy,aPf om]
 have hB2:∀y0∈h1,(-1:Int)≤y0∧y0≤((i+1:Nat):Int):=fun y0 h0=>by have:=hB1 y0 h0;omega
 refine Jz 2 ?_;refine Jvf (Ml x) rfl (af _) ?_;refine Jz 8 ?_;refine gp ?_;obtain⟨tn,htn⟩:∃tn:Nat,(tgt x).getD 0=((tn:Nat):Int):=⟨((tgt x).getD 0).toNat,by omega⟩
 rw[htn];obtain⟨y3,hy3⟩:=bq h1 tn om;have htn2:((tgt x).getD 0).toNat=tn:=om;refine Jz 2 ?_;refine JgB ?_ ?_<;>intro g117;refine Jz 3 ?_;refine Jcl [2,2] rfl rfl rfl (dn (first:=[]) (captured:=[pv b4]) rfl rfl rfl (kc.h 182 rfl)) rfl (Iu b4 Ah qh h1 tn v y3 hy3) ?_;rintro _ _ ⟨rfl,rfl⟩;refine Jz 4 ?_;refine Ej rfl ?_ ?_<;>intro Hw;refine Jz 12 ?_;refine Eo (.inl rfl) results133 rfl rfl ?_;have hm2:max (h.getD i 0) 0=m:=by rw[Bi hy,hm]
 have hJ:Bv h1 x v=none:=by rw[Bv,aPr (by assumption),htn2,Bi hy3,aPf (by simpa using Hw)]
 rw[Cs (by rw[hI,Ce hx,show Cb h top i x=none from(by unfold Cb;simp only[hm2,←hh1,←hv2];rw[aPf hnf,hN];simp[hJ])];rfl)];refine Jz 8 ?_;have hm2:max (h.getD i 0) 0=m:=by rw[Bi hy,hm]
 have hJ:Bv h1 x v=some (h1.set tn v):=by rw[Bv,aPr (by assumption),htn2,Bi hy3,aPr (by simpa using Hw)]
 have hS:Cb h top i x=some ((h1.set tn v),top'):=by
  unfold Cb;simp only[hm2,←hh1,←hv2];rw[aPf hnf,hN];show((Bv h1 x v).map fun h3=>(h3,max (max top m) v))=_;rw[hJ,htop'];rfl
 refine Em [0,0,2,2] rfl (Jas [box b4 [.slice Ah (h1.set tn v).length qh] 57,rows Kw 3 1 Ah qh (h1.set tn v),ros Ins.cells A l,Fx] (by first|rfl|rw[aPh]<;>rfl) (Db ⟨⟨(h1.set tn v),top',i+1,rfl,rfl,rfl,om,(by rw[aPh];omega),(Gx (fun y0 h0=>by have:=hB2 y0 h0;omega) om),(by rw[hI,Ce hx,hS];rfl),om⟩,sb⟩));refine Jz 17 ?_;have hm2:max (h.getD i 0) 0=m:=by rw[Bi hy,hm]
 have hJ:Bv h1 x v=some h1:=by rw[Bv,aPf (by simp[g117])]
 have hS:Cb h top i x=some (h1,top'):=by
  unfold Cb;simp only[hm2,←hh1,←hv2];rw[aPf hnf,hN];show((Bv h1 x v).map fun h3=>(h3,max (max top m) v))=_;rw[hJ,htop'];rfl
 refine Em [2,2,2,2] rfl (Jas [box b4 [.slice Ah h1.length qh] 57,rows Kw 3 1 Ah qh h1,ros Ins.cells A l,Fx] (by first|rfl|rw[aPh]<;>rfl) (Db ⟨⟨h1,top',i+1,rfl,rfl,rfl,om,om,hB2,(by rw[hI,Ce hx,hS];rfl),om⟩,sb⟩));refine Jz 6 ?_;refine ax rfl ?_ ?_<;>intro c52;refine Jz 5 ?_;refine Jr (Im rfl rfl rfl om) ?_;refine Jz 6 ?_;have hpn:((rowOf x.op).pops)+x.n=Gs x:=by unfold Gs;rw[aPr om]
 refine gp ?_;dsimp only[Rw.cells];rw[hpn];have hpb2:0≤Gs x∧Gs x≤6:=om;refine Jfw [] [1,4,100,102,103,105,6,7,8,109,10,11,13,112,114,115,16,17,18] (af _) ?_;refine Jz 7 ?_;refine Xo rfl rfl rfl rfl (dz rfl rfl) (fun g66=>?_) (fun g66=>?_);refine Jz 27 ?_;refine Eo (.inl rfl) results133 rfl rfl ?_;have hm2:max (h.getD i 0) 0=m:=by rw[Bi hy,hm]
 rw[Cs (by rw[hI,Ce hx,show Cb h top i x=none from(by unfold Cb;simp only[hm2];rw[aPr om])];rfl)];refine Jz 3 ?_;refine Xo rfl rfl rfl rfl (dz rfl rfl) (fun g70=>?_) (fun g70=>?_);refine Jz 9 ?_;refine ax rfl ?_ ?_<;>intro c77;refine Jz 13 ?_;refine Eo (.inl rfl) results133 rfl rfl ?_;have hm2:max (h.getD i 0) 0=m:=by rw[Bi hy,hm]
 rw[Cs (by rw[hI,Ce hx,show Cb h top i x=none from(by unfold Cb;simp only[hm2];rw[aPr om])];rfl)];refine Jz 3 ?_;refine Jfw [] [1,4,7,100,102,103,105,6,108,9,10] (af _) ?_;refine Jz 7 ?_;refine di rfl (Ev rfl rfl rfl om) ?_;refine Jz 1 ?_;refine di rfl (Im rfl rfl rfl om) ?_;refine Jz 4 ?_;refine gp ?_;obtain⟨v,hv⟩:∃z0,z0=((m-(Gs x))+((rowOf x.op).pushes)):=⟨_,rfl⟩
 rw[←hv];have hv2:v=aU m x:=by rw[hv,aU]
 have hvb:0≤v∧v≤i+1:=om;refine Jz 7 ?_;refine Jr (Vk rfl rfl rfl rfl) ?_;refine Jz 2 ?_;refine Jo [(0, .slice A l.length q),(2,iv (max (max top m) v)),(4,pv b4),(6, .func (.func 182) #[] #[pv b4]),(27, .slice A l.length q),(28,nv l.length),(29,nv i),(30, .bool (decide (((i:Nat):Int)<((l.length:Nat):Int)))),(8,pv b8),(7,nv i),(9,pv b9),(52, .bool (decide (((x.op:Nat):Int)=31))),(77, .bool (decide (m≠0))),(10,iv v)] sb (Jz 3 ?_);obtain⟨y2,hy2⟩:∃z0,h1[i+1]?=some z0:=⟨h1[i+1]'om,gge _⟩
 refine gp ?_;obtain⟨top',htop'⟩:∃z0,z0=(max (max top m) v):=⟨_,rfl⟩
 rw[←htop'];refine Jz 4 ?_;refine JgP ?_ ?_<;>intro g98;refine Jz 4 ?_;refine JgP ?_ ?_<;>intro g103;refine Jz 4 ?_;refine Jcl [2,2] rfl rfl rfl (dn (first:=[]) (captured:=[pv b4]) rfl rfl rfl (kc.h 182 rfl)) rfl (Iu b4 Ah qh h1 (i+1) v y2 hy2) ?_;rintro _ _ ⟨rfl,rfl⟩;refine Jz 4 ?_;refine Ej rfl ?_ ?_<;>intro c110;refine Jz 13 ?_;refine Eo (.inl rfl) results133 rfl rfl ?_;have hm2:max (h.getD i 0) 0=m:=by rw[Bi hy,hm]
 have hnf:¬(m<Gs x∨(((x.op:Nat):Int)=34∧m≠0)):=om;have hN:Fy h1 i x v=none:=by rw[Fy,aPr om,Bi hy2,aPf (by simpa using c110)]
 rw[Cs (by rw[hI,Ce hx,show Cb h top i x=none from(by unfold Cb;simp only[hm2,←hh1,←hv2];rw[aPf hnf,hN];rfl)];rfl)];refine Jz 3 ?_;have hnf:¬(m<Gs x∨(((x.op:Nat):Int)=34∧m≠0)):=om;refine gp ?_;obtain⟨h2,hh2⟩:∃z0,z0=(h1.set (i+1) v):=⟨_,rfl⟩
 rw[←hh2];have hlh2:h2.length=h1.length:=by rw[hh2];rw[aPh]
 rw[←hlh2];have hN:Fy h1 i x v=some h2:=by rw[Fy,aPr om,Bi hy2,aPr (by simpa using c110),hh2]
 have hB2:∀y0∈h2,(-1:Int)≤y0∧y0≤((i+1:Nat):Int):=by rw[hh2];exact Gx (fun y0 h0=>by have:=hB1 y0 h0;omega) om
 refine Jz 2 ?_;refine Jvf (Ml x) rfl (af _) ?_;refine Jz 8 ?_;refine gp ?_;obtain⟨tn,htn⟩:∃tn:Nat,(tgt x).getD 0=((tn:Nat):Int):=⟨((tgt x).getD 0).toNat,by omega⟩
 rw[htn];obtain⟨y3,hy3⟩:=bq h2 tn om;have htn2:((tgt x).getD 0).toNat=tn:=om;refine Jz 2 ?_;refine JgB ?_ ?_<;>intro g117;refine Jz 3 ?_;refine Jcl [0,0] rfl rfl rfl (dn (first:=[]) (captured:=[pv b4]) rfl rfl rfl (kc.h 182 rfl)) rfl (Iu b4 Ah qh h2 tn v y3 hy3) ?_;rintro _ _ ⟨rfl,rfl⟩;refine Jz 4 ?_;refine Ej rfl ?_ ?_<;>intro Hw;refine Jz 12 ?_;refine Eo (.inl rfl) results133 rfl rfl ?_;have hm2:max (h.getD i 0) 0=m:=by rw[Bi hy,hm]
 have hJ:Bv h2 x v=none:=by rw[Bv,aPr (by assumption),htn2,Bi hy3,aPf (by simpa using Hw)]
 rw[Cs (by rw[hI,Ce hx,show Cb h top i x=none from(by unfold Cb;simp only[hm2,←hh1,←hv2];rw[aPf hnf,hN];simp[hJ])];rfl)];refine Jz 8 ?_;have hm2:max (h.getD i 0) 0=m:=by rw[Bi hy,hm]
 have hJ:Bv h2 x v=some (h2.set tn v):=by rw[Bv,aPr (by assumption),htn2,Bi hy3,aPr (by simpa using Hw)]
 have hS:Cb h top i x=some ((h2.set tn v),top'):=by
  unfold Cb;simp only[hm2,←hh1,←hv2];rw[aPf hnf,hN];show((Bv h2 x v).map fun h3=>(h3,max (max top m) v))=_;rw[hJ,htop'];rfl
 refine Em [0,0,2,2] rfl (Jas [box b4 [.slice Ah (h2.set tn v).length qh] 57,rows Kw 3 1 Ah qh (h2.set tn v),ros Ins.cells A l,Fx] (by first|rfl|rw[aPh]<;>rfl) (Db ⟨⟨(h2.set tn v),top',i+1,rfl,rfl,rfl,om,(by rw[aPh];omega),(Gx (fun y0 h0=>by have:=hB2 y0 h0;omega) om),(by rw[hI,Ce hx,hS];rfl),om⟩,sb⟩));refine Jz 17 ?_;have hm2:max (h.getD i 0) 0=m:=by rw[Bi hy,hm]
 have hJ:Bv h2 x v=some h2:=by rw[Bv,aPf (by simp[g117])]
 have hS:Cb h top i x=some (h2,top'):=by
  unfold Cb;simp only[hm2,←hh1,←hv2];rw[aPf hnf,hN];show((Bv h2 x v).map fun h3=>(h3,max (max top m) v))=_;rw[hJ,htop'];rfl
 refine Em [0,0,2,2] rfl (Jas [box b4 [.slice Ah h2.length qh] 57,rows Kw 3 1 Ah qh h2,ros Ins.cells A l,Fx] (by first|rfl|rw[aPh]<;>rfl) (Db ⟨⟨h2,top',i+1,rfl,rfl,rfl,om,om,hB2,(by rw[hI,Ce hx,hS];rfl),om⟩,sb⟩));refine Jz 13 ?_;have hnf:¬(m<Gs x∨(((x.op:Nat):Int)=34∧m≠0)):=om;have hN:Fy h1 i x v=some h1:=by rw[Fy,aPf om]
 have hB2:∀y0∈h1,(-1:Int)≤y0∧y0≤((i+1:Nat):Int):=fun y0 h0=>by have:=hB1 y0 h0;omega
 refine Jz 2 ?_;refine Jvf (Ml x) rfl (af _) ?_;refine Jz 8 ?_;refine gp ?_;obtain⟨tn,htn⟩:∃tn:Nat,(tgt x).getD 0=((tn:Nat):Int):=⟨((tgt x).getD 0).toNat,by omega⟩
 rw[htn];obtain⟨y3,hy3⟩:=bq h1 tn om;have htn2:((tgt x).getD 0).toNat=tn:=om;refine Jz 2 ?_;refine JgB ?_ ?_<;>intro g117;refine Jz 3 ?_;refine Jcl [2,2] rfl rfl rfl (dn (first:=[]) (captured:=[pv b4]) rfl rfl rfl (kc.h 182 rfl)) rfl (Iu b4 Ah qh h1 tn v y3 hy3) ?_;rintro _ _ ⟨rfl,rfl⟩;refine Jz 4 ?_;refine Ej rfl ?_ ?_<;>intro Hw;refine Jz 12 ?_;refine Eo (.inl rfl) results133 rfl rfl ?_;have hm2:max (h.getD i 0) 0=m:=by rw[Bi hy,hm]
 have hJ:Bv h1 x v=none:=by rw[Bv,aPr (by assumption),htn2,Bi hy3,aPf (by simpa using Hw)]
 rw[Cs (by rw[hI,Ce hx,show Cb h top i x=none from(by unfold Cb;simp only[hm2,←hh1,←hv2];rw[aPf hnf,hN];simp[hJ])];rfl)];refine Jz 8 ?_;have hm2:max (h.getD i 0) 0=m:=by rw[Bi hy,hm]
 have hJ:Bv h1 x v=some (h1.set tn v):=by rw[Bv,aPr (by assumption),htn2,Bi hy3,aPr (by simpa using Hw)]
 have hS:Cb h top i x=some ((h1.set tn v),top'):=by
  unfold Cb;simp only[hm2,←hh1,←hv2];rw[aPf hnf,hN];show((Bv h1 x v).map fun h3=>(h3,max (max top m) v))=_;rw[hJ,htop'];rfl
 refine Em [0,0,2,2] rfl (Jas [box b4 [.slice Ah (h1.set tn v).length qh] 57,rows Kw 3 1 Ah qh (h1.set tn v),ros Ins.cells A l,Fx] (by first|rfl|rw[aPh]<;>rfl) (Db ⟨⟨(h1.set tn v),top',i+1,rfl,rfl,rfl,om,(by rw[aPh];omega),(Gx (fun y0 h0=>by have:=hB2 y0 h0;omega) om),(by rw[hI,Ce hx,hS];rfl),om⟩,sb⟩));refine Jz 17 ?_;have hm2:max (h.getD i 0) 0=m:=by rw[Bi hy,hm]
 have hJ:Bv h1 x v=some h1:=by rw[Bv,aPf (by simp[g117])]
 have hS:Cb h top i x=some (h1,top'):=by
  unfold Cb;simp only[hm2,←hh1,←hv2];rw[aPf hnf,hN];show((Bv h1 x v).map fun h3=>(h3,max (max top m) v))=_;rw[hJ,htop'];rfl
 refine Em [2,2,2,2] rfl (Jas [box b4 [.slice Ah h1.length qh] 57,rows Kw 3 1 Ah qh h1,ros Ins.cells A l,Fx] (by first|rfl|rw[aPh]<;>rfl) (Db ⟨⟨h1,top',i+1,rfl,rfl,rfl,om,om,hB2,(by rw[hI,Ce hx,hS];rfl),om⟩,sb⟩));refine Jz 18 ?_;have hnf:¬(m<Gs x∨(((x.op:Nat):Int)=34∧m≠0)):=om;have hN:Fy h1 i x v=some h1:=by rw[Fy,aPf om]
 have hB2:∀y0∈h1,(-1:Int)≤y0∧y0≤((i+1:Nat):Int):=fun y0 h0=>by have:=hB1 y0 h0;omega
 refine Jz 2 ?_;refine Jvf (Ml x) rfl (af _) ?_;refine Jz 8 ?_;refine gp ?_;obtain⟨tn,htn⟩:∃tn:Nat,(tgt x).getD 0=((tn:Nat):Int):=⟨((tgt x).getD 0).toNat,by omega⟩
 rw[htn];obtain⟨y3,hy3⟩:=bq h1 tn om;have htn2:((tgt x).getD 0).toNat=tn:=om;refine Jz 2 ?_;refine JgB ?_ ?_<;>intro g117;refine Jz 3 ?_;refine Jcl [2,2] rfl rfl rfl (dn (first:=[]) (captured:=[pv b4]) rfl rfl rfl (kc.h 182 rfl)) rfl (Iu b4 Ah qh h1 tn v y3 hy3) ?_;rintro _ _ ⟨rfl,rfl⟩;refine Jz 4 ?_;refine Ej rfl ?_ ?_<;>intro Hw;refine Jz 12 ?_;refine Eo (.inl rfl) results133 rfl rfl ?_;have hm2:max (h.getD i 0) 0=m:=by rw[Bi hy,hm]
 have hJ:Bv h1 x v=none:=by rw[Bv,aPr (by assumption),htn2,Bi hy3,aPf (by simpa using Hw)]
 rw[Cs (by rw[hI,Ce hx,show Cb h top i x=none from(by unfold Cb;simp only[hm2,←hh1,←hv2];rw[aPf hnf,hN];simp[hJ])];rfl)];refine Jz 8 ?_;have hm2:max (h.getD i 0) 0=m:=by rw[Bi hy,hm]
 have hJ:Bv h1 x v=some (h1.set tn v):=by rw[Bv,aPr (by assumption),htn2,Bi hy3,aPr (by simpa using Hw)]
 have hS:Cb h top i x=some ((h1.set tn v),top'):=by
  unfold Cb;simp only[hm2,←hh1,←hv2];rw[aPf hnf,hN];show((Bv h1 x v).map fun h3=>(h3,max (max top m) v))=_;rw[hJ,htop'];rfl
 refine Em [0,0,2,2] rfl (Jas [box b4 [.slice Ah (h1.set tn v).length qh] 57,rows Kw 3 1 Ah qh (h1.set tn v),ros Ins.cells A l,Fx] (by first|rfl|rw[aPh]<;>rfl) (Db ⟨⟨(h1.set tn v),top',i+1,rfl,rfl,rfl,om,(by rw[aPh];omega),(Gx (fun y0 h0=>by have:=hB2 y0 h0;omega) om),(by rw[hI,Ce hx,hS];rfl),om⟩,sb⟩));refine Jz 17 ?_;have hm2:max (h.getD i 0) 0=m:=by rw[Bi hy,hm]
 have hJ:Bv h1 x v=some h1:=by rw[Bv,aPf (by simp[g117])]
 have hS:Cb h top i x=some (h1,top'):=by
  unfold Cb;simp only[hm2,←hh1,←hv2];rw[aPf hnf,hN];show((Bv h1 x v).map fun h3=>(h3,max (max top m) v))=_;rw[hJ,htop'];rfl
 refine Em [2,2,2,2] rfl (Jas [box b4 [.slice Ah h1.length qh] 57,rows Kw 3 1 Ah qh h1,ros Ins.cells A l,Fx] (by first|rfl|rw[aPh]<;>rfl) (Db ⟨⟨h1,top',i+1,rfl,rfl,rfl,om,om,hB2,(by rw[hI,Ce hx,hS];rfl),om⟩,sb⟩));refine Jz 13 ?_;refine Jfw [] [1,4,7,100,102,103,105,6,108,9,10] (af _) ?_;refine Jz 7 ?_;refine di rfl (Ev rfl rfl rfl om) ?_;refine Jz 1 ?_;refine di rfl (Im rfl rfl rfl om) ?_;refine Jz 4 ?_;refine gp ?_;obtain⟨v,hv⟩:∃z0,z0=((m-(Gs x))+((rowOf x.op).pushes)):=⟨_,rfl⟩
 rw[←hv];have hv2:v=aU m x:=by rw[hv,aU]
 have hvb:0≤v∧v≤i+1:=om;refine Jz 7 ?_;refine Jr (Vk rfl rfl rfl rfl) ?_;refine Jz 2 ?_;refine Jo [(0, .slice A l.length q),(2,iv (max (max top m) v)),(4,pv b4),(6, .func (.func 182) #[] #[pv b4]),(27, .slice A l.length q),(28,nv l.length),(29,nv i),(30, .bool (decide (((i:Nat):Int)<((l.length:Nat):Int)))),(8,pv b8),(7,nv i),(9,pv b9),(52, .bool (decide (((x.op:Nat):Int)=31))),(77, .bool false),(10,iv v)] sb (Jz 3 ?_);obtain⟨y2,hy2⟩:∃z0,h1[i+1]?=some z0:=⟨h1[i+1]'om,gge _⟩
 refine gp ?_;obtain⟨top',htop'⟩:∃z0,z0=(max (max top m) v):=⟨_,rfl⟩
 rw[←htop'];refine Jz 4 ?_;refine JgP ?_ ?_<;>intro g98;refine Jz 4 ?_;refine JgP ?_ ?_<;>intro g103;refine Jz 4 ?_;refine Jcl [2,2] rfl rfl rfl (dn (first:=[]) (captured:=[pv b4]) rfl rfl rfl (kc.h 182 rfl)) rfl (Iu b4 Ah qh h1 (i+1) v y2 hy2) ?_;rintro _ _ ⟨rfl,rfl⟩;refine Jz 4 ?_;refine Ej rfl ?_ ?_<;>intro c110;refine Jz 13 ?_;refine Eo (.inl rfl) results133 rfl rfl ?_;have hm2:max (h.getD i 0) 0=m:=by rw[Bi hy,hm]
 have hnf:¬(m<Gs x∨(((x.op:Nat):Int)=34∧m≠0)):=om;have hN:Fy h1 i x v=none:=by rw[Fy,aPr om,Bi hy2,aPf (by simpa using c110)]
 rw[Cs (by rw[hI,Ce hx,show Cb h top i x=none from(by unfold Cb;simp only[hm2,←hh1,←hv2];rw[aPf hnf,hN];rfl)];rfl)];refine Jz 3 ?_;have hnf:¬(m<Gs x∨(((x.op:Nat):Int)=34∧m≠0)):=om;refine gp ?_;obtain⟨h2,hh2⟩:∃z0,z0=(h1.set (i+1) v):=⟨_,rfl⟩
 rw[←hh2];have hlh2:h2.length=h1.length:=by rw[hh2];rw[aPh]
 rw[←hlh2];have hN:Fy h1 i x v=some h2:=by rw[Fy,aPr om,Bi hy2,aPr (by simpa using c110),hh2]
 have hB2:∀y0∈h2,(-1:Int)≤y0∧y0≤((i+1:Nat):Int):=by rw[hh2];exact Gx (fun y0 h0=>by have:=hB1 y0 h0;omega) om
 refine Jz 2 ?_;refine Jvf (Ml x) rfl (af _) ?_;refine Jz 8 ?_;refine gp ?_;obtain⟨tn,htn⟩:∃tn:Nat,(tgt x).getD 0=((tn:Nat):Int):=⟨((tgt x).getD 0).toNat,by omega⟩
 rw[htn];obtain⟨y3,hy3⟩:=bq h2 tn om;have htn2:((tgt x).getD 0).toNat=tn:=om;refine Jz 2 ?_;refine JgB ?_ ?_<;>intro g117;refine Jz 3 ?_;refine Jcl [0,0] rfl rfl rfl (dn (first:=[]) (captured:=[pv b4]) rfl rfl rfl (kc.h 182 rfl)) rfl (Iu b4 Ah qh h2 tn v y3 hy3) ?_;rintro _ _ ⟨rfl,rfl⟩;refine Jz 4 ?_;refine Ej rfl ?_ ?_<;>intro Hw;refine Jz 12 ?_;refine Eo (.inl rfl) results133 rfl rfl ?_;have hm2:max (h.getD i 0) 0=m:=by rw[Bi hy,hm]
 have hJ:Bv h2 x v=none:=by rw[Bv,aPr (by assumption),htn2,Bi hy3,aPf (by simpa using Hw)]
 rw[Cs (by rw[hI,Ce hx,show Cb h top i x=none from(by unfold Cb;simp only[hm2,←hh1,←hv2];rw[aPf hnf,hN];simp[hJ])];rfl)];refine Jz 8 ?_;have hm2:max (h.getD i 0) 0=m:=by rw[Bi hy,hm]
 have hJ:Bv h2 x v=some (h2.set tn v):=by rw[Bv,aPr (by assumption),htn2,Bi hy3,aPr (by simpa using Hw)]
 have hS:Cb h top i x=some ((h2.set tn v),top'):=by
  unfold Cb;simp only[hm2,←hh1,←hv2];rw[aPf hnf,hN];show((Bv h2 x v).map fun h3=>(h3,max (max top m) v))=_;rw[hJ,htop'];rfl
 refine Em [0,0,2,2] rfl (Jas [box b4 [.slice Ah (h2.set tn v).length qh] 57,rows Kw 3 1 Ah qh (h2.set tn v),ros Ins.cells A l,Fx] (by first|rfl|rw[aPh]<;>rfl) (Db ⟨⟨(h2.set tn v),top',i+1,rfl,rfl,rfl,om,(by rw[aPh];omega),(Gx (fun y0 h0=>by have:=hB2 y0 h0;omega) om),(by rw[hI,Ce hx,hS];rfl),om⟩,sb⟩));refine Jz 17 ?_;have hm2:max (h.getD i 0) 0=m:=by rw[Bi hy,hm]
 have hJ:Bv h2 x v=some h2:=by rw[Bv,aPf (by simp[g117])]
 have hS:Cb h top i x=some (h2,top'):=by
  unfold Cb;simp only[hm2,←hh1,←hv2];rw[aPf hnf,hN];show((Bv h2 x v).map fun h3=>(h3,max (max top m) v))=_;rw[hJ,htop'];rfl
 refine Em [0,0,2,2] rfl (Jas [box b4 [.slice Ah h2.length qh] 57,rows Kw 3 1 Ah qh h2,ros Ins.cells A l,Fx] (by first|rfl|rw[aPh]<;>rfl) (Db ⟨⟨h2,top',i+1,rfl,rfl,rfl,om,om,hB2,(by rw[hI,Ce hx,hS];rfl),om⟩,sb⟩));refine Jz 13 ?_;have hnf:¬(m<Gs x∨(((x.op:Nat):Int)=34∧m≠0)):=om;have hN:Fy h1 i x v=some h1:=by rw[Fy,aPf om]
 have hB2:∀y0∈h1,(-1:Int)≤y0∧y0≤((i+1:Nat):Int):=fun y0 h0=>by have:=hB1 y0 h0;omega
 refine Jz 2 ?_;refine Jvf (Ml x) rfl (af _) ?_;refine Jz 8 ?_;refine gp ?_;obtain⟨tn,htn⟩:∃tn:Nat,(tgt x).getD 0=((tn:Nat):Int):=⟨((tgt x).getD 0).toNat,by omega⟩
 rw[htn];obtain⟨y3,hy3⟩:=bq h1 tn om;have htn2:((tgt x).getD 0).toNat=tn:=om;refine Jz 2 ?_;refine JgB ?_ ?_<;>intro g117;refine Jz 3 ?_;refine Jcl [2,2] rfl rfl rfl (dn (first:=[]) (captured:=[pv b4]) rfl rfl rfl (kc.h 182 rfl)) rfl (Iu b4 Ah qh h1 tn v y3 hy3) ?_;rintro _ _ ⟨rfl,rfl⟩;refine Jz 4 ?_;refine Ej rfl ?_ ?_<;>intro Hw;refine Jz 12 ?_;refine Eo (.inl rfl) results133 rfl rfl ?_;have hm2:max (h.getD i 0) 0=m:=by rw[Bi hy,hm]
 have hJ:Bv h1 x v=none:=by rw[Bv,aPr (by assumption),htn2,Bi hy3,aPf (by simpa using Hw)]
 rw[Cs (by rw[hI,Ce hx,show Cb h top i x=none from(by unfold Cb;simp only[hm2,←hh1,←hv2];rw[aPf hnf,hN];simp[hJ])];rfl)];refine Jz 8 ?_;have hm2:max (h.getD i 0) 0=m:=by rw[Bi hy,hm]
 have hJ:Bv h1 x v=some (h1.set tn v):=by rw[Bv,aPr (by assumption),htn2,Bi hy3,aPr (by simpa using Hw)]
 have hS:Cb h top i x=some ((h1.set tn v),top'):=by
  unfold Cb;simp only[hm2,←hh1,←hv2];rw[aPf hnf,hN];show((Bv h1 x v).map fun h3=>(h3,max (max top m) v))=_;rw[hJ,htop'];rfl
 refine Em [0,0,2,2] rfl (Jas [box b4 [.slice Ah (h1.set tn v).length qh] 57,rows Kw 3 1 Ah qh (h1.set tn v),ros Ins.cells A l,Fx] (by first|rfl|rw[aPh]<;>rfl) (Db ⟨⟨(h1.set tn v),top',i+1,rfl,rfl,rfl,om,(by rw[aPh];omega),(Gx (fun y0 h0=>by have:=hB2 y0 h0;omega) om),(by rw[hI,Ce hx,hS];rfl),om⟩,sb⟩));refine Jz 17 ?_;have hm2:max (h.getD i 0) 0=m:=by rw[Bi hy,hm]
 have hJ:Bv h1 x v=some h1:=by rw[Bv,aPf (by simp[g117])]
 have hS:Cb h top i x=some (h1,top'):=by
  unfold Cb;simp only[hm2,←hh1,←hv2];rw[aPf hnf,hN];show((Bv h1 x v).map fun h3=>(h3,max (max top m) v))=_;rw[hJ,htop'];rfl
 refine Em [2,2,2,2] rfl (Jas [box b4 [.slice Ah h1.length qh] 57,rows Kw 3 1 Ah qh h1,ros Ins.cells A l,Fx] (by first|rfl|rw[aPh]<;>rfl) (Db ⟨⟨h1,top',i+1,rfl,rfl,rfl,om,om,hB2,(by rw[hI,Ce hx,hS];rfl),om⟩,sb⟩));refine Jz 18 ?_;have hnf:¬(m<Gs x∨(((x.op:Nat):Int)=34∧m≠0)):=om;have hN:Fy h1 i x v=some h1:=by rw[Fy,aPf om]
 have hB2:∀y0∈h1,(-1:Int)≤y0∧y0≤((i+1:Nat):Int):=fun y0 h0=>by have:=hB1 y0 h0;omega
 refine Jz 2 ?_;refine Jvf (Ml x) rfl (af _) ?_;refine Jz 8 ?_;refine gp ?_;obtain⟨tn,htn⟩:∃tn:Nat,(tgt x).getD 0=((tn:Nat):Int):=⟨((tgt x).getD 0).toNat,by omega⟩
 rw[htn];obtain⟨y3,hy3⟩:=bq h1 tn om;have htn2:((tgt x).getD 0).toNat=tn:=om;refine Jz 2 ?_;refine JgB ?_ ?_<;>intro g117;refine Jz 3 ?_;refine Jcl [2,2] rfl rfl rfl (dn (first:=[]) (captured:=[pv b4]) rfl rfl rfl (kc.h 182 rfl)) rfl (Iu b4 Ah qh h1 tn v y3 hy3) ?_;rintro _ _ ⟨rfl,rfl⟩;refine Jz 4 ?_;refine Ej rfl ?_ ?_<;>intro Hw;refine Jz 12 ?_;refine Eo (.inl rfl) results133 rfl rfl ?_;have hm2:max (h.getD i 0) 0=m:=by rw[Bi hy,hm]
 have hJ:Bv h1 x v=none:=by rw[Bv,aPr (by assumption),htn2,Bi hy3,aPf (by simpa using Hw)]
 rw[Cs (by rw[hI,Ce hx,show Cb h top i x=none from(by unfold Cb;simp only[hm2,←hh1,←hv2];rw[aPf hnf,hN];simp[hJ])];rfl)];refine Jz 8 ?_;have hm2:max (h.getD i 0) 0=m:=by rw[Bi hy,hm]
 have hJ:Bv h1 x v=some (h1.set tn v):=by rw[Bv,aPr (by assumption),htn2,Bi hy3,aPr (by simpa using Hw)]
 have hS:Cb h top i x=some ((h1.set tn v),top'):=by
  unfold Cb;simp only[hm2,←hh1,←hv2];rw[aPf hnf,hN];show((Bv h1 x v).map fun h3=>(h3,max (max top m) v))=_;rw[hJ,htop'];rfl
 refine Em [0,0,2,2] rfl (Jas [box b4 [.slice Ah (h1.set tn v).length qh] 57,rows Kw 3 1 Ah qh (h1.set tn v),ros Ins.cells A l,Fx] (by first|rfl|rw[aPh]<;>rfl) (Db ⟨⟨(h1.set tn v),top',i+1,rfl,rfl,rfl,om,(by rw[aPh];omega),(Gx (fun y0 h0=>by have:=hB2 y0 h0;omega) om),(by rw[hI,Ce hx,hS];rfl),om⟩,sb⟩));refine Jz 17 ?_;have hm2:max (h.getD i 0) 0=m:=by rw[Bi hy,hm]
 have hJ:Bv h1 x v=some h1:=by rw[Bv,aPf (by simp[g117])]
 have hS:Cb h top i x=some (h1,top'):=by
  unfold Cb;simp only[hm2,←hh1,←hv2];rw[aPf hnf,hN];show((Bv h1 x v).map fun h3=>(h3,max (max top m) v))=_;rw[hJ,htop'];rfl
 refine Em [2,2,2,2] rfl (Jas [box b4 [.slice Ah h1.length qh] 57,rows Kw 3 1 Ah qh h1,ros Ins.cells A l,Fx] (by first|rfl|rw[aPh]<;>rfl) (Db ⟨⟨h1,top',i+1,rfl,rfl,rfl,om,om,hB2,(by rw[hI,Ce hx,hS];rfl),om⟩,sb⟩));refine Jz 4 ?_;have hpn:(rowOf x.op).pops=Gs x:=by unfold Gs;rw[aPf om]
 refine gp ?_;dsimp only[Rw.cells];rw[hpn];have hpb2:0≤Gs x∧Gs x≤6:=om;refine Jfw [] [1,4,100,102,103,105,6,7,8,109,10,11,13,112,114,115,16,17,18] (af _) ?_;refine Jz 7 ?_;refine Xo rfl rfl rfl rfl (dz rfl rfl) (fun g66=>?_) (fun g66=>?_);refine Jz 27 ?_;refine Eo (.inl rfl) results133 rfl rfl ?_;have hm2:max (h.getD i 0) 0=m:=by rw[Bi hy,hm]
 rw[Cs (by rw[hI,Ce hx,show Cb h top i x=none from(by unfold Cb;simp only[hm2];rw[aPr om])];rfl)];refine Jz 3 ?_;refine Xo rfl rfl rfl rfl (dz rfl rfl) (fun g70=>?_) (fun g70=>?_);refine Jz 9 ?_;refine ax rfl ?_ ?_<;>intro c77;refine Jz 13 ?_;refine Eo (.inl rfl) results133 rfl rfl ?_;have hm2:max (h.getD i 0) 0=m:=by rw[Bi hy,hm]
 rw[Cs (by rw[hI,Ce hx,show Cb h top i x=none from(by unfold Cb;simp only[hm2];rw[aPr om])];rfl)];refine Jz 3 ?_;refine Jfw [] [1,4,7,100,102,103,105,6,108,9,10] (af _) ?_;refine Jz 7 ?_;refine di rfl (Ev rfl rfl rfl om) ?_;refine Jz 1 ?_;refine di rfl (Im rfl rfl rfl om) ?_;refine Jz 4 ?_;refine gp ?_;obtain⟨v,hv⟩:∃z0,z0=((m-(Gs x))+((rowOf x.op).pushes)):=⟨_,rfl⟩
 rw[←hv];have hv2:v=aU m x:=by rw[hv,aU]
 have hvb:0≤v∧v≤i+1:=om;refine Jz 7 ?_;refine Jr (Vk rfl rfl rfl rfl) ?_;refine Jz 5 ?_;obtain⟨y2,hy2⟩:∃z0,h1[i+1]?=some z0:=⟨h1[i+1]'om,gge _⟩
 refine gp ?_;obtain⟨top',htop'⟩:∃z0,z0=(max (max top m) v):=⟨_,rfl⟩
 rw[←htop'];refine Jz 4 ?_;refine JgP ?_ ?_<;>intro g98;refine Jz 4 ?_;refine JgP ?_ ?_<;>intro g103;refine Jz 4 ?_;refine Jcl [2,2] rfl rfl rfl (dn (first:=[]) (captured:=[pv b4]) rfl rfl rfl (kc.h 182 rfl)) rfl (Iu b4 Ah qh h1 (i+1) v y2 hy2) ?_;rintro _ _ ⟨rfl,rfl⟩;refine Jz 3 ?_;refine Jo [(0, .slice A l.length q),(2,iv top'),(4,pv b4),(6, .func (.func 182) #[] #[pv b4]),(27, .slice A l.length q),(28,nv l.length),(29,nv i),(30, .bool (decide (((i:Nat):Int)<((l.length:Nat):Int)))),(8,pv b8),(7,nv i),(9,pv b9),(52, .bool (decide (((x.op:Nat):Int)=31))),(77, .bool (decide (m≠0))),(10,iv v),(110, .bool (!(decide (okH y2 v))))] sb (Jt (Ej rfl (fun c110=>?_) (fun c110=>?_)));refine Jz 13 ?_;refine Eo (.inl rfl) results133 rfl rfl ?_;have hm2:max (h.getD i 0) 0=m:=by rw[Bi hy,hm]
 have hnf:¬(m<Gs x∨(((x.op:Nat):Int)=34∧m≠0)):=om;have hN:Fy h1 i x v=none:=by rw[Fy,aPr om,Bi hy2,aPf (by simpa using c110)]
 rw[Cs (by rw[hI,Ce hx,show Cb h top i x=none from(by unfold Cb;simp only[hm2,←hh1,←hv2];rw[aPf hnf,hN];rfl)];rfl)];refine Jz 3 ?_;have hnf:¬(m<Gs x∨(((x.op:Nat):Int)=34∧m≠0)):=om;refine gp ?_;obtain⟨h2,hh2⟩:∃z0,z0=(h1.set (i+1) v):=⟨_,rfl⟩
 rw[←hh2];have hlh2:h2.length=h1.length:=by rw[hh2];rw[aPh]
 rw[←hlh2];have hN:Fy h1 i x v=some h2:=by rw[Fy,aPr om,Bi hy2,aPr (by simpa using c110),hh2]
 have hB2:∀y0∈h2,(-1:Int)≤y0∧y0≤((i+1:Nat):Int):=by rw[hh2];exact Gx (fun y0 h0=>by have:=hB1 y0 h0;omega) om
 refine Jz 2 ?_;refine Jvf (Ml x) rfl (af _) ?_;refine Jz 8 ?_;refine gp ?_;obtain⟨tn,htn⟩:∃tn:Nat,(tgt x).getD 0=((tn:Nat):Int):=⟨((tgt x).getD 0).toNat,by omega⟩
 rw[htn];obtain⟨y3,hy3⟩:=bq h2 tn om;have htn2:((tgt x).getD 0).toNat=tn:=om;refine Jz 2 ?_;refine JgB ?_ ?_<;>intro g117;refine Jz 3 ?_;refine Jcl [0,0] rfl rfl rfl (dn (first:=[]) (captured:=[pv b4]) rfl rfl rfl (kc.h 182 rfl)) rfl (Iu b4 Ah qh h2 tn v y3 hy3) ?_;rintro _ _ ⟨rfl,rfl⟩;refine Jz 4 ?_;refine Ej rfl ?_ ?_<;>intro Hw;refine Jz 12 ?_;refine Eo (.inl rfl) results133 rfl rfl ?_;have hm2:max (h.getD i 0) 0=m:=by rw[Bi hy,hm]
 have hJ:Bv h2 x v=none:=by rw[Bv,aPr (by assumption),htn2,Bi hy3,aPf (by simpa using Hw)]
 rw[Cs (by rw[hI,Ce hx,show Cb h top i x=none from(by unfold Cb;simp only[hm2,←hh1,←hv2];rw[aPf hnf,hN];simp[hJ])];rfl)];refine Jz 8 ?_;have hm2:max (h.getD i 0) 0=m:=by rw[Bi hy,hm]
 have hJ:Bv h2 x v=some (h2.set tn v):=by rw[Bv,aPr (by assumption),htn2,Bi hy3,aPr (by simpa using Hw)]
 have hS:Cb h top i x=some ((h2.set tn v),top'):=by
  unfold Cb;simp only[hm2,←hh1,←hv2];rw[aPf hnf,hN];show((Bv h2 x v).map fun h3=>(h3,max (max top m) v))=_;rw[hJ,htop'];rfl
 refine Em [0,0,2,2] rfl (Jas [box b4 [.slice Ah (h2.set tn v).length qh] 57,rows Kw 3 1 Ah qh (h2.set tn v),ros Ins.cells A l,Fx] (by first|rfl|rw[aPh]<;>rfl) (Db ⟨⟨(h2.set tn v),top',i+1,rfl,rfl,rfl,om,(by rw[aPh];omega),(Gx (fun y0 h0=>by have:=hB2 y0 h0;omega) om),(by rw[hI,Ce hx,hS];rfl),om⟩,sb⟩));refine Jz 17 ?_;have hm2:max (h.getD i 0) 0=m:=by rw[Bi hy,hm]
 have hJ:Bv h2 x v=some h2:=by rw[Bv,aPf (by simp[g117])]
 have hS:Cb h top i x=some (h2,top'):=by
  unfold Cb;simp only[hm2,←hh1,←hv2];rw[aPf hnf,hN];show((Bv h2 x v).map fun h3=>(h3,max (max top m) v))=_;rw[hJ,htop'];rfl
 refine Em [0,0,2,2] rfl (Jas [box b4 [.slice Ah h2.length qh] 57,rows Kw 3 1 Ah qh h2,ros Ins.cells A l,Fx] (by first|rfl|rw[aPh]<;>rfl) (Db ⟨⟨h2,top',i+1,rfl,rfl,rfl,om,om,hB2,(by rw[hI,Ce hx,hS];rfl),om⟩,sb⟩));refine Jz 8 ?_;refine Jo [(0, .slice A l.length q),(2,iv top'),(4,pv b4),(6, .func (.func 182) #[] #[pv b4]),(27, .slice A l.length q),(28,nv l.length),(29,nv i),(30, .bool (decide (((i:Nat):Int)<((l.length:Nat):Int)))),(8,pv b8),(7,nv i),(9,pv b9),(52, .bool (decide (((x.op:Nat):Int)=31))),(77, .bool (decide (m≠0))),(10,iv v),(110, .bool false)] sb (Jz 5 ?_);have hnf:¬(m<Gs x∨(((x.op:Nat):Int)=34∧m≠0)):=om;have hN:Fy h1 i x v=some h1:=by rw[Fy,aPf om]
 have hB2:∀y0∈h1,(-1:Int)≤y0∧y0≤((i+1:Nat):Int):=fun y0 h0=>by have:=hB1 y0 h0;omega
 refine Jz 2 ?_;refine Jvf (Ml x) rfl (af _) ?_;refine Jz 8 ?_;refine gp ?_;obtain⟨tn,htn⟩:∃tn:Nat,(tgt x).getD 0=((tn:Nat):Int):=⟨((tgt x).getD 0).toNat,by omega⟩
 rw[htn];obtain⟨y3,hy3⟩:=bq h1 tn om;have htn2:((tgt x).getD 0).toNat=tn:=om;refine Jz 2 ?_;refine JgB ?_ ?_<;>intro g117;refine Jz 3 ?_;refine Jcl [2,2] rfl rfl rfl (dn (first:=[]) (captured:=[pv b4]) rfl rfl rfl (kc.h 182 rfl)) rfl (Iu b4 Ah qh h1 tn v y3 hy3) ?_;rintro _ _ ⟨rfl,rfl⟩;refine Jz 4 ?_;refine Ej rfl ?_ ?_<;>intro Hw;refine Jz 12 ?_;refine Eo (.inl rfl) results133 rfl rfl ?_;have hm2:max (h.getD i 0) 0=m:=by rw[Bi hy,hm]
 have hJ:Bv h1 x v=none:=by rw[Bv,aPr (by assumption),htn2,Bi hy3,aPf (by simpa using Hw)]
 rw[Cs (by rw[hI,Ce hx,show Cb h top i x=none from(by unfold Cb;simp only[hm2,←hh1,←hv2];rw[aPf hnf,hN];simp[hJ])];rfl)];refine Jz 8 ?_;have hm2:max (h.getD i 0) 0=m:=by rw[Bi hy,hm]
 have hJ:Bv h1 x v=some (h1.set tn v):=by rw[Bv,aPr (by assumption),htn2,Bi hy3,aPr (by simpa using Hw)]
 have hS:Cb h top i x=some ((h1.set tn v),top'):=by
  unfold Cb;simp only[hm2,←hh1,←hv2];rw[aPf hnf,hN];show((Bv h1 x v).map fun h3=>(h3,max (max top m) v))=_;rw[hJ,htop'];rfl
 refine Em [0,0,2,2] rfl (Jas [box b4 [.slice Ah (h1.set tn v).length qh] 57,rows Kw 3 1 Ah qh (h1.set tn v),ros Ins.cells A l,Fx] (by first|rfl|rw[aPh]<;>rfl) (Db ⟨⟨(h1.set tn v),top',i+1,rfl,rfl,rfl,om,(by rw[aPh];omega),(Gx (fun y0 h0=>by have:=hB2 y0 h0;omega) om),(by rw[hI,Ce hx,hS];rfl),om⟩,sb⟩));refine Jz 17 ?_;have hm2:max (h.getD i 0) 0=m:=by rw[Bi hy,hm]
 have hJ:Bv h1 x v=some h1:=by rw[Bv,aPf (by simp[g117])]
 have hS:Cb h top i x=some (h1,top'):=by
  unfold Cb;simp only[hm2,←hh1,←hv2];rw[aPf hnf,hN];show((Bv h1 x v).map fun h3=>(h3,max (max top m) v))=_;rw[hJ,htop'];rfl
 refine Em [2,2,2,2] rfl (Jas [box b4 [.slice Ah h1.length qh] 57,rows Kw 3 1 Ah qh h1,ros Ins.cells A l,Fx] (by first|rfl|rw[aPh]<;>rfl) (Db ⟨⟨h1,top',i+1,rfl,rfl,rfl,om,om,hB2,(by rw[hI,Ce hx,hS];rfl),om⟩,sb⟩));refine Jz 13 ?_;refine Jo [(0, .slice A l.length q),(2,iv top'),(4,pv b4),(6, .func (.func 182) #[] #[pv b4]),(27, .slice A l.length q),(28,nv l.length),(29,nv i),(30, .bool (decide (((i:Nat):Int)<((l.length:Nat):Int)))),(8,pv b8),(7,nv i),(9,pv b9),(52, .bool (decide (((x.op:Nat):Int)=31))),(77, .bool (decide (m≠0))),(10,iv v),(110, .bool false)] sb (Jz 5 ?_);have hnf:¬(m<Gs x∨(((x.op:Nat):Int)=34∧m≠0)):=om;have hN:Fy h1 i x v=some h1:=by rw[Fy,aPf om]
 have hB2:∀y0∈h1,(-1:Int)≤y0∧y0≤((i+1:Nat):Int):=fun y0 h0=>by have:=hB1 y0 h0;omega
 refine Jz 2 ?_;refine Jvf (Ml x) rfl (af _) ?_;refine Jz 8 ?_;refine gp ?_;obtain⟨tn,htn⟩:∃tn:Nat,(tgt x).getD 0=((tn:Nat):Int):=⟨((tgt x).getD 0).toNat,by omega⟩
 rw[htn];obtain⟨y3,hy3⟩:=bq h1 tn om;have htn2:((tgt x).getD 0).toNat=tn:=om;refine Jz 2 ?_;refine JgB ?_ ?_<;>intro g117;refine Jz 3 ?_;refine Jcl [2,2] rfl rfl rfl (dn (first:=[]) (captured:=[pv b4]) rfl rfl rfl (kc.h 182 rfl)) rfl (Iu b4 Ah qh h1 tn v y3 hy3) ?_;rintro _ _ ⟨rfl,rfl⟩;refine Jz 4 ?_;refine Ej rfl ?_ ?_<;>intro Hw;refine Jz 12 ?_;refine Eo (.inl rfl) results133 rfl rfl ?_;have hm2:max (h.getD i 0) 0=m:=by rw[Bi hy,hm]
 have hJ:Bv h1 x v=none:=by rw[Bv,aPr (by assumption),htn2,Bi hy3,aPf (by simpa using Hw)]
 rw[Cs (by rw[hI,Ce hx,show Cb h top i x=none from(by unfold Cb;simp only[hm2,←hh1,←hv2];rw[aPf hnf,hN];simp[hJ])];rfl)];refine Jz 8 ?_;have hm2:max (h.getD i 0) 0=m:=by rw[Bi hy,hm]
 have hJ:Bv h1 x v=some (h1.set tn v):=by rw[Bv,aPr (by assumption),htn2,Bi hy3,aPr (by simpa using Hw)]
 have hS:Cb h top i x=some ((h1.set tn v),top'):=by
  unfold Cb;simp only[hm2,←hh1,←hv2];rw[aPf hnf,hN];show((Bv h1 x v).map fun h3=>(h3,max (max top m) v))=_;rw[hJ,htop'];rfl
 refine Em [0,0,2,2] rfl (Jas [box b4 [.slice Ah (h1.set tn v).length qh] 57,rows Kw 3 1 Ah qh (h1.set tn v),ros Ins.cells A l,Fx] (by first|rfl|rw[aPh]<;>rfl) (Db ⟨⟨(h1.set tn v),top',i+1,rfl,rfl,rfl,om,(by rw[aPh];omega),(Gx (fun y0 h0=>by have:=hB2 y0 h0;omega) om),(by rw[hI,Ce hx,hS];rfl),om⟩,sb⟩));refine Jz 17 ?_;have hm2:max (h.getD i 0) 0=m:=by rw[Bi hy,hm]
 have hJ:Bv h1 x v=some h1:=by rw[Bv,aPf (by simp[g117])]
 have hS:Cb h top i x=some (h1,top'):=by
  unfold Cb;simp only[hm2,←hh1,←hv2];rw[aPf hnf,hN];show((Bv h1 x v).map fun h3=>(h3,max (max top m) v))=_;rw[hJ,htop'];rfl
 refine Em [2,2,2,2] rfl (Jas [box b4 [.slice Ah h1.length qh] 57,rows Kw 3 1 Ah qh h1,ros Ins.cells A l,Fx] (by first|rfl|rw[aPh]<;>rfl) (Db ⟨⟨h1,top',i+1,rfl,rfl,rfl,om,om,hB2,(by rw[hI,Ce hx,hS];rfl),om⟩,sb⟩));refine Jz 13 ?_;refine Jfw [] [1,4,7,100,102,103,105,6,108,9,10] (af _) ?_;refine Jz 7 ?_;refine di rfl (Ev rfl rfl rfl om) ?_;refine Jz 1 ?_;refine di rfl (Im rfl rfl rfl om) ?_;refine Jz 4 ?_;refine gp ?_;obtain⟨v,hv⟩:∃z0,z0=((m-(Gs x))+((rowOf x.op).pushes)):=⟨_,rfl⟩
 rw[←hv];have hv2:v=aU m x:=by rw[hv,aU]
 have hvb:0≤v∧v≤i+1:=om;refine Jz 7 ?_;refine Jr (Vk rfl rfl rfl rfl) ?_;refine Jz 5 ?_;obtain⟨y2,hy2⟩:∃z0,h1[i+1]?=some z0:=⟨h1[i+1]'om,gge _⟩
 refine gp ?_;obtain⟨top',htop'⟩:∃z0,z0=(max (max top m) v):=⟨_,rfl⟩
 rw[←htop'];refine Jz 4 ?_;refine JgP ?_ ?_<;>intro g98;refine Jz 4 ?_;refine JgP ?_ ?_<;>intro g103;refine Jz 4 ?_;refine Jcl [2,2] rfl rfl rfl (dn (first:=[]) (captured:=[pv b4]) rfl rfl rfl (kc.h 182 rfl)) rfl (Iu b4 Ah qh h1 (i+1) v y2 hy2) ?_;rintro _ _ ⟨rfl,rfl⟩;refine Jz 3 ?_;refine Jo [(0, .slice A l.length q),(2,iv top'),(4,pv b4),(6, .func (.func 182) #[] #[pv b4]),(27, .slice A l.length q),(28,nv l.length),(29,nv i),(30, .bool (decide (((i:Nat):Int)<((l.length:Nat):Int)))),(8,pv b8),(7,nv i),(9,pv b9),(52, .bool (decide (((x.op:Nat):Int)=31))),(77, .bool false),(10,iv v),(110, .bool (!(decide (okH y2 v))))] sb (Jt (Ej rfl (fun c110=>?_) (fun c110=>?_)));refine Jz 13 ?_;refine Eo (.inl rfl) results133 rfl rfl ?_;have hm2:max (h.getD i 0) 0=m:=by rw[Bi hy,hm]
 have hnf:¬(m<Gs x∨(((x.op:Nat):Int)=34∧m≠0)):=om;have hN:Fy h1 i x v=none:=by rw[Fy,aPr om,Bi hy2,aPf (by simpa using c110)]
 rw[Cs (by rw[hI,Ce hx,show Cb h top i x=none from(by unfold Cb;simp only[hm2,←hh1,←hv2];rw[aPf hnf,hN];rfl)];rfl)];refine Jz 3 ?_;have hnf:¬(m<Gs x∨(((x.op:Nat):Int)=34∧m≠0)):=om;refine gp ?_;obtain⟨h2,hh2⟩:∃z0,z0=(h1.set (i+1) v):=⟨_,rfl⟩
 rw[←hh2];have hlh2:h2.length=h1.length:=by rw[hh2];rw[aPh]
 rw[←hlh2];have hN:Fy h1 i x v=some h2:=by rw[Fy,aPr om,Bi hy2,aPr (by simpa using c110),hh2]
 have hB2:∀y0∈h2,(-1:Int)≤y0∧y0≤((i+1:Nat):Int):=by rw[hh2];exact Gx (fun y0 h0=>by have:=hB1 y0 h0;omega) om
 refine Jz 2 ?_;refine Jvf (Ml x) rfl (af _) ?_;refine Jz 8 ?_;refine gp ?_;obtain⟨tn,htn⟩:∃tn:Nat,(tgt x).getD 0=((tn:Nat):Int):=⟨((tgt x).getD 0).toNat,by omega⟩
 rw[htn];obtain⟨y3,hy3⟩:=bq h2 tn om;have htn2:((tgt x).getD 0).toNat=tn:=om;refine Jz 2 ?_;refine JgB ?_ ?_<;>intro g117;refine Jz 3 ?_;refine Jcl [0,0] rfl rfl rfl (dn (first:=[]) (captured:=[pv b4]) rfl rfl rfl (kc.h 182 rfl)) rfl (Iu b4 Ah qh h2 tn v y3 hy3) ?_;rintro _ _ ⟨rfl,rfl⟩;refine Jz 4 ?_;refine Ej rfl ?_ ?_<;>intro Hw;refine Jz 12 ?_;refine Eo (.inl rfl) results133 rfl rfl ?_;have hm2:max (h.getD i 0) 0=m:=by rw[Bi hy,hm]
 have hJ:Bv h2 x v=none:=by rw[Bv,aPr (by assumption),htn2,Bi hy3,aPf (by simpa using Hw)]
 rw[Cs (by rw[hI,Ce hx,show Cb h top i x=none from(by unfold Cb;simp only[hm2,←hh1,←hv2];rw[aPf hnf,hN];simp[hJ])];rfl)];refine Jz 8 ?_;have hm2:max (h.getD i 0) 0=m:=by rw[Bi hy,hm]
 have hJ:Bv h2 x v=some (h2.set tn v):=by rw[Bv,aPr (by assumption),htn2,Bi hy3,aPr (by simpa using Hw)]
 have hS:Cb h top i x=some ((h2.set tn v),top'):=by
  unfold Cb;simp only[hm2,←hh1,←hv2];rw[aPf hnf,hN];show((Bv h2 x v).map fun h3=>(h3,max (max top m) v))=_;rw[hJ,htop'];rfl
 refine Em [0,0,2,2] rfl (Jas [box b4 [.slice Ah (h2.set tn v).length qh] 57,rows Kw 3 1 Ah qh (h2.set tn v),ros Ins.cells A l,Fx] (by first|rfl|rw[aPh]<;>rfl) (Db ⟨⟨(h2.set tn v),top',i+1,rfl,rfl,rfl,om,(by rw[aPh];omega),(Gx (fun y0 h0=>by have:=hB2 y0 h0;omega) om),(by rw[hI,Ce hx,hS];rfl),om⟩,sb⟩));refine Jz 17 ?_;have hm2:max (h.getD i 0) 0=m:=by rw[Bi hy,hm]
 have hJ:Bv h2 x v=some h2:=by rw[Bv,aPf (by simp[g117])]
 have hS:Cb h top i x=some (h2,top'):=by
  unfold Cb;simp only[hm2,←hh1,←hv2];rw[aPf hnf,hN];show((Bv h2 x v).map fun h3=>(h3,max (max top m) v))=_;rw[hJ,htop'];rfl
 refine Em [0,0,2,2] rfl (Jas [box b4 [.slice Ah h2.length qh] 57,rows Kw 3 1 Ah qh h2,ros Ins.cells A l,Fx] (by first|rfl|rw[aPh]<;>rfl) (Db ⟨⟨h2,top',i+1,rfl,rfl,rfl,om,om,hB2,(by rw[hI,Ce hx,hS];rfl),om⟩,sb⟩));refine Jz 8 ?_;refine Jo [(0, .slice A l.length q),(2,iv top'),(4,pv b4),(6, .func (.func 182) #[] #[pv b4]),(27, .slice A l.length q),(28,nv l.length),(29,nv i),(30, .bool (decide (((i:Nat):Int)<((l.length:Nat):Int)))),(8,pv b8),(7,nv i),(9,pv b9),(52, .bool (decide (((x.op:Nat):Int)=31))),(77, .bool false),(10,iv v),(110, .bool false)] sb (Jz 5 ?_);have hnf:¬(m<Gs x∨(((x.op:Nat):Int)=34∧m≠0)):=om;have hN:Fy h1 i x v=some h1:=by rw[Fy,aPf om]
 have hB2:∀y0∈h1,(-1:Int)≤y0∧y0≤((i+1:Nat):Int):=fun y0 h0=>by have:=hB1 y0 h0;omega
 refine Jz 2 ?_;refine Jvf (Ml x) rfl (af _) ?_;refine Jz 8 ?_;refine gp ?_;obtain⟨tn,htn⟩:∃tn:Nat,(tgt x).getD 0=((tn:Nat):Int):=⟨((tgt x).getD 0).toNat,by omega⟩
 rw[htn];obtain⟨y3,hy3⟩:=bq h1 tn om;have htn2:((tgt x).getD 0).toNat=tn:=om;refine Jz 2 ?_;refine JgB ?_ ?_<;>intro g117;refine Jz 3 ?_;refine Jcl [2,2] rfl rfl rfl (dn (first:=[]) (captured:=[pv b4]) rfl rfl rfl (kc.h 182 rfl)) rfl (Iu b4 Ah qh h1 tn v y3 hy3) ?_;rintro _ _ ⟨rfl,rfl⟩;refine Jz 4 ?_;refine Ej rfl ?_ ?_<;>intro Hw;refine Jz 12 ?_;refine Eo (.inl rfl) results133 rfl rfl ?_;have hm2:max (h.getD i 0) 0=m:=by rw[Bi hy,hm]
 have hJ:Bv h1 x v=none:=by rw[Bv,aPr (by assumption),htn2,Bi hy3,aPf (by simpa using Hw)]
 rw[Cs (by rw[hI,Ce hx,show Cb h top i x=none from(by unfold Cb;simp only[hm2,←hh1,←hv2];rw[aPf hnf,hN];simp[hJ])];rfl)];refine Jz 8 ?_;have hm2:max (h.getD i 0) 0=m:=by rw[Bi hy,hm]
 have hJ:Bv h1 x v=some (h1.set tn v):=by rw[Bv,aPr (by assumption),htn2,Bi hy3,aPr (by simpa using Hw)]
 have hS:Cb h top i x=some ((h1.set tn v),top'):=by
  unfold Cb;simp only[hm2,←hh1,←hv2];rw[aPf hnf,hN];show((Bv h1 x v).map fun h3=>(h3,max (max top m) v))=_;rw[hJ,htop'];rfl
 refine Em [0,0,2,2] rfl (Jas [box b4 [.slice Ah (h1.set tn v).length qh] 57,rows Kw 3 1 Ah qh (h1.set tn v),ros Ins.cells A l,Fx] (by first|rfl|rw[aPh]<;>rfl) (Db ⟨⟨(h1.set tn v),top',i+1,rfl,rfl,rfl,om,(by rw[aPh];omega),(Gx (fun y0 h0=>by have:=hB2 y0 h0;omega) om),(by rw[hI,Ce hx,hS];rfl),om⟩,sb⟩));refine Jz 17 ?_;have hm2:max (h.getD i 0) 0=m:=by rw[Bi hy,hm]
 have hJ:Bv h1 x v=some h1:=by rw[Bv,aPf (by simp[g117])]
 have hS:Cb h top i x=some (h1,top'):=by
  unfold Cb;simp only[hm2,←hh1,←hv2];rw[aPf hnf,hN];show((Bv h1 x v).map fun h3=>(h3,max (max top m) v))=_;rw[hJ,htop'];rfl
 refine Em [2,2,2,2] rfl (Jas [box b4 [.slice Ah h1.length qh] 57,rows Kw 3 1 Ah qh h1,ros Ins.cells A l,Fx] (by first|rfl|rw[aPh]<;>rfl) (Db ⟨⟨h1,top',i+1,rfl,rfl,rfl,om,om,hB2,(by rw[hI,Ce hx,hS];rfl),om⟩,sb⟩));refine Jz 13 ?_;refine Jo [(0, .slice A l.length q),(2,iv top'),(4,pv b4),(6, .func (.func 182) #[] #[pv b4]),(27, .slice A l.length q),(28,nv l.length),(29,nv i),(30, .bool (decide (((i:Nat):Int)<((l.length:Nat):Int)))),(8,pv b8),(7,nv i),(9,pv b9),(52, .bool (decide (((x.op:Nat):Int)=31))),(77, .bool false),(10,iv v),(110, .bool false)] sb (Jz 5 ?_);have hnf:¬(m<Gs x∨(((x.op:Nat):Int)=34∧m≠0)):=om;have hN:Fy h1 i x v=some h1:=by rw[Fy,aPf om]
 have hB2:∀y0∈h1,(-1:Int)≤y0∧y0≤((i+1:Nat):Int):=fun y0 h0=>by have:=hB1 y0 h0;omega
 refine Jz 2 ?_;refine Jvf (Ml x) rfl (af _) ?_;refine Jz 8 ?_;refine gp ?_;obtain⟨tn,htn⟩:∃tn:Nat,(tgt x).getD 0=((tn:Nat):Int):=⟨((tgt x).getD 0).toNat,by omega⟩
 rw[htn];obtain⟨y3,hy3⟩:=bq h1 tn om;have htn2:((tgt x).getD 0).toNat=tn:=om;refine Jz 2 ?_;refine JgB ?_ ?_<;>intro g117;refine Jz 3 ?_;refine Jcl [2,2] rfl rfl rfl (dn (first:=[]) (captured:=[pv b4]) rfl rfl rfl (kc.h 182 rfl)) rfl (Iu b4 Ah qh h1 tn v y3 hy3) ?_;rintro _ _ ⟨rfl,rfl⟩;refine Jz 4 ?_;refine Ej rfl ?_ ?_<;>intro Hw;refine Jz 12 ?_;refine Eo (.inl rfl) results133 rfl rfl ?_;have hm2:max (h.getD i 0) 0=m:=by rw[Bi hy,hm]
 have hJ:Bv h1 x v=none:=by rw[Bv,aPr (by assumption),htn2,Bi hy3,aPf (by simpa using Hw)]
 rw[Cs (by rw[hI,Ce hx,show Cb h top i x=none from(by unfold Cb;simp only[hm2,←hh1,←hv2];rw[aPf hnf,hN];simp[hJ])];rfl)];refine Jz 8 ?_;have hm2:max (h.getD i 0) 0=m:=by rw[Bi hy,hm]
 have hJ:Bv h1 x v=some (h1.set tn v):=by rw[Bv,aPr (by assumption),htn2,Bi hy3,aPr (by simpa using Hw)]
 have hS:Cb h top i x=some ((h1.set tn v),top'):=by
  unfold Cb;simp only[hm2,←hh1,←hv2];rw[aPf hnf,hN];show((Bv h1 x v).map fun h3=>(h3,max (max top m) v))=_;rw[hJ,htop'];rfl
 refine Em [0,0,2,2] rfl (Jas [box b4 [.slice Ah (h1.set tn v).length qh] 57,rows Kw 3 1 Ah qh (h1.set tn v),ros Ins.cells A l,Fx] (by first|rfl|rw[aPh]<;>rfl) (Db ⟨⟨(h1.set tn v),top',i+1,rfl,rfl,rfl,om,(by rw[aPh];omega),(Gx (fun y0 h0=>by have:=hB2 y0 h0;omega) om),(by rw[hI,Ce hx,hS];rfl),om⟩,sb⟩));refine Jz 17 ?_;have hm2:max (h.getD i 0) 0=m:=by rw[Bi hy,hm]
 have hJ:Bv h1 x v=some h1:=by rw[Bv,aPf (by simp[g117])]
 have hS:Cb h top i x=some (h1,top'):=by
  unfold Cb;simp only[hm2,←hh1,←hv2];rw[aPf hnf,hN];show((Bv h1 x v).map fun h3=>(h3,max (max top m) v))=_;rw[hJ,htop'];rfl
 refine Em [2,2,2,2] rfl (Jas [box b4 [.slice Ah h1.length qh] 57,rows Kw 3 1 Ah qh h1,ros Ins.cells A l,Fx] (by first|rfl|rw[aPh]<;>rfl) (Db ⟨⟨h1,top',i+1,rfl,rfl,rfl,om,om,hB2,(by rw[hI,Ce hx,hS];rfl),om⟩,sb⟩));refine Jz 6 ?_;obtain⟨y4,hy4⟩:∃z0,h[l.length]?=some z0:=⟨h[l.length]'om,gge _⟩
 refine Jfw [] [0,2,3,7,101,104,105,6,8] (af _) ?_;refine Jz 12 ?_;refine Eo (.inl rfl) results133 rfl rfl ?_;rw[show Lr l=(top,decide (y4≤0))from(by unfold Lr;rw[hI,aQy om];simp only[goH];rw[Bi hy4])]
def UG(e:Ins):List vU:=[nv e.op,iv e.a,iv e.b,iv e.n]
instance aOu:Enc UG 4:=⟨fun _=>rfl,fun e u hu=>by
 simp only[UG,aPi,aPm,aQo]at hu;rcases hu with rfl|rfl|rfl|rfl<;>rfl⟩
def uA(o:Int):Bool:=decide ((2≤o∧o≤4)∨(6≤o∧o≤8)∨(24≤o∧o≤28)∨o=30∨o=33)
def uB(o:Int):Bool:=decide (30≤o∧o≤33)
def uN(o:Int):Bool:=decide (o=1∨o=30∨o=31)
def jR(x:Ins):Int:=if((x.op:Nat):Int)=27∨((x.op:Nat):Int)=28 then x.a else if((x.op:Nat):Int)=32∨((x.op:Nat):Int)=33 then x.b else-1
def Nf(pr:Int)(nc:Nat)(x:Ins):Bool:=!((decide (((x.op:Nat):Int)<1))||decide (34<((x.op:Nat):Int)))&&(!((!uA ((x.op:Nat):Int)&&decide (x.a≠0))||((!uB ((x.op:Nat):Int)&&decide (x.b≠0))||(!uN ((x.op:Nat):Int)&&decide (x.n≠0))))&&(!((uA ((x.op:Nat):Int)&&(!((decide (((x.op:Nat):Int)=27))||decide (((x.op:Nat):Int)=28))&&(decide (x.a<0)||decide (63<x.a))))||(decide (((x.op:Nat):Int)=3)&&decide (pr≤x.a)))&&(!(((decide (((x.op:Nat):Int)=30))||decide (((x.op:Nat):Int)=31))&&(decide (x.b<0)||(decide (63<x.b)||(decide (x.n<0)||decide (4<x.n)))))&&(!(((decide (((x.op:Nat):Int)=27))||decide (((x.op:Nat):Int)=28))||(decide (((x.op:Nat):Int)=32)||decide (((x.op:Nat):Int)=33)))||(decide (0≤jR x)&&decide (jR x≤((nc:Nat):Int)))))))
theorem Ra{C:Cx}{P:pG}{ρ:Bo}{Γ:List Ad}{Q:Exit→Act→wD→Prop}{T:Type}{c:Code}{K:Act→wD→Prop}(F:T→Bo×List Ad)(p:T→Prop)(h:To C ρ Γ (c.wp P (Exit.then (fun a w=>∃t,p t∧Has C.n C.ds (F t).1 a∧Dk C.Γ0 (F t).2 C.w0 w) Q)))(k:∀t,p t→To C (F t).1 (F t).2 K):To C ρ Γ (c.wp P (Exit.then K Q)):=fun a w ha hp=>
 Code.wp_mono (fun e a w hq=>by
  cases e with
  |normal=>obtain⟨t,h1,h2,h3⟩:=hq;exact k t h1 a w h2 h3
  |exit id=>exact hq
  |goto l=>exact hq
  |ret=>exact hq
  |panic ch=>exact hq
  |outgrown=>exact hq) (h a w ha hp)
theorem UH:((List.range 35).all fun o=>o==0||(Ri o 65==uA ((o:Nat):Int)&&Ri o 66==uB ((o:Nat):Int)&&Ri o 78==uN ((o:Nat):Int)))=true:=by kernel_rfl
theorem aBe{o:Nat}(h1:1≤o)(h2:o≤34):Ri o 65=uA ((o:Nat):Int)∧Ri o 66=uB ((o:Nat):Int)∧Ri o 78=uN ((o:Nat):Int):=by
 have h:=aRd.1 UH o (List.mem_range.2 om);simp only[aRj,aPk,beq_iff_eq]at h;rcases h with h|⟨⟨ha,hb⟩,hn⟩
 ·omega
 ·exact⟨ha,hb,hn⟩
theorem aBf{pr:Int}{nc:Nat}{x:Ins}(hp:0≤pr∧pr≤4):Nf pr nc x=Vy pr nc x:=by
 obtain⟨o,a,b,n⟩:=x;by_cases ho:1≤o∧o≤34
 · obtain⟨ea,eb,en⟩:=aBe ho.1 ho.2
   rw[Bool.eq_iff_iff];unfold Nf Vy;rw[ea,eb,en];clear ea eb en;rcases(by omega:o=1∨o=2∨o=3∨o=4∨o=5∨o=6∨o=7∨o=8∨o=9∨o=10∨o=11∨o=12∨o=13∨o=14∨o=15∨o=16∨o=17∨o=18∨o=19∨o=20∨o=21∨o=22∨o=23∨o=24∨o=25∨o=26∨o=27∨o=28∨o=29∨o=30∨o=31∨o=32∨o=33∨o=34)with rfl|rfl|rfl|rfl|rfl|rfl|rfl|rfl|rfl|rfl|rfl|rfl|rfl|rfl|rfl|rfl|rfl|rfl|rfl|rfl|rfl|rfl|rfl|rfl|rfl|rfl|rfl|rfl|rfl|rfl|rfl|rfl|rfl|rfl<;>simp[uA,uB,uN,tgt,jR]<;>omega
 · rw[Bool.eq_iff_iff]
   unfold Nf Vy;simp only[aPk,aRj,aQx,Bool.not_eq_true',aRx,aRs];constructor<;>intro h<;>omega
structure Sp where
 t:Nat
 f:Nat
 v:Int
def Sp.cells(e:Sp):List vU:=[.int .u8 ((e.t:Nat):Int), .int .u8 ((e.f:Nat):Int), .int .i32 e.v]
instance aOv:Enc Sp.cells 3:=⟨fun _=>rfl,fun e u hu=>by
 simp only[Sp.cells,aPi,aPm,aQo]at hu;rcases hu with rfl|rfl|rfl<;>rfl⟩
def Fp(n:Nat):List vU:=[.int .u8 ((n:Nat):Int)]
instance Zj:Enc Fp 1:=⟨fun _=>rfl,fun x u hu=>by simp[Fp]at hu;subst hu;rfl⟩
section
variable{P:pG}{o:Oper}{ρ:Bo}{Γ:List Ad}{x y:Operand}{t t':tI}{a b j:Nat}
end
end Go.Proofs.YtihgdnjkofpgiaaGreatDoor
