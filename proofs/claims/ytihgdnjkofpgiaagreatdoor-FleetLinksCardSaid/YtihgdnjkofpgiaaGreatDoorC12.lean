/- Own text. -/
import Derived.Test.YtihgdnjkofpgiaaGreatDoorKa
import Derived.Test.YtihgdnjkofpgiaaGreatDoorRows
import Derived.Test.YtihgdnjkofpgiaaGreatDoorA17
import Derived.Test.YtihgdnjkofpgiaaGreatDoorUa
import Derived.LaidMore
import Derived.MakeChecks
set_option linter.unusedVariables false
set_option linter.unusedSimpArgs false
namespace Go.Proofs.YtihgdnjkofpgiaaGreatDoor
open Go.Proofs.Tryz
open Go.ChangeShapes Go.WideShapes Go.ChangeAt Go.RowKit Go.Flow Go.Mem Go.Sep
open Go.In
theorem dX{s:ByteArray}{l:List UInt8}(h:s.data.toList=l):s=⟨l.toArray⟩:=by
 cases s with
 |mk a=>rw[ByteArray.mk.injEq,←h,Array.toArray_toList]
theorem Rc{Q:Type}{P:Program}{W:World}{g:Nat}{name:String}{cs:Array Value}{tA e:TypeId}{n z fuel:Nat}{E:List Q}{toD:Q→DataW Unit}{cells:Q→List Value}{D:DataW Unit}{p:List MemPlace}
    (hg:P.globalNamed name=some g) (hv:W.var? P name=some cs) (hd:DataW.trod (fun _=>()) P W 0 (fun _=>true) false fuel tA cs.toList=some (D,p))
    (hA:P.underlying tA=some (.array n e)) (hc:P.cellsOf e=z) (hcA:P.cellsOf tA=n*z) (hD:D= .agg (E.map toD)) (hE:E.length=n) (hz:∀q,(cells q).length=z)
    (hop:∀(m:Nat) (cs':List Value) (x:DataW Unit×List MemPlace) (q:Q),DataW.trod (fun _=>()) P W 0 (fun _=>true) false m e cs'=some x→cs'.length=z→x.1=toD q→cs'=cells q):
    (ro (some ⟨g,0,none⟩) (E.flatMap cells)).holds W:=by
 obtain⟨xs,m,_,he,hlen,hxl,hel⟩:=DataW.trod_array hA hd;simp only[Prod.mk.injEq]at he;have he1:=he.1;rw[hD]at he1;simp only[DataW.agg.injEq]at he1;rw[hcA]at hlen;rw[hc]at hel;refine .inr ⟨g,0,rfl,fun k v hv'=>?_⟩;obtain⟨i,j,a,hk,hi,hj⟩:=sS hz E k v hv';have hin:i<n:=hE▸(aNr.1 hi).1;have hjz:j<z:=by have:=(aNr.1 hj).1;rwa[hz]at this
 have h1:=hel i hin;have hxi:i<xs.length:=by rw[hxl];exact hin
 rw[gge hxi]at h1;have h2:xs[i].1=toD a:=by
  have h3:(E.map toD)[i]?=(xs.map (·.1))[i]?:=by rw[he1]
  rw[aOf,aOf,hi,gge hxi]at h3;simpa using h3.symm
 have hfit:i*z+z≤n*z:=by rw[←Nat.succ_mul];exact Nat.mul_le_mul_right _ hin
 have h3:=hop m _ _ a h1 (by rw[aOh,aPw,hlen];omega) h2;have h4:=World.var?_cell hg hv k;show W.cell? ⟨g,0+k,none⟩=some v;rw[aOz,h4,←Array.getElem?_toList,hk];have h5:((cs.toList.drop (i*z)).take z)[j]?=some v:=by rw[h3];exact hj
 rw[aQq hjz,aQl]at h5;exact h5
section
variable{w:World}
noncomputable abbrev tr0(w:World)(m:Nat)(t:TypeId)(cs:List Value):=DataW.trod (fun _=>()) prog w 0 (fun _=>true) false m t cs
set_option maxRecDepth 100000 in
theorem op0(m:Nat)(cs:List Value)(x:DataW Unit×List MemPlace)(q:Int)(h:tr0 w m 5 cs=some x)(hl:cs.length=1)(hx:x.1=(fun q:Int=>(.lit (.int .u8 q):DataW Unit)) q):cs=(fun q:Int=>[.int .u8 q]) q:=by
 match cs,hl with
 | [c0],_=>
   have g0:=h;obtain⟨s0,b0,d0,_⟩:=DataW.trod_int underlying5 (show tr0 w m 5 [c0]=some x from g0);have a0:=hx;rw[d0]at a0;simp only[DataW.lit.injEq,Lit.string.injEq,Lit.int.injEq,Lit.bool.injEq,true_and]at a0;simp only[aQa,and_true]at b0;rw[b0,a0]
set_option maxRecDepth 100000 in
theorem op1(m:Nat)(cs:List Value)(x:DataW Unit×List MemPlace)(q:Int)(h:tr0 w m 268 cs=some x)(hl:cs.length=1)(hx:x.1=(fun q:Int=>(.lit (.int .u64 q):DataW Unit)) q):cs=(fun q:Int=>[.int .u64 q]) q:=by
 match cs,hl with
 | [c0],_=>
   have g0:=h;obtain⟨s0,b0,d0,_⟩:=DataW.trod_int underlying268 (show tr0 w m 268 [c0]=some x from g0);have a0:=hx;rw[d0]at a0;simp only[DataW.lit.injEq,Lit.string.injEq,Lit.int.injEq,Lit.bool.injEq,true_and]at a0;simp only[aQa,and_true]at b0;rw[b0,a0]
set_option maxRecDepth 100000 in
theorem op2(m:Nat)(cs:List Value)(x:DataW Unit×List MemPlace)(q:Int)(h:tr0 w m 282 cs=some x)(hl:cs.length=1)(hx:x.1=(fun q:Int=>(.lit (.int .u32 q):DataW Unit)) q):cs=(fun q:Int=>[.int .u32 q]) q:=by
 match cs,hl with
 | [c0],_=>
   have g0:=h;obtain⟨s0,b0,d0,_⟩:=DataW.trod_int underlying282 (show tr0 w m 282 [c0]=some x from g0);have a0:=hx;rw[d0]at a0;simp only[DataW.lit.injEq,Lit.string.injEq,Lit.int.injEq,Lit.bool.injEq,true_and]at a0;simp only[aQa,and_true]at b0;rw[b0,a0]
set_option maxRecDepth 100000 in
theorem op3(m:Nat)(cs:List Value)(x:DataW Unit×List MemPlace)(q:List UInt8)(h:tr0 w m 9 cs=some x)(hl:cs.length=1)(hx:x.1=(fun q:List UInt8=>(.lit (.string q):DataW Unit)) q):cs=(fun q:List UInt8=>[.string ⟨(q).toArray⟩]) q:=by
 match cs,hl with
 | [c0],_=>
   have g0:=h;obtain⟨s0,b0,d0,_⟩:=DataW.trod_string underlying9 (show tr0 w m 9 [c0]=some x from g0);have a0:=hx;rw[d0]at a0;simp only[DataW.lit.injEq,Lit.string.injEq,Lit.int.injEq,Lit.bool.injEq,true_and]at a0;simp only[aQa,and_true]at b0;rw[b0,dX a0]
set_option maxRecDepth 100000 in
theorem op4(m:Nat)(cs:List Value)(x:DataW Unit×List MemPlace)(q:Int×Bool×Int×List UInt8)(h:tr0 w m 349 cs=some x)(hl:cs.length=4)(hx:x.1=(fun q:Int×Bool×Int×List UInt8=>(.agg [.lit (.int .i64 q.1), .lit (.bool q.2.1), .lit (.int .i64 q.2.2.1), .lit (.string q.2.2.2)]:DataW Unit)) q):cs=(fun q:Int×Bool×Int×List UInt8=>[.int .i64 q.1, .bool q.2.1, .int .i64 q.2.2.1, .string ⟨(q.2.2.2).toArray⟩]) q:=by
 match cs,hl with
 | [c0,c1,c2,c3],_=>
   obtain⟨xs,n,_,he,_,hxl,hfs⟩:=DataW.trod_struct underlying349 h;rw[he]at hx;have hxl:xs.length=4:=hxl
   match xs,hxl with
   | [y0,y1,y2,y3],_=>
     simp only[aOw,aPq,DataW.agg.injEq,aQa,and_true]at hx;obtain⟨a0,a1,a2,a3⟩:=hx;have g0:=hfs 0 _ rfl;obtain⟨s0,b0,d0,_⟩:=DataW.trod_int underlying3 (show tr0 w n 3 [c0]=some y0 from g0);have g1:=hfs 1 _ rfl;obtain⟨s1,b1,d1⟩:=DataW.trod_bool underlying4 (show tr0 w n 4 [c1]=some y1 from g1);have g2:=hfs 2 _ rfl;obtain⟨s2,b2,d2,_⟩:=DataW.trod_int underlying3 (show tr0 w n 3 [c2]=some y2 from g2);have g3:=hfs 3 _ rfl;obtain⟨s3,b3,d3,_⟩:=DataW.trod_string underlying9 (show tr0 w n 9 [c3]=some y3 from g3);rw[d0]at a0;simp only[DataW.lit.injEq,Lit.string.injEq,Lit.int.injEq,Lit.bool.injEq,true_and]at a0;rw[d1]at a1;simp only[DataW.lit.injEq,Lit.string.injEq,Lit.int.injEq,Lit.bool.injEq,true_and]at a1;rw[d2]at a2;simp only[DataW.lit.injEq,Lit.string.injEq,Lit.int.injEq,Lit.bool.injEq,true_and]at a2;rw[d3]at a3;simp only[DataW.lit.injEq,Lit.string.injEq,Lit.int.injEq,Lit.bool.injEq,true_and]at a3;simp only[aQa,and_true]at b0 b1 b2 b3;rw[b0,b1,b2,b3,a0,a1,a2,dX a3]
set_option maxRecDepth 100000 in
theorem op5(m:Nat)(cs:List Value)(x:DataW Unit×List MemPlace)(q:Bool×Bool×Int×Int×Bool×Bool)(h:tr0 w m 305 cs=some x)(hl:cs.length=6)(hx:x.1=(fun q:Bool×Bool×Int×Int×Bool×Bool=>(.agg [.lit (.bool q.1), .lit (.bool q.2.1), .lit (.int .i64 q.2.2.1), .lit (.int .i64 q.2.2.2.1), .lit (.bool q.2.2.2.2.1), .lit (.bool q.2.2.2.2.2)]:DataW Unit)) q):cs=(fun q:Bool×Bool×Int×Int×Bool×Bool=>[.bool q.1, .bool q.2.1, .int .i64 q.2.2.1, .int .i64 q.2.2.2.1, .bool q.2.2.2.2.1, .bool q.2.2.2.2.2]) q:=by
 match cs,hl with
 | [c0,c1,c2,c3,c4,c5],_=>
   obtain⟨xs,n,_,he,_,hxl,hfs⟩:=DataW.trod_struct underlying305 h;rw[he]at hx;have hxl:xs.length=6:=hxl
   match xs,hxl with
   | [y0,y1,y2,y3,y4,y5],_=>
     simp only[aOw,aPq,DataW.agg.injEq,aQa,and_true]at hx;obtain⟨a0,a1,a2,a3,a4,a5⟩:=hx;have g0:=hfs 0 _ rfl;obtain⟨s0,b0,d0⟩:=DataW.trod_bool underlying4 (show tr0 w n 4 [c0]=some y0 from g0);have g1:=hfs 1 _ rfl;obtain⟨s1,b1,d1⟩:=DataW.trod_bool underlying4 (show tr0 w n 4 [c1]=some y1 from g1);have g2:=hfs 2 _ rfl;obtain⟨s2,b2,d2,_⟩:=DataW.trod_int underlying3 (show tr0 w n 3 [c2]=some y2 from g2);have g3:=hfs 3 _ rfl;obtain⟨s3,b3,d3,_⟩:=DataW.trod_int underlying3 (show tr0 w n 3 [c3]=some y3 from g3);have g4:=hfs 4 _ rfl;obtain⟨s4,b4,d4⟩:=DataW.trod_bool underlying4 (show tr0 w n 4 [c4]=some y4 from g4);have g5:=hfs 5 _ rfl;obtain⟨s5,b5,d5⟩:=DataW.trod_bool underlying4 (show tr0 w n 4 [c5]=some y5 from g5);rw[d0]at a0;simp only[DataW.lit.injEq,Lit.string.injEq,Lit.int.injEq,Lit.bool.injEq,true_and]at a0;rw[d1]at a1;simp only[DataW.lit.injEq,Lit.string.injEq,Lit.int.injEq,Lit.bool.injEq,true_and]at a1;rw[d2]at a2;simp only[DataW.lit.injEq,Lit.string.injEq,Lit.int.injEq,Lit.bool.injEq,true_and]at a2;rw[d3]at a3;simp only[DataW.lit.injEq,Lit.string.injEq,Lit.int.injEq,Lit.bool.injEq,true_and]at a3;rw[d4]at a4;simp only[DataW.lit.injEq,Lit.string.injEq,Lit.int.injEq,Lit.bool.injEq,true_and]at a4;rw[d5]at a5;simp only[DataW.lit.injEq,Lit.string.injEq,Lit.int.injEq,Lit.bool.injEq,true_and]at a5;simp only[aQa,and_true]at b0 b1 b2 b3 b4 b5;rw[b0,b1,b2,b3,b4,b5,a0,a1,a2,a3,a4,a5]
set_option maxRecDepth 100000 in
theorem op6(m:Nat)(cs:List Value)(x:DataW Unit×List MemPlace)(q:List UInt8×List UInt8×Int×Int)(h:tr0 w m 156 cs=some x)(hl:cs.length=4)(hx:x.1=(fun q:List UInt8×List UInt8×Int×Int=>(.agg [.lit (.string q.1), .lit (.string q.2.1), .lit (.int .i64 q.2.2.1), .lit (.int .i64 q.2.2.2)]:DataW Unit)) q):cs=(fun q:List UInt8×List UInt8×Int×Int=>[.string ⟨(q.1).toArray⟩, .string ⟨(q.2.1).toArray⟩, .int .i64 q.2.2.1, .int .i64 q.2.2.2]) q:=by
 match cs,hl with
 | [c0,c1,c2,c3],_=>
   obtain⟨xs,n,_,he,_,hxl,hfs⟩:=DataW.trod_struct underlying156 h;rw[he]at hx;have hxl:xs.length=4:=hxl
   match xs,hxl with
   | [y0,y1,y2,y3],_=>
     simp only[aOw,aPq,DataW.agg.injEq,aQa,and_true]at hx;obtain⟨a0,a1,a2,a3⟩:=hx;have g0:=hfs 0 _ rfl;obtain⟨s0,b0,d0,_⟩:=DataW.trod_string underlying9 (show tr0 w n 9 [c0]=some y0 from g0);have g1:=hfs 1 _ rfl;obtain⟨s1,b1,d1,_⟩:=DataW.trod_string underlying9 (show tr0 w n 9 [c1]=some y1 from g1);have g2:=hfs 2 _ rfl;obtain⟨s2,b2,d2,_⟩:=DataW.trod_int underlying3 (show tr0 w n 3 [c2]=some y2 from g2);have g3:=hfs 3 _ rfl;obtain⟨s3,b3,d3,_⟩:=DataW.trod_int underlying3 (show tr0 w n 3 [c3]=some y3 from g3);rw[d0]at a0;simp only[DataW.lit.injEq,Lit.string.injEq,Lit.int.injEq,Lit.bool.injEq,true_and]at a0;rw[d1]at a1;simp only[DataW.lit.injEq,Lit.string.injEq,Lit.int.injEq,Lit.bool.injEq,true_and]at a1;rw[d2]at a2;simp only[DataW.lit.injEq,Lit.string.injEq,Lit.int.injEq,Lit.bool.injEq,true_and]at a2;rw[d3]at a3;simp only[DataW.lit.injEq,Lit.string.injEq,Lit.int.injEq,Lit.bool.injEq,true_and]at a3;simp only[aQa,and_true]at b0 b1 b2 b3;rw[b0,b1,b2,b3,dX a0,dX a1,a2,a3]
end
def E8:List (Int):=[0,1,28,2,29,14,24,3,30,22,20,15,25,17,4,8,31,27,13,23,21,19,16,7,26,12,18,6,11,5,10,9]
theorem aLk:(Rows.laid_math_bits_deBruijn32tab:DataW Unit)= .agg (E8.map (fun q:Int=>(.lit (.int .u8 q):DataW Unit))):=by kernel_rfl
def E9:List (Int):=[0,1,56,2,57,49,28,3,61,58,42,50,38,29,17,4,62,47,59,36,45,43,51,22,53,39,33,30,24,18,12,5,63,55,48,27,60,41,37,16,46,35,44,21,52,32,23,11,54,26,40,15,34,20,31,10,25,14,19,9,13,8,7,6]
theorem aLl:(Rows.laid_math_bits_deBruijn64tab:DataW Unit)= .agg (E9.map (fun q:Int=>(.lit (.int .u8 q):DataW Unit))):=by kernel_rfl
def E1:List (Int):=[1,10,100,1000,10000,100000,1000000,10000000,100000000,1000000000,10000000000,100000000000,1000000000000,10000000000000,100000000000000,1000000000000000,10000000000000000,100000000000000000,1000000000000000000,10000000000000000000]
theorem aLm:(Rows.laid_internal_strconv_uint64pow10:DataW Unit)= .agg (E1.map (fun q:Int=>(.lit (.int .u64 q):DataW Unit))):=by kernel_rfl
def E2:List (Int):=[1116352408,1899447441,3049323471,3921009573,961987163,1508970993,2453635748,2870763221,3624381080,310598401,607225278,1426881987,1925078388,2162078206,2614888103,3248222580,3835390401,4022224774,264347078,604807628,770255983,1249150122,1555081692,1996064986,2554220882,2821834349,2952996808,3210313671,3336571891,3584528711,113926993,338241895,666307205,773529912,1294757372,1396182291,1695183700,1986661051,2177026350,2456956037,2730485921,2820302411,3259730800,3345764771,3516065817,3600352804,4094571909,275423344,430227734,506948616,659060556,883997877,958139571,1322822218,1537002063,1747873779,1955562222,2024104815,2227730452,2361852424,2428436474,2756734187,3204031479,3329325298]
theorem aLn:(Rows.laid_rootcause_digest_constants:DataW Unit)= .agg (E2.map (fun q:Int=>(.lit (.int .u32 q):DataW Unit))):=by kernel_rfl
def E6:List (List UInt8):=[[97,102,116,101,114],[97,108,119,97,121,115],[97,110,100],[97,114,114,105,118,101,115],[98,111,111,108],[99,111,109,112,111,110,101,110,116],[99,111,117,110,116],[100,101,108,101,116,101],[100,111],[101,108,115,101],[101,120,105,115,116,115],[102,97,108,115,101],[102,101,116,99,104],[102,108,97,103],[102,108,101,101,116],[102,111,114,97,108,108],[104,97,115],[105,102],[105,109,112,108,105,101,115],[105,110],[105,110,116],[108,97,116,101,110,99,121],[108,105,110,107],[110,111,116],[110,111,119],[111,110],[111,110,99,101],[111,114],[112,114,101,118,105,111,117,115],[115,101,110,100],[115,105,110,99,101],[115,105,122,101],[115,116,111,112],[115,116,111,114,101],[116,97,98,108,101],[116,114,117,101],[118,97,114],[118,101,114,115,105,111,110],[119,104,105,108,101]]
theorem aLo:(Rows.laid_rootcause_lexer_words:DataW Unit)= .agg (E6.map (fun q:List UInt8=>(.lit (.string q):DataW Unit))):=by kernel_rfl
def E3:List (List UInt8):=[[46,46],[61,61],[33,61],[60,61],[62,61],[45,62],[123],[125],[40],[41],[91],[93],[44],[59],[58],[46],[61],[60],[62],[43],[45],[42],[47],[37],[95]]
theorem aLp:(Rows.laid_rootcause_lexer_symbols:DataW Unit)= .agg (E3.map (fun q:List UInt8=>(.lit (.string q):DataW Unit))):=by kernel_rfl
def E7:List (Int×Bool×Int×List UInt8):=[(0,false,0,[]),(0,false,7,[]),(0,false,7,[116,114,117,101]),(0,false,7,[102,97,108,115,101]),(0,false,7,[110,111,119]),(0,true,7,[]),(1,true,7,[]),(1,true,7,[104,97,115,32]),(0,true,7,[115,105,122,101,32]),(1,false,6,[45]),(1,false,6,[110,111,116,32]),(2,false,5,[32,42,32]),(2,false,5,[32,47,32]),(2,false,5,[32,37,32]),(2,false,4,[32,43,32]),(2,false,4,[32,45,32]),(2,false,3,[32,61,61,32]),(2,false,3,[32,33,61,32]),(2,false,3,[32,60,32]),(2,false,3,[32,60,61,32]),(2,false,3,[32,62,32]),(2,false,3,[32,62,61,32]),(2,false,2,[32,97,110,100,32]),(2,false,1,[32,111,114,32])]
theorem aLq:(Rows.laid_rootcause_syntax_shapes:DataW Unit)= .agg (E7.map (fun q:Int×Bool×Int×List UInt8=>(.agg [.lit (.int .i64 q.1), .lit (.bool q.2.1), .lit (.int .i64 q.2.2.1), .lit (.string q.2.2.2)]:DataW Unit))):=by kernel_rfl
def E4:List (Bool×Bool×Int×Int×Bool×Bool):=[(false,false,0,0,false,false),(true,false,1,1,false,false),(true,false,2,2,false,false),(true,false,1,1,false,false),(false,false,1,1,true,true),(false,false,1,1,true,false),(true,true,0,4,false,false),(false,true,1,5,false,false),(false,false,2,2,false,true),(true,false,1,1,false,true),(false,false,0,0,false,false)]
theorem aLr:(Rows.laid_rootcause_syntax_forms:DataW Unit)= .agg (E4.map (fun q:Bool×Bool×Int×Int×Bool×Bool=>(.agg [.lit (.bool q.1), .lit (.bool q.2.1), .lit (.int .i64 q.2.2.1), .lit (.int .i64 q.2.2.2.1), .lit (.bool q.2.2.2.2.1), .lit (.bool q.2.2.2.2.2)]:DataW Unit))):=by kernel_rfl
def E0:List (List UInt8×List UInt8×Int×Int):=[([],[],0,0),([99,111,110,115,116],[78],0,1),([118,97,114],[65],0,1),([112,97,114,97,109],[65],0,1),([102,108,97,103],[65],0,1),([110,111,119],[],0,1),([103,101,116],[65],1,1),([104,97,115],[65],1,1),([115,105,122,101],[65],0,1),([110,101,103],[],1,1),([110,111,116],[],1,1),([109,117,108],[],2,1),([100,105,118],[],2,1),([109,111,100],[],2,1),([97,100,100],[],2,1),([115,117,98],[],2,1),([101,113],[],2,1),([110,101],[],2,1),([108,116],[],2,1),([108,101],[],2,1),([103,116],[],2,1),([103,101],[],2,1),([97,110,100],[],2,1),([111,114],[],2,1),([115,101,116,118,97,114],[65],1,0),([112,117,116],[65],2,0),([100,101,108,101,116,101],[65],1,0),([106,117,109,112],[65],0,0),([98,114,97,110,99,104],[65],1,0),([99,111,115,116],[],0,0),([115,101,110,100],[65,66,78],0,0),([97,102,116,101,114],[66,78],1,0),([115,116,111,114,101],[66],2,0),([102,101,116,99,104],[65,66],1,0),([115,116,111,112],[],0,0)]
theorem aLs:(Rows.laid_rootcause_code_rows:DataW Unit)= .agg (E0.map (fun q:List UInt8×List UInt8×Int×Int=>(.agg [.lit (.string q.1), .lit (.string q.2.1), .lit (.int .i64 q.2.2.1), .lit (.int .i64 q.2.2.2)]:DataW Unit))):=by kernel_rfl
theorem aLt:gl=[ro (some ⟨6,0,none⟩) (E6.flatMap (fun q:List UInt8=>[.string ⟨(q).toArray⟩])),ro (some ⟨7,0,none⟩) (E7.flatMap (fun q:Int×Bool×Int×List UInt8=>[.int .i64 q.1, .bool q.2.1, .int .i64 q.2.2.1, .string ⟨(q.2.2.2).toArray⟩])),ro (some ⟨4,0,none⟩) (E4.flatMap (fun q:Bool×Bool×Int×Int×Bool×Bool=>[.bool q.1, .bool q.2.1, .int .i64 q.2.2.1, .int .i64 q.2.2.2.1, .bool q.2.2.2.2.1, .bool q.2.2.2.2.2]))]:=by kernel_rfl
set_option maxRecDepth 100000 in
theorem aLu:gA=[ro (some ⟨0,0,none⟩) (E0.flatMap (fun q:List UInt8×List UInt8×Int×Int=>[.string ⟨(q.1).toArray⟩, .string ⟨(q.2.1).toArray⟩, .int .i64 q.2.2.1, .int .i64 q.2.2.2])),ro (some ⟨1,0,none⟩) (E1.flatMap (fun q:Int=>[.int .u64 q])),ro (some ⟨2,0,none⟩) (E2.flatMap (fun q:Int=>[.int .u32 q])),ro (some ⟨3,0,none⟩) (E3.flatMap (fun q:List UInt8=>[.string ⟨(q).toArray⟩])),ro (some ⟨4,0,none⟩) (E4.flatMap (fun q:Bool×Bool×Int×Int×Bool×Bool=>[.bool q.1, .bool q.2.1, .int .i64 q.2.2.1, .int .i64 q.2.2.2.1, .bool q.2.2.2.2.1, .bool q.2.2.2.2.2])),ro (some ⟨6,0,none⟩) (E6.flatMap (fun q:List UInt8=>[.string ⟨(q).toArray⟩])),ro (some ⟨7,0,none⟩) (E7.flatMap (fun q:Int×Bool×Int×List UInt8=>[.int .i64 q.1, .bool q.2.1, .int .i64 q.2.2.1, .string ⟨(q.2.2.2).toArray⟩])),ro (some ⟨8,0,none⟩) (E8.flatMap (fun q:Int=>[.int .u8 q])),ro (some ⟨9,0,none⟩) (E9.flatMap (fun q:Int=>[.int .u8 q]))]:=by kernel_rfl
theorem aHp:cKV=E2.flatMap (fun q:Int=>[.int .u32 q]):=by kernel_rfl
theorem aHq:Uz.flatMap Rw.cells=E0.flatMap (fun q:List UInt8×List UInt8×Int×Int=>[.string ⟨(q.1).toArray⟩, .string ⟨(q.2.1).toArray⟩, .int .i64 q.2.2.1, .int .i64 q.2.2.2]):=by kernel_rfl
abbrev aEi:List (String×DataW Unit):=[("math/bits.deBruijn32tab",Rows.laid_math_bits_deBruijn32tab),("math/bits.deBruijn64tab",Rows.laid_math_bits_deBruijn64tab),("internal/strconv.uint64pow10",Rows.laid_internal_strconv_uint64pow10),("rootcause/digest.constants",Rows.laid_rootcause_digest_constants),("rootcause/lexer.words",Rows.laid_rootcause_lexer_words),("rootcause/lexer.symbols",Rows.laid_rootcause_lexer_symbols),("rootcause/syntax.shapes",Rows.laid_rootcause_syntax_shapes),("rootcause/syntax.forms",Rows.laid_rootcause_syntax_forms),("rootcause/code.rows",Rows.laid_rootcause_code_rows)]
set_option maxRecDepth 100000 in
theorem GK{W:World}(h:laidMetH prog aEi W):oks [gAc,ay,Gz,Xw] W:=by
 rw[MakeChecks.laidMetH_plain _ _ _ (by kernel_rfl)]at h;obtain⟨ps,hL,_⟩:=h;obtain⟨g0,t0,cs0,f0,p0,q0,hg0,ht0,hv0,hd0,hL,_⟩:=hL;obtain rfl:=aOj ((show prog.globalNamed "math/bits.deBruijn32tab" =some 8 by kernel_rfl).symm.trans hg0);obtain rfl:=aOj ((show(prog.globals[8]?).map (·.type)=some 95 by kernel_rfl).symm.trans ht0);have s8:=Rc (E:=E8) (cells:=(fun q:Int=>[.int .u8 q])) (n:=32) (z:=1) hg0 hv0 hd0 underlying95 (by kernel_rfl) (by kernel_rfl) aLk (by kernel_rfl) (fun _=>rfl) op0;obtain⟨g0,t0,cs0,f0,p0,q0,hg0,ht0,hv0,hd0,hL,_⟩:=hL;obtain rfl:=aOj ((show prog.globalNamed "math/bits.deBruijn64tab" =some 9 by kernel_rfl).symm.trans hg0);obtain rfl:=aOj ((show(prog.globals[9]?).map (·.type)=some 295 by kernel_rfl).symm.trans ht0);have s9:=Rc (E:=E9) (cells:=(fun q:Int=>[.int .u8 q])) (n:=64) (z:=1) hg0 hv0 hd0 underlying295 (by kernel_rfl) (by kernel_rfl) aLl (by kernel_rfl) (fun _=>rfl) op0;obtain⟨g0,t0,cs0,f0,p0,q0,hg0,ht0,hv0,hd0,hL,_⟩:=hL;obtain rfl:=aOj ((show prog.globalNamed "internal/strconv.uint64pow10" =some 1 by kernel_rfl).symm.trans hg0);obtain rfl:=aOj ((show(prog.globals[1]?).map (·.type)=some 323 by kernel_rfl).symm.trans ht0);have s1:=Rc (E:=E1) (cells:=(fun q:Int=>[.int .u64 q])) (n:=20) (z:=1) hg0 hv0 hd0 underlying323 (by kernel_rfl) (by kernel_rfl) aLm (by kernel_rfl) (fun _=>rfl) op1;obtain⟨g0,t0,cs0,f0,p0,q0,hg0,ht0,hv0,hd0,hL,_⟩:=hL;obtain rfl:=aOj ((show prog.globalNamed "rootcause/digest.constants" =some 2 by kernel_rfl).symm.trans hg0);obtain rfl:=aOj ((show(prog.globals[2]?).map (·.type)=some 340 by kernel_rfl).symm.trans ht0);have s2:=Rc (E:=E2) (cells:=(fun q:Int=>[.int .u32 q])) (n:=64) (z:=1) hg0 hv0 hd0 underlying340 (by kernel_rfl) (by kernel_rfl) aLn (by kernel_rfl) (fun _=>rfl) op2;obtain⟨g0,t0,cs0,f0,p0,q0,hg0,ht0,hv0,hd0,hL,_⟩:=hL;obtain rfl:=aOj ((show prog.globalNamed "rootcause/lexer.words" =some 6 by kernel_rfl).symm.trans hg0);obtain rfl:=aOj ((show(prog.globals[6]?).map (·.type)=some 364 by kernel_rfl).symm.trans ht0);have s6:=Rc (E:=E6) (cells:=(fun q:List UInt8=>[.string ⟨(q).toArray⟩])) (n:=39) (z:=1) hg0 hv0 hd0 underlying364 (by kernel_rfl) (by kernel_rfl) aLo (by kernel_rfl) (fun _=>rfl) op3;obtain⟨g0,t0,cs0,f0,p0,q0,hg0,ht0,hv0,hd0,hL,_⟩:=hL;obtain rfl:=aOj ((show prog.globalNamed "rootcause/lexer.symbols" =some 3 by kernel_rfl).symm.trans hg0);obtain rfl:=aOj ((show(prog.globals[3]?).map (·.type)=some 343 by kernel_rfl).symm.trans ht0);have s3:=Rc (E:=E3) (cells:=(fun q:List UInt8=>[.string ⟨(q).toArray⟩])) (n:=25) (z:=1) hg0 hv0 hd0 underlying343 (by kernel_rfl) (by kernel_rfl) aLp (by kernel_rfl) (fun _=>rfl) op3;obtain⟨g0,t0,cs0,f0,p0,q0,hg0,ht0,hv0,hd0,hL,_⟩:=hL;obtain rfl:=aOj ((show prog.globalNamed "rootcause/syntax.shapes" =some 7 by kernel_rfl).symm.trans hg0);obtain rfl:=aOj ((show(prog.globals[7]?).map (·.type)=some 365 by kernel_rfl).symm.trans ht0);have s7:=Rc (E:=E7) (cells:=(fun q:Int×Bool×Int×List UInt8=>[.int .i64 q.1, .bool q.2.1, .int .i64 q.2.2.1, .string ⟨(q.2.2.2).toArray⟩])) (n:=24) (z:=4) hg0 hv0 hd0 underlying365 (by kernel_rfl) (by kernel_rfl) aLq (by kernel_rfl) (fun _=>rfl) op4;obtain⟨g0,t0,cs0,f0,p0,q0,hg0,ht0,hv0,hd0,hL,_⟩:=hL;obtain rfl:=aOj ((show prog.globalNamed "rootcause/syntax.forms" =some 4 by kernel_rfl).symm.trans hg0);obtain rfl:=aOj ((show(prog.globals[4]?).map (·.type)=some 345 by kernel_rfl).symm.trans ht0);have s4:=Rc (E:=E4) (cells:=(fun q:Bool×Bool×Int×Int×Bool×Bool=>[.bool q.1, .bool q.2.1, .int .i64 q.2.2.1, .int .i64 q.2.2.2.1, .bool q.2.2.2.2.1, .bool q.2.2.2.2.2])) (n:=11) (z:=6) hg0 hv0 hd0 underlying345 (by kernel_rfl) (by kernel_rfl) aLr (by kernel_rfl) (fun _=>rfl) op5;obtain⟨g0,t0,cs0,f0,p0,q0,hg0,ht0,hv0,hd0,hL,_⟩:=hL;obtain rfl:=aOj ((show prog.globalNamed "rootcause/code.rows" =some 0 by kernel_rfl).symm.trans hg0);obtain rfl:=aOj ((show(prog.globals[0]?).map (·.type)=some 206 by kernel_rfl).symm.trans ht0);have s0:=Rc (E:=E0) (cells:=(fun q:List UInt8×List UInt8×Int×Int=>[.string ⟨(q.1).toArray⟩, .string ⟨(q.2.1).toArray⟩, .int .i64 q.2.2.1, .int .i64 q.2.2.2])) (n:=35) (z:=4) hg0 hv0 hd0 underlying206 (by kernel_rfl) (by kernel_rfl) aLs (by kernel_rfl) (fun _=>rfl) op6;have hgA:oks gA W:=by
  rw[aLu];intro c hc;simp only[aNx,aOe,aPh]at hc;rcases hc with rfl|rfl|rfl|rfl|rfl|rfl|rfl|rfl|rfl
  ·exact s0
  ·exact s1
  ·exact s2
  ·exact s3
  ·exact s4
  ·exact s6
  ·exact s7
  ·exact s8
  ·exact s9
 have hgl:oks gl W:=by
  rw[aLt];intro c hc;simp only[aNx,aOe,aPh]at hc;rcases hc with rfl|rfl|rfl
  ·exact s6
  ·exact s7
  ·exact s4
 intro c hc;simp only[aNx,aOe,aPh]at hc;rcases hc with rfl|rfl|rfl|rfl
 ·exact Gh jB hgA
 ·exact Gh aAk hgl
 · show(ro (some ⟨0,0,none⟩) (Uz.flatMap Rw.cells)).holds W
   rw[aHq];exact s0
 · show(ro (some ⟨2,0,none⟩) cKV).holds W
   rw[aHp];exact s2
end Go.Proofs.YtihgdnjkofpgiaaGreatDoor
