/- Merged out of R0, K1, Q4, Q5 by merge.py. Own text. -/
import Derived.Test.YtihgdnjkofpgiaaGreatDoorBa
import Derived.Laws.Strings
set_option linter.unusedVariables false
set_option linter.unusedSimpArgs false
set_option maxHeartbeats 2000000
set_option maxRecDepth 100000
namespace Go.Sep
open Go.RowKit Go.Flow Go.Mem
theorem list_eq_iff(s u:ByteArray):(s.toList==u.toList)=decide (s=u):=by
 rw[ByteArray.toList_eq,ByteArray.toList_eq,Bool.eq_iff_iff,decide_eq_true_eq,beq_iff_eq]
 refine⟨fun h=>?_,fun h=>by rw[h]⟩
 cases s;cases u
 simp only at h
 rw[Array.toList_inj.1 h]
theorem Rd.eqlZ{P:Program}{o:Oper}{ρ:Slots}{Γ:List Chunk}{x y:Operand}{t t':TypeId}{s u:ByteArray}(ho:o.op= .binOp .eql t x y t')(hx:ev ρ x=some (.string s))(hy:ev ρ y=some (.string u)):Rd P o ρ Γ (.bool (decide (s=u))):=Rd.bin ho hx hy fun w=>by
 simp[eqGuard,binOp,Op.equal,Op.stringOp,list_eq_iff]
theorem Rd.neqZ{P:Program}{o:Oper}{ρ:Slots}{Γ:List Chunk}{x y:Operand}{t t':TypeId}{s u:ByteArray}(ho:o.op= .binOp .neq t x y t')(hx:ev ρ x=some (.string s))(hy:ev ρ y=some (.string u)):Rd P o ρ Γ (.bool (decide (s≠u))):=Rd.bin ho hx hy fun w=>by
 simp[eqGuard,binOp,Op.equal,Op.stringOp,list_eq_iff]
end Go.Sep
namespace Go.Proofs.YtihgdnjkofpgiaaGreatDoor
open Go.RowKit Go.Flow Go.Mem Go.Sep Go.In
open Go.In
theorem Rd.indexVS{P:Program}{o:Oper}{ρ:Slots}{Γ:List Chunk}{x y:Operand}{t e:TypeId}{n j:Nat}{k:IntKind}{xs:List Value}{v:Value}(ho:o.op= .index t x y)(ht:P.underlying t=some (.array n e))(he:P.underlying e=some .string)(h1:(P.info? e).map (·.size)=some 1)(hx:ev ρ x=some (.agg xs.toArray))(hy:ev ρ y=some (.int k (j:Int)))(hj:j<n)(hv:xs[j]?=some v):Rd P o ρ Γ v:=fun a w ha _=>by
 obtain⟨i,hi,h1⟩:=Option.map_eq_some_iff.1 h1
 unfold execOp
 simp[ho,ha.eval hx,ha.eval hy,Instr.index,asIntOf,run_underlying ht,sizeOf,typeInfo,hi,h1,part,isAgg,run_underlying he,hv]
 omega
theorem Rd.letN{P:Program}{o:Oper}{ρ:Slots}{Γ:List Chunk}{x y:Operand}{t:TypeId}{s:List Nat}{j c:Nat}{k:IntKind}(ho:o.op= .index t x y)(ht:P.underlying t=some .string)(hx:ev ρ x=some (.string (bytesOf s)))(hy:ev ρ y=some (.int k (j:Int)))(hj:s[j]?=some c)(hc:c<256):Rd P o ρ Γ (.int .u8 ((c:Nat):Int)):=by
 have hl:=(List.getElem?_eq_some_iff.1 hj).1
 have hs:j<(bytesOf s).size:=by rw[bytes_size];exact hl
 have e1:(bytesOf s).data[j]?=some (UInt8.ofNat c):=by unfold bytesOf;simp[hj]
 have e:((bytesOf s).data[j]'hs).toNat=c:=by
  obtain⟨_,e2⟩:=Array.getElem?_eq_some_iff.1 e1
  rw[e2,UInt8.toNat_ofNat',Nat.mod_eq_of_lt hc]
 have h:=Rd.indexStr (P:=P) (Γ:=Γ) ho ht hx hy hs
 rw[e]at h
 exact h
theorem Does.sub{P:Program}{f:FuncId}{args:List Value}{Γ Γ1 Δ:List Chunk}{R:Value→List Chunk→Prop}{is:List Nat}(h:Does P f args Γ1 R)(hp:pull Γ is=some (Γ1,Δ)):Does P f args Γ R:=fun w hs=>
 (h w ((hs.perm (pull_perm hp)).left)).mono fun _ _ ⟨v,Γ',h1,h2,h3⟩=>⟨v,Γ',h1,h2,(Post.at_ hp hs h3).drop⟩
def wordsL:List ByteArray:=[⟨#[97,102,116,101,114]⟩,⟨#[97,108,119,97,121,115]⟩,⟨#[97,110,100]⟩,⟨#[97,114,114,105,118,101,115]⟩,⟨#[98,111,111,108]⟩,⟨#[99,111,109,112,111,110,101,110,116]⟩,⟨#[99,111,117,110,116]⟩,⟨#[100,101,108,101,116,101]⟩,⟨#[100,111]⟩,⟨#[101,108,115,101]⟩,⟨#[101,120,105,115,116,115]⟩,⟨#[102,97,108,115,101]⟩,⟨#[102,101,116,99,104]⟩,⟨#[102,108,97,103]⟩,⟨#[102,108,101,101,116]⟩,⟨#[102,111,114,97,108,108]⟩,⟨#[104,97,115]⟩,⟨#[105,102]⟩,⟨#[105,109,112,108,105,101,115]⟩,⟨#[105,110]⟩,⟨#[105,110,116]⟩,⟨#[108,97,116,101,110,99,121]⟩,⟨#[108,105,110,107]⟩,⟨#[110,111,116]⟩,⟨#[110,111,119]⟩,⟨#[111,110]⟩,⟨#[111,110,99,101]⟩,⟨#[111,114]⟩,⟨#[112,114,101,118,105,111,117,115]⟩,⟨#[115,101,110,100]⟩,⟨#[115,105,110,99,101]⟩,⟨#[115,105,122,101]⟩,⟨#[115,116,111,112]⟩,⟨#[115,116,111,114,101]⟩,⟨#[116,97,98,108,101]⟩,⟨#[116,114,117,101]⟩,⟨#[118,97,114]⟩,⟨#[118,101,114,115,105,111,110]⟩,⟨#[119,104,105,108,101]⟩]
theorem words_at{j:Nat}{w:ByteArray}(h:wordsL[j]?=some w):(wordsL.flatMap encZ)[j]?=some (.string w):=by
 have e:∀l:List ByteArray,l.flatMap encZ=l.map Value.string:=fun l=>by
  induction l with
  |nil=>rfl
  |cons a r ih=>rw[List.flatMap_cons,ih];rfl
 rw[e,List.getElem?_map,h];rfl
structure Sh where
 n:Nat
 nm:Bool
 lv:Int
 tx:ByteArray
def Sh.cells(e:Sh):List Value:=[nv e.n, .bool e.nm, .int .i64 e.lv, .string e.tx]
instance encSh:Enc Sh.cells 4:=⟨fun _=>rfl,fun e u hu=>by
 simp only[Sh.cells,List.mem_cons,List.not_mem_nil,or_false]at hu
 rcases hu with rfl|rfl|rfl|rfl<;>rfl⟩
structure Fm where
 a:Bool
 b:Bool
 c:Nat
 d:Nat
 e:Bool
 f:Bool
def Fm.cells(x:Fm):List Value:=[.bool x.a, .bool x.b,nv x.c,nv x.d, .bool x.e, .bool x.f]
instance encFm:Enc Fm.cells 6:=⟨fun _=>rfl,fun e u hu=>by
 simp only[Fm.cells,List.mem_cons,List.not_mem_nil,or_false]at hu
 rcases hu with rfl|rfl|rfl|rfl|rfl|rfl<;>rfl⟩
def shTab:List Sh:=[⟨0,false,0,⟨#[]⟩⟩,⟨0,false,7,⟨#[]⟩⟩,⟨0,false,7,⟨#[116,114,117,101]⟩⟩,⟨0,false,7,⟨#[102,97,108,115,101]⟩⟩,⟨0,false,7,⟨#[110,111,119]⟩⟩,⟨0,true,7,⟨#[]⟩⟩,⟨1,true,7,⟨#[]⟩⟩,⟨1,true,7,⟨#[104,97,115,32]⟩⟩,⟨0,true,7,⟨#[115,105,122,101,32]⟩⟩,⟨1,false,6,⟨#[45]⟩⟩,⟨1,false,6,⟨#[110,111,116,32]⟩⟩,⟨2,false,5,⟨#[32,42,32]⟩⟩,⟨2,false,5,⟨#[32,47,32]⟩⟩,⟨2,false,5,⟨#[32,37,32]⟩⟩,⟨2,false,4,⟨#[32,43,32]⟩⟩,⟨2,false,4,⟨#[32,45,32]⟩⟩,⟨2,false,3,⟨#[32,61,61,32]⟩⟩,⟨2,false,3,⟨#[32,33,61,32]⟩⟩,⟨2,false,3,⟨#[32,60,32]⟩⟩,⟨2,false,3,⟨#[32,60,61,32]⟩⟩,⟨2,false,3,⟨#[32,62,32]⟩⟩,⟨2,false,3,⟨#[32,62,61,32]⟩⟩,⟨2,false,2,⟨#[32,97,110,100,32]⟩⟩,⟨2,false,1,⟨#[32,111,114,32]⟩⟩]
def fmTab:List Fm:=[⟨false,false,0,0,false,false⟩,⟨true,false,1,1,false,false⟩,⟨true,false,2,2,false,false⟩,⟨true,false,1,1,false,false⟩,⟨false,false,1,1,true,true⟩,⟨false,false,1,1,true,false⟩,⟨true,true,0,4,false,false⟩,⟨false,true,1,5,false,false⟩,⟨false,false,2,2,false,true⟩,⟨true,false,1,1,false,true⟩,⟨false,false,0,0,false,false⟩]
def shO(o:Nat):Sh:=shTab.getD o ⟨0,false,0,⟨#[]⟩⟩
def fmO(o:Nat):Fm:=fmTab.getD o ⟨false,false,0,0,false,false⟩
theorem sh_at{o:Nat}(h:o≤23):shTab[o]?=some (shO o):=by
 have hl:o<shTab.length:=by show o<24;omega
 rw[shO,List.getD_eq_getElem?_getD,gge hl];rfl
theorem fm_at{o:Nat}(h:o≤10):fmTab[o]?=some (fmO o):=by
 have hl:o<fmTab.length:=by show o<11;omega
 rw[fmO,List.getD_eq_getElem?_getD,gge hl];rfl
abbrev wordsC:Chunk:=ros encZ (some ⟨6,0,none⟩) wordsL
abbrev shC:Chunk:=ros Sh.cells (some ⟨7,0,none⟩) shTab
abbrev fmC:Chunk:=ros Fm.cells (some ⟨4,0,none⟩) fmTab
abbrev gl:List Chunk:=[wordsC,shC,fmC]
def glc:Chunk:=all gl
theorem gl_owns:owns gl=[]:=rfl
theorem oks_gl{Γ:List Chunk}(i:Nat)(h:Γ[i]?=some glc):∀w,oks Γ w→oks gl w:=fun w hw=>(hw _ (mog h):sat gl w).each
def letB(c:Nat):Bool:=(decide (97≤c)&&decide (c≤122))||(decide (65≤c)&&decide (c≤90))
def digB(c:Nat):Bool:=decide (48≤c)&&decide (c≤57)
def insB(c:Nat):Bool:=letB c||(digB c||decide (c=95))
theorem letter_fn(c:Nat):
    Does Tryz.prog 212 [.int .u8 ((c:Nat):Int)] [] (fun v _=>v= .bool (letB c)):=by
 refine Does.enter Tryz.func212 rfl Tryz.ntmps212 rfl (fun w0=>?_)
 refine To.z 9 ?_
 refine To.rdP rfl rfl rfl (Rd.move rfl rfl) (fun g5=>?_) (fun g5=>?_)
 refine To.z 3 ?_
 refine To.rdP rfl rfl rfl (Rd.move rfl rfl) (fun g9=>?_) (fun g9=>?_)
 refine To.z 11 ?_
 refine To.end1 (.inl rfl) Tryz.results212 rfl ?_
 refine congrArg Value.bool ?_
 rw[Bool.eq_iff_iff]
 simp only[letB,Bool.or_eq_true,Bool.and_eq_true,decide_eq_true_eq,Bool.false_eq_true,iff_false,false_iff,true_iff,iff_true]
 omega
 refine To.z 2 ?_
 refine To.rdP rfl rfl rfl (Rd.move rfl rfl) (fun g12=>?_) (fun g12=>?_)
 refine To.z 8 ?_
 refine To.end1 (.inl rfl) Tryz.results212 rfl ?_
 refine congrArg Value.bool ?_
 rw[Bool.eq_iff_iff]
 simp only[letB,Bool.or_eq_true,Bool.and_eq_true,decide_eq_true_eq,Bool.false_eq_true,iff_false,false_iff,true_iff,iff_true]
 omega
 refine To.z 8 ?_
 refine To.end1 (.inl rfl) Tryz.results212 rfl ?_
 refine congrArg Value.bool ?_
 rw[Bool.eq_iff_iff]
 simp only[letB,Bool.or_eq_true,Bool.and_eq_true,decide_eq_true_eq,Bool.false_eq_true,iff_false,false_iff,true_iff,iff_true]
 omega
 refine To.z 6 ?_
 refine To.rdP rfl rfl rfl (Rd.move rfl rfl) (fun g12=>?_) (fun g12=>?_)
 refine To.z 8 ?_
 refine To.end1 (.inl rfl) Tryz.results212 rfl ?_
 refine congrArg Value.bool ?_
 rw[Bool.eq_iff_iff]
 simp only[letB,Bool.or_eq_true,Bool.and_eq_true,decide_eq_true_eq,Bool.false_eq_true,iff_false,false_iff,true_iff,iff_true]
 omega
 refine To.z 8 ?_
 refine To.end1 (.inl rfl) Tryz.results212 rfl ?_
 refine congrArg Value.bool ?_
 rw[Bool.eq_iff_iff]
 simp only[letB,Bool.or_eq_true,Bool.and_eq_true,decide_eq_true_eq,Bool.false_eq_true,iff_false,false_iff,true_iff,iff_true]
 omega
theorem digit_fn(c:Nat):
    Does Tryz.prog 216 [.int .u8 ((c:Nat):Int)] [] (fun v _=>v= .bool (digB c)):=by
 refine Does.enter Tryz.func216 rfl Tryz.ntmps216 rfl (fun w0=>?_)
 refine To.z 9 ?_
 refine To.rdP rfl rfl rfl (Rd.move rfl rfl) (fun g5=>?_) (fun g5=>?_)
 refine To.z 7 ?_
 refine To.end1 (.inl rfl) Tryz.results216 rfl ?_
 refine congrArg Value.bool ?_
 rw[Bool.eq_iff_iff]
 simp only[digB,Bool.or_eq_true,Bool.and_eq_true,decide_eq_true_eq,Bool.false_eq_true,iff_false,false_iff,true_iff,iff_true]
 omega
 refine To.z 7 ?_
 refine To.end1 (.inl rfl) Tryz.results216 rfl ?_
 refine congrArg Value.bool ?_
 rw[Bool.eq_iff_iff]
 simp only[digB,Bool.or_eq_true,Bool.and_eq_true,decide_eq_true_eq,Bool.false_eq_true,iff_false,false_iff,true_iff,iff_true]
 omega
theorem inside_fn(c:Nat):
    Does Tryz.prog 214 [.int .u8 ((c:Nat):Int)] [] (fun v _=>v= .bool (insB c)):=by
 refine Does.enter Tryz.func214 rfl Tryz.ntmps214 rfl (fun w0=>?_)
 refine To.z 8 ?_
 refine To.cV rfl rfl rfl (Ent.fn rfl rfl ca212) (letter_fn c) rfl (ocn _) ?_
 refine To.rdB rfl rfl rfl (Rd.move rfl rfl) (fun g5=>?_) (fun g5=>?_)
 refine To.z 11 ?_
 refine To.end1 (.inl rfl) Tryz.results214 rfl ?_
 refine congrArg Value.bool ?_
 simp[insB,g5]<;>omega
 refine To.m ?_
 refine To.cV rfl rfl rfl (Ent.fn rfl rfl ca216) (digit_fn c) rfl (ocn _) (To.pF ?_)
 refine To.rdB rfl rfl rfl (Rd.move rfl rfl) (fun g9=>?_) (fun g9=>?_)
 refine To.z 7 ?_
 refine To.end1 (.inl rfl) Tryz.results214 rfl ?_
 refine congrArg Value.bool ?_
 simp[insB,g5,g9]<;>omega
 refine To.z 7 ?_
 refine To.end1 (.inl rfl) Tryz.results214 rfl ?_
 refine congrArg Value.bool ?_
 simp[insB,g5,g9]<;>omega
theorem prefix_fn(s:List Nat)(hs:∀x∈s,x<256∧insB x=true)(hl:s.length≤12):
    Does Tryz.prog 213 [.string (bytesOf s), .func (.func 214) #[] #[]] [] (fun v _=>v=nv s.length):=by
 refine Does.enter Tryz.func213 rfl Tryz.ntmps213 rfl (fun w0=>?_)
 refine To.z 12 ?_
 refine To.sub [(0, .string (bytesOf s)),(1, .func (.func 214) #[] #[]),(5,nv 0)] ⟨rfl,rfl,rfl,trivial⟩ ?_
 refine To.only [] rfl ?_
 refine To.loop (fun mz ρ Γ=>∃(j:Nat),ρ=[(0, .string (bytesOf s)),(1, .func (.func 214) #[] #[]),(5,nv j)]∧Γ=[]∧mz=s.length-j∧(j≤s.length)) (s.length-0) ⟨0,rfl,rfl,rfl,(Nat.zero_le _)⟩ ?_
 rintro mz _ _ ⟨j,rfl,rfl,rfl,hj⟩
 refine To.z 5 ?_
 refine To.r (Rd.lenB rfl Tryz.underlying9 rfl) ?_
 refine To.lt ?_
 refine To.rdP rfl rfl rfl (Rd.move rfl rfl) (fun g10=>?_) (fun g10=>?_)
 refine To.z 3 ?_
 obtain⟨c,hc⟩:∃c,s[j]?=some c:=⟨_,gge (by omega)⟩
 refine To.r (Rd.letN (j:=j) rfl Tryz.underlying9 rfl rfl hc (hs _ (mog hc)).1) ?_
 refine To.cV rfl rfl rfl (Ent.func (first:=[]) (captured:=[]) rfl rfl rfl ca214) ((inside_fn c).mono (R':=fun v _=>v= .bool true) (fun v _ h=>by rw[h,(hs c (mog hc)).2])) rfl (ocn _) ?_
 refine To.z 14 ?_
 refine To.sub [(0, .string (bytesOf s)),(1, .func (.func 214) #[] #[]),(5,nv ((j+1)))] ⟨rfl,rfl,rfl,trivial⟩ ?_
 refine To.only [] rfl ?_
 refine To.ag (s.length-(j+1)) (by omega) ⟨j+1,rfl,rfl,rfl,(by omega)⟩
 refine To.z 21 ?_
 refine To.end1 (.inl rfl) Tryz.results213 rfl ?_
 exact congrArg (Value.int .i64) (by omega)
theorem keyword_fn(s:List Nat)(hk:∀w∈wordsL,w≠bytesOf s):
    Does Tryz.prog 215 [.string (bytesOf s)] [wordsC] (fun v _=>v= .bool false):=by
 refine Does.enter Tryz.func215 rfl Tryz.ntmps215 rfl (fun w0=>?_)
 refine To.z 8 ?_
 refine To.r (Rd.lS (i:=0) (us:=wordsL.flatMap encZ) rfl rfl r364 rfl (ro_gives (A:=some ⟨6,0,none⟩) (o:=0) (k:=39) rfl) rfl) ?_
 refine To.z 4 ?_
 refine To.sub [(0, .string (bytesOf s)),(5, .agg (wordsL.flatMap encZ).toArray),(6,nv 0)] ⟨rfl,rfl,rfl,trivial⟩ ?_
 refine To.only [0] rfl ?_
 refine To.loop (fun mz ρ Γ=>∃(j:Nat),ρ=[(0, .string (bytesOf s)),(5, .agg (wordsL.flatMap encZ).toArray),(6,nv j)]∧Γ=[wordsC]∧mz=39-j∧(j≤39)) (39-0) ⟨0,rfl,rfl,rfl,(Nat.zero_le _)⟩ ?_
 rintro mz _ _ ⟨j,rfl,rfl,rfl,hj⟩
 refine To.z 6 ?_
 refine To.cp rfl (fun k7=>?_) (fun k7=>?_)
 have hlt:j<39:=by omega
 obtain⟨w,hw⟩:∃w,wordsL[j]?=some w:=⟨_,gge (show j<wordsL.length from hlt)⟩
 refine To.z 6 ?_
 refine To.r (Rd.indexVS (xs:=wordsL.flatMap encZ) rfl Tryz.underlying364 Tryz.underlying9 (by kernel_rfl) rfl rfl hlt (words_at hw)) ?_
 refine To.z 7 ?_
 refine To.r (Rd.eqlZ rfl rfl rfl) ?_
 refine To.n (To.t ?_)
 refine To.cp rfl (fun k11=>?_) (fun k11=>?_)
 exact absurd k11 (hk w (mog hw))
 refine To.z 8 ?_
 refine To.sub [(0, .string (bytesOf s)),(5, .agg (wordsL.flatMap encZ).toArray),(6,nv ((j+1)))] ⟨rfl,rfl,rfl,trivial⟩ ?_
 refine To.only [0] rfl ?_
 refine To.ag (39-(j+1)) (by omega) ⟨j+1,rfl,rfl,rfl,(by omega)⟩
 refine To.z 11 ?_
 refine To.end1 (.inl rfl) Tryz.results215 rfl ?_
 rfl
theorem lread_fn(s:List Nat)(c:Nat)(h0:s[0]?=some c)(hc:letB c=true)(hs:∀x∈s,x<256∧insB x=true)(hl:s.length≤12)(hk:∀w∈wordsL,w≠bytesOf s):
    Does Tryz.prog 172 [.string (bytesOf s)] [wordsC] (fun v _=>v= .tuple #[.int .u8 1,nv s.length]):=by
 refine Does.enter Tryz.func172 rfl Tryz.ntmps172 rfl (fun w0=>?_)
 refine To.z 10 ?_
 refine To.r (Rd.letN (j:=0) rfl Tryz.underlying9 rfl rfl h0 (hs _ (mog h0)).1) ?_
 refine To.z 7 ?_
 refine To.cV rfl rfl rfl (Ent.fn rfl rfl ca212) ((letter_fn c).mono (R':=fun v _=>v= .bool true) (fun v _ h=>by rw[h,hc])) rfl (ocn _) ?_
 refine To.z 7 ?_
 refine To.cV rfl rfl rfl (Ent.fn rfl rfl ca213) (prefix_fn s hs hl) rfl (ocn _) ?_
 refine To.z 8 ?_
 refine To.r (Rd.as (v':= .string (bytesOf s)) (congrArg (fun l=>Value.string (bytesOf l)) (List.take_of_length_le (Nat.le_refl _))) (Rd.strSl (a:=0) (b:=s.length) rfl Tryz.underlying9 rfl rfl ⟨_,rfl⟩ (Nat.zero_le _) (Nat.le_refl _))) ?_
 refine To.cV rfl rfl rfl (Ent.fn rfl rfl ca215) (keyword_fn s hk) rfl (ocs (oca 0 rfl) (ocn _)) ?_
 refine To.z 11 ?_
 refine To.cp rfl (fun k32=>?_) (fun k32=>?_)
 refine To.z 10 ?_
 refine To.end2 (.inl rfl) Tryz.results172 rfl rfl ?_
 rfl
 exact absurd hl (by omega)
theorem isn_fn(s:List Nat)(c:Nat)(h0:s[0]?=some c)(hc:letB c=true)(hs:∀x∈s,x<256∧insB x=true)(hl:s.length≤12)(hk:∀w∈wordsL,w≠bytesOf s)(hne:bytesOf s≠nE):
    Does Tryz.prog 116 [.string (bytesOf s)] [wordsC] (fun v _=>v= .bool true):=by
 refine Does.enter Tryz.func116 rfl Tryz.ntmps116 rfl (fun w0=>?_)
 refine To.z 9 ?_
 refine To.r (Rd.eqlZ rfl rfl rfl) ?_
 refine To.n (To.t ?_)
 refine To.cp rfl (fun k6=>?_) (fun k6=>?_)
 exact absurd k6 hne
 refine To.z 5 ?_
 refine To.cV rfl rfl rfl (Ent.fn rfl rfl ca172) (lread_fn s c h0 hc hs hl hk) rfl (ocs (oca 0 rfl) (ocn _)) ?_
 refine To.z 14 ?_
 refine To.r (Rd.lenB rfl Tryz.underlying9 rfl) ?_
 refine To.z 6 ?_
 refine To.end1 (.inl rfl) Tryz.results116 rfl ?_
 exact congrArg Value.bool (decide_eq_true rfl)
theorem shape0_fn(o:Nat)(h1:1≤o)(h2:o≤23):
    Does Tryz.prog 219 [.int .u8 ((o:Nat):Int)] [shC] (fun v Γ'=>v= .tuple #[.agg (Sh.cells (shO o)).toArray, .bool true]∧Γ'=[]):=by
 refine Does.enter Tryz.func219 rfl Tryz.ntmps219 rfl (fun w0=>?_)
 refine To.s (To.g ?_)
 refine To.al fun b2=>?_
 refine To.z 8 ?_
 refine To.rdP rfl rfl rfl (Rd.move rfl rfl) (fun g6=>?_) (fun g6=>?_)
 exact absurd g6 (by omega)
 refine To.z 5 ?_
 refine To.cp rfl (fun k9=>?_) (fun k9=>?_)
 exact absurd k9 (by omega)
 refine To.z 5 ?_
 refine To.r (Rd.indexArr (j:=o) rfl (ArrTy.of (size:=4) Tryz.underlying365 (by kernel_rfl)) rfl rfl (by omega)) ?_
 refine To.r (Rd.lS (i:=1) rfl rfl r349 rfl (rsg encSh (A:=some ⟨7,0,none⟩) (sh_at (o:=o) (by omega))) (encSh.len _)) ?_
 refine To.z 5 ?_
 refine To.endCT [] rfl (.inl rfl) Tryz.results219 rfl (i:=0) rfl r349 rfl rfl ?_
 exact⟨rfl,rfl⟩
theorem form0_fn(o:Nat)(h1:1≤o)(h2:o≤10):
    Does Tryz.prog 173 [.int .u8 ((o:Nat):Int)] [fmC] (fun v Γ'=>v= .tuple #[.agg (Fm.cells (fmO o)).toArray, .bool true]∧Γ'=[]):=by
 refine Does.enter Tryz.func173 rfl Tryz.ntmps173 rfl (fun w0=>?_)
 refine To.s (To.g ?_)
 refine To.al fun b2=>?_
 refine To.z 8 ?_
 refine To.rdP rfl rfl rfl (Rd.move rfl rfl) (fun g6=>?_) (fun g6=>?_)
 exact absurd g6 (by omega)
 refine To.z 5 ?_
 refine To.cp rfl (fun k9=>?_) (fun k9=>?_)
 exact absurd k9 (by omega)
 refine To.z 5 ?_
 refine To.r (Rd.indexArr (j:=o) rfl (ArrTy.of (size:=6) Tryz.underlying345 (by kernel_rfl)) rfl rfl (by omega)) ?_
 refine To.r (Rd.lS (i:=1) rfl rfl r305 rfl (rsg encFm (A:=some ⟨4,0,none⟩) (fm_at (o:=o) (by omega))) (encFm.len _)) ?_
 refine To.z 5 ?_
 refine To.endCT [] rfl (.inl rfl) Tryz.results173 rfl (i:=0) rfl r305 rfl rfl ?_
 exact⟨rfl,rfl⟩
open Go.RowKit Go.Flow Go.Mem Go.Sep Go.In
open Go.In
def nmsL:List (List Nat):=[[120,48],[120,49],[120,50],[112,48],[112,49],[102,48],[102,49],[104,48],[104,49],[104,50],[98,48],[116,48],[97],[98],[99],[102,108,101,101,116,49],[102],[120],[110],[116],[104],[105],[103],[107],[106]]
def isNm(s:ByteArray):Prop:=∃t∈nmsL,s=bytesOf t
theorem nms_good:∀t∈nmsL,((∃c,t[0]?=some c∧letB c=true)∧(∀x∈t,x<256∧insB x=true)∧t.length≤12)∧(∀w∈wordsL,w≠bytesOf t)∧bytesOf t≠nE:=by
 have h:nmsL.all (fun t=>(letB (t.getD 0 0)&&decide (0<t.length))&&(t.all (fun x=>decide (x<256)&&insB x)&&decide (t.length≤12))&&(wordsL.all (fun w=>decide (w≠bytesOf t))&&decide (bytesOf t≠nE)))=true:=by decide+kernel
 intro t ht
 have h:=List.all_eq_true.1 h t ht
 simp only[Bool.and_eq_true,List.all_eq_true,decide_eq_true_eq]at h
 obtain⟨⟨⟨h1,h2⟩,h3,h4⟩,h5,h6⟩:=h
 exact⟨⟨⟨t.getD 0 0,by rw[List.getD_eq_getElem?_getD,gge h2];rfl,h1⟩,h3,h4⟩,h5,h6⟩
theorem isname_fn{s:ByteArray}(h:isNm s):Does Tryz.prog 116 [.string s] gl (fun v _=>v= .bool true):=by
 obtain⟨t,ht,rfl⟩:=h
 obtain⟨⟨⟨c,h0,hc⟩,hs,hl⟩,hk,hne⟩:=nms_good t ht
 exact Does.sub (is:=[0]) (isn_fn t c h0 hc hs hl hk hne) rfl
theorem isNm_x{k:Nat}(h:k<3):isNm (nm 120 k):=by
 match k,h with
 |0,_=>exact⟨_,(by decide:[120,48]∈nmsL),rfl⟩
 |1,_=>exact⟨_,(by decide:[120,49]∈nmsL),rfl⟩
 |2,_=>exact⟨_,(by decide:[120,50]∈nmsL),rfl⟩
theorem isNm_p{k:Nat}(h:k<2):isNm (nm 112 k):=by
 match k,h with
 |0,_=>exact⟨_,(by decide:[112,48]∈nmsL),rfl⟩
 |1,_=>exact⟨_,(by decide:[112,49]∈nmsL),rfl⟩
theorem isNm_f{k:Nat}(h:k<2):isNm (nm 102 k):=by
 match k,h with
 |0,_=>exact⟨_,(by decide:[102,48]∈nmsL),rfl⟩
 |1,_=>exact⟨_,(by decide:[102,49]∈nmsL),rfl⟩
theorem isNm_h{k:Nat}(h:k<3):isNm (nm 104 k):=by
 match k,h with
 |0,_=>exact⟨_,(by decide:[104,48]∈nmsL),rfl⟩
 |1,_=>exact⟨_,(by decide:[104,49]∈nmsL),rfl⟩
 |2,_=>exact⟨_,(by decide:[104,50]∈nmsL),rfl⟩
theorem isNm_c{k:Nat}(h:k<3):isNm (nC k):=by
 match k,h with
 |0,_=>exact⟨_,(by decide:[97]∈nmsL),rfl⟩
 |1,_=>exact⟨_,(by decide:[98]∈nmsL),rfl⟩
 |2,_=>exact⟨_,(by decide:[99]∈nmsL),rfl⟩
theorem isNm_b0:isNm nB0:=⟨_,(by decide:[98,48]∈nmsL),rfl⟩
theorem isNm_t0:isNm nT0:=⟨_,(by decide:[116,48]∈nmsL),rfl⟩
open Go.RowKit Go.Flow Go.Mem Go.Sep Go.In
open Go.In
def opnL:List Nat:=[0,0,0,0,0,0,1,1,0,1,1,2,2,2,2,2,2,2,2,2,2,2,2,2]
def namL:List Bool:=[false,false,false,false,false,true,true,true,true,false,false,false,false,false,false,false,false,false,false,false,false,false,false,false]
theorem sh_is:∀o,o≤23→(shO o).n=opnL.getD o 0∧(shO o).nm=namL.getD o false:=by decide
theorem shape_fn{o:Nat}(h1:1≤o)(h2:o≤23):Does Tryz.prog 219 [.int .u8 ((o:Nat):Int)] gl (fun v Γ'=>∃(c:Int) (d:ByteArray),v= .tuple #[.agg #[nv (opnL.getD o 0), .bool (namL.getD o false), .int .i64 c, .string d], .bool true]∧Γ'=[]):=
 (Does.sub (is:=[1]) (shape0_fn o h1 h2) rfl).mono fun v Γ' hv=>⟨(shO o).lv,(shO o).tx,by rw[hv.1,←(sh_is o h2).1,←(sh_is o h2).2];rfl,hv.2⟩
def frmL:List (Bool×Bool×Nat×Nat×Bool×Bool):=[(false,false,0,0,false,false),(true,false,1,1,false,false),(true,false,2,2,false,false),(true,false,1,1,false,false),(false,false,1,1,true,true),(false,false,1,1,true,false),(true,true,0,4,false,false),(false,true,1,5,false,false),(false,false,2,2,false,true),(true,false,1,1,false,true),(false,false,0,0,false,false)]
abbrev frm(k:Nat):=frmL.getD k (false,false,0,0,false,false)
theorem fm_is(k:Nat)(hk:k≤10):((fmO k).a,(fmO k).b,(fmO k).c,(fmO k).d,(fmO k).e,(fmO k).f)=frm k:=by
 have h:(List.range 11).all (fun k=>((fmO k).a,(fmO k).b,(fmO k).c,(fmO k).d,(fmO k).e,(fmO k).f)==frm k)=true:=by decide+kernel
 exact eq_of_beq (List.all_eq_true.1 h k (List.mem_range.2 (by omega)))
theorem form_fn{k:Nat}(h1:1≤k)(h2:k≤10):Does Tryz.prog 173 [.int .u8 ((k:Nat):Int)] gl (fun v _=>v= .tuple #[.agg #[.bool (frm k).1, .bool (frm k).2.1,nv ((frm k).2.2.1),nv ((frm k).2.2.2.1), .bool (frm k).2.2.2.2.1, .bool (frm k).2.2.2.2.2], .bool true]):=
 (Does.sub (is:=[2]) (form0_fn k h1 h2) rfl).mono fun v Γ' hv=>by rw[hv.1,←fm_is k h2];rfl
theorem To.elemR{C:Cx}{ρ:Slots}{Γ:List Chunk}{K:Act→World→Prop}{α:Type}{enc:α→List Value}{size:Nat}(E:Enc enc size)(hs:0<size){A:Option Addr}{l:List α}{x:α}{j:Nat}(i:Nat)(hi:Γ[i]?=some (ros enc A l))(hx:l[j]?=some x)(h:To C ρ (ros enc (some ⟨blk A,ofs A+j*size,none⟩) [x]::Γ) K):To C ρ Γ K:=by
 have hj:j<l.length:=(List.getElem?_eq_some_iff.1 hx).1
 have e:l.flatMap enc=(l.take j).flatMap enc++(enc x++(l.drop (j+1)).flatMap enc):=by
  conv=>lhs;rw[←List.take_append_drop j l,dog hx]
  rw[List.flatMap_append,List.flatMap_cons]
 have el:((l.take j).flatMap enc).length=j*size:=by rw[E.flat_len,List.length_take,Nat.min_eq_left (by omega)]
 have ne:l.flatMap enc≠[]:=fun h0=>by
  have:=congrArg List.length e
  rw[h0,lap,lap,E.len,ln0]at this
  omega
 refine To.know (p:=A=some ⟨blk A,ofs A,none⟩) (fun w hw=>?_) (fun hA=>?_)
 · have hq:Src w A (l.flatMap enc):=hw.each _ (mog hi)
   rcases hq with h0|⟨g,off,h0,_⟩
   ·exact absurd h0 ne
   ·rw[h0];rfl
 refine To.derive (ros enc (some ⟨blk A,ofs A+j*size,none⟩) [x]) rfl (fun g hg=>reads_at i hi ?_) (fun w hw=>?_) h
 · show g∈rblks A (l.flatMap enc)
   have hg1:g∈rblks (some ⟨blk A,ofs A+j*size,none⟩) ([x].flatMap enc):=hg
   cases h2:[x].flatMap enc with
   |nil=>rw[h2]at hg1;simp[rblks]at hg1
   | cons u us=>
     rw[h2]at hg1
     have hg2:g=blk A:=by simpa[rblks,blks]using hg1
     cases h3:l.flatMap enc with
     |nil=>exact absurd h3 ne
     | cons u2 us2=>
       show g∈blks A
       rw[hA,hg2];simp[blks]
 · have hq:Src w A (l.flatMap enc):=hw _ (mog hi)
   refine .inr ⟨blk A,ofs A+j*size,rfl,fun k v hv=>?_⟩
   rw[List.flatMap_cons,List.flatMap_nil,List.append_nil]at hv
   have hk:k<(enc x).length:=(List.getElem?_eq_some_iff.1 hv).1
   have hj2:(l.flatMap enc)[j*size+k]?=some v:=by
    rw[e,List.getElem?_append_right (by omega),el,Nat.add_sub_cancel_left,List.getElem?_append_left hk];exact hv
   rcases hq with h0|⟨g,off,h0,hr⟩
   ·exact absurd h0 ne
   · subst h0
     have:=hr (j*size+k) v hj2
     rw[←Nat.add_assoc]at this
     exact this
end Go.Proofs.YtihgdnjkofpgiaaGreatDoor
