/- Own text. -/
import Derived.Test.YtllalpnmagpkfaaGreatDoorA16
import Derived.Test.YtllalpnmagpkfaaGreatDoorAs
import Derived.Test.YtllalpnmagpkfaaGreatDoorT
set_option linter.unusedVariables false
set_option linter.unusedSimpArgs false
set_option maxHeartbeats 2000000
set_option maxRecDepth 100000
namespace Go.Proofs.YtllalpnmagpkfaaGreatDoor
open Go.Proofs.Tryz
open Go.RowKit Go.Flow Go.Mem Go.Sep
open Go.In
def GL:List MC:=[⟨0, .ro,[(.str []),(.str []),(.int .i64 0),(.int .i64 0),(.str [99,111,110,115,116]),(.str [78]),(.int .i64 0),(.int .i64 1),(.str [118,97,114]),(.str [65]),(.int .i64 0),(.int .i64 1),(.str [112,97,114,97,109]),(.str [65]),(.int .i64 0),(.int .i64 1),(.str [102,108,97,103]),(.str [65]),(.int .i64 0),(.int .i64 1),(.str [110,111,119]),(.str []),(.int .i64 0),(.int .i64 1),(.str [103,101,116]),(.str [65]),(.int .i64 1),(.int .i64 1),(.str [104,97,115]),(.str [65]),(.int .i64 1),(.int .i64 1),(.str [115,105,122,101]),(.str [65]),(.int .i64 0),(.int .i64 1),(.str [110,101,103]),(.str []),(.int .i64 1),(.int .i64 1),(.str [110,111,116]),(.str []),(.int .i64 1),(.int .i64 1),(.str [109,117,108]),(.str []),(.int .i64 2),(.int .i64 1),(.str [100,105,118]),(.str []),(.int .i64 2),(.int .i64 1),(.str [109,111,100]),(.str []),(.int .i64 2),(.int .i64 1),(.str [97,100,100]),(.str []),(.int .i64 2),(.int .i64 1),(.str [115,117,98]),(.str []),(.int .i64 2),(.int .i64 1),(.str [101,113]),(.str []),(.int .i64 2),(.int .i64 1),(.str [110,101]),(.str []),(.int .i64 2),(.int .i64 1),(.str [108,116]),(.str []),(.int .i64 2),(.int .i64 1),(.str [108,101]),(.str []),(.int .i64 2),(.int .i64 1),(.str [103,116]),(.str []),(.int .i64 2),(.int .i64 1),(.str [103,101]),(.str []),(.int .i64 2),(.int .i64 1),(.str [97,110,100]),(.str []),(.int .i64 2),(.int .i64 1),(.str [111,114]),(.str []),(.int .i64 2),(.int .i64 1),(.str [115,101,116,118,97,114]),(.str [65]),(.int .i64 1),(.int .i64 0),(.str [112,117,116]),(.str [65]),(.int .i64 2),(.int .i64 0),(.str [100,101,108,101,116,101]),(.str [65]),(.int .i64 1),(.int .i64 0),(.str [106,117,109,112]),(.str [65]),(.int .i64 0),(.int .i64 0),(.str [98,114,97,110,99,104]),(.str [65]),(.int .i64 1),(.int .i64 0),(.str [99,111,115,116]),(.str []),(.int .i64 0),(.int .i64 0),(.str [115,101,110,100]),(.str [65,66,78]),(.int .i64 0),(.int .i64 0),(.str [97,102,116,101,114]),(.str [66,78]),(.int .i64 1),(.int .i64 0),(.str [115,116,111,114,101]),(.str [66]),(.int .i64 2),(.int .i64 0),(.str [102,101,116,99,104]),(.str [65,66]),(.int .i64 1),(.int .i64 0),(.str [115,116,111,112]),(.str []),(.int .i64 0),(.int .i64 0)]⟩,⟨1, .ro,[(.int .u64 1),(.int .u64 10),(.int .u64 100),(.int .u64 1000),(.int .u64 10000),(.int .u64 100000),(.int .u64 1000000),(.int .u64 10000000),(.int .u64 100000000),(.int .u64 1000000000),(.int .u64 10000000000),(.int .u64 100000000000),(.int .u64 1000000000000),(.int .u64 10000000000000),(.int .u64 100000000000000),(.int .u64 1000000000000000),(.int .u64 10000000000000000),(.int .u64 100000000000000000),(.int .u64 1000000000000000000),(.int .u64 10000000000000000000)]⟩,⟨2, .ro,[(.str [46,46]),(.str [61,61]),(.str [33,61]),(.str [60,61]),(.str [62,61]),(.str [45,62]),(.str [123]),(.str [125]),(.str [40]),(.str [41]),(.str [91]),(.str [93]),(.str [44]),(.str [59]),(.str [58]),(.str [46]),(.str [61]),(.str [60]),(.str [62]),(.str [43]),(.str [45]),(.str [42]),(.str [47]),(.str [37]),(.str [95])]⟩,⟨3, .ro,[(.bool false),(.bool false),(.int .i64 0),(.int .i64 0),(.bool false),(.bool false),(.bool true),(.bool false),(.int .i64 1),(.int .i64 1),(.bool false),(.bool false),(.bool true),(.bool false),(.int .i64 2),(.int .i64 2),(.bool false),(.bool false),(.bool true),(.bool false),(.int .i64 1),(.int .i64 1),(.bool false),(.bool false),(.bool false),(.bool false),(.int .i64 1),(.int .i64 1),(.bool true),(.bool true),(.bool false),(.bool false),(.int .i64 1),(.int .i64 1),(.bool true),(.bool false),(.bool true),(.bool true),(.int .i64 0),(.int .i64 4),(.bool false),(.bool false),(.bool false),(.bool true),(.int .i64 1),(.int .i64 5),(.bool false),(.bool false),(.bool false),(.bool false),(.int .i64 2),(.int .i64 2),(.bool false),(.bool true),(.bool true),(.bool false),(.int .i64 1),(.int .i64 1),(.bool false),(.bool true),(.bool false),(.bool false),(.int .i64 0),(.int .i64 0),(.bool false),(.bool false)]⟩,⟨4, .ro,[(.int .i64 0),(.bool false),(.int .i64 0),(.str []),(.int .i64 0),(.bool false),(.int .i64 7),(.str []),(.int .i64 0),(.bool false),(.int .i64 7),(.str [116,114,117,101]),(.int .i64 0),(.bool false),(.int .i64 7),(.str [102,97,108,115,101]),(.int .i64 0),(.bool false),(.int .i64 7),(.str [110,111,119]),(.int .i64 0),(.bool true),(.int .i64 7),(.str []),(.int .i64 1),(.bool true),(.int .i64 7),(.str []),(.int .i64 1),(.bool true),(.int .i64 7),(.str [104,97,115,32]),(.int .i64 0),(.bool true),(.int .i64 7),(.str [115,105,122,101,32]),(.int .i64 1),(.bool false),(.int .i64 6),(.str [45]),(.int .i64 1),(.bool false),(.int .i64 6),(.str [110,111,116,32]),(.int .i64 2),(.bool false),(.int .i64 5),(.str [32,42,32]),(.int .i64 2),(.bool false),(.int .i64 5),(.str [32,47,32]),(.int .i64 2),(.bool false),(.int .i64 5),(.str [32,37,32]),(.int .i64 2),(.bool false),(.int .i64 4),(.str [32,43,32]),(.int .i64 2),(.bool false),(.int .i64 4),(.str [32,45,32]),(.int .i64 2),(.bool false),(.int .i64 3),(.str [32,61,61,32]),(.int .i64 2),(.bool false),(.int .i64 3),(.str [32,33,61,32]),(.int .i64 2),(.bool false),(.int .i64 3),(.str [32,60,32]),(.int .i64 2),(.bool false),(.int .i64 3),(.str [32,60,61,32]),(.int .i64 2),(.bool false),(.int .i64 3),(.str [32,62,32]),(.int .i64 2),(.bool false),(.int .i64 3),(.str [32,62,61,32]),(.int .i64 2),(.bool false),(.int .i64 2),(.str [32,97,110,100,32]),(.int .i64 2),(.bool false),(.int .i64 1),(.str [32,111,114,32])]⟩,⟨6, .ro,[(.str [97,102,116,101,114]),(.str [97,108,119,97,121,115]),(.str [97,110,100]),(.str [97,114,114,105,118,101,115]),(.str [98,111,111,108]),(.str [99,111,109,112,111,110,101,110,116]),(.str [99,111,117,110,116]),(.str [100,101,108,101,116,101]),(.str [100,111]),(.str [101,108,115,101]),(.str [101,120,105,115,116,115]),(.str [102,97,108,115,101]),(.str [102,101,116,99,104]),(.str [102,108,97,103]),(.str [102,108,101,101,116]),(.str [102,111,114,97,108,108]),(.str [104,97,115]),(.str [105,102]),(.str [105,109,112,108,105,101,115]),(.str [105,110]),(.str [105,110,116]),(.str [108,97,116,101,110,99,121]),(.str [108,105,110,107]),(.str [110,111,116]),(.str [110,111,119]),(.str [111,110]),(.str [111,110,99,101]),(.str [111,114]),(.str [112,114,101,118,105,111,117,115]),(.str [115,101,110,100]),(.str [115,105,110,99,101]),(.str [115,105,122,101]),(.str [115,116,111,112]),(.str [115,116,111,114,101]),(.str [116,97,98,108,101]),(.str [116,114,117,101]),(.str [118,97,114]),(.str [118,101,114,115,105,111,110]),(.str [119,104,105,108,101])]⟩,⟨7, .ro,[(.int .u8 0),(.int .u8 1),(.int .u8 28),(.int .u8 2),(.int .u8 29),(.int .u8 14),(.int .u8 24),(.int .u8 3),(.int .u8 30),(.int .u8 22),(.int .u8 20),(.int .u8 15),(.int .u8 25),(.int .u8 17),(.int .u8 4),(.int .u8 8),(.int .u8 31),(.int .u8 27),(.int .u8 13),(.int .u8 23),(.int .u8 21),(.int .u8 19),(.int .u8 16),(.int .u8 7),(.int .u8 26),(.int .u8 12),(.int .u8 18),(.int .u8 6),(.int .u8 11),(.int .u8 5),(.int .u8 10),(.int .u8 9)]⟩,⟨8, .ro,[(.int .u8 0),(.int .u8 1),(.int .u8 56),(.int .u8 2),(.int .u8 57),(.int .u8 49),(.int .u8 28),(.int .u8 3),(.int .u8 61),(.int .u8 58),(.int .u8 42),(.int .u8 50),(.int .u8 38),(.int .u8 29),(.int .u8 17),(.int .u8 4),(.int .u8 62),(.int .u8 47),(.int .u8 59),(.int .u8 36),(.int .u8 45),(.int .u8 43),(.int .u8 51),(.int .u8 22),(.int .u8 53),(.int .u8 39),(.int .u8 33),(.int .u8 30),(.int .u8 24),(.int .u8 18),(.int .u8 12),(.int .u8 5),(.int .u8 63),(.int .u8 55),(.int .u8 48),(.int .u8 27),(.int .u8 60),(.int .u8 41),(.int .u8 37),(.int .u8 16),(.int .u8 46),(.int .u8 35),(.int .u8 44),(.int .u8 21),(.int .u8 52),(.int .u8 32),(.int .u8 23),(.int .u8 11),(.int .u8 54),(.int .u8 26),(.int .u8 40),(.int .u8 15),(.int .u8 34),(.int .u8 20),(.int .u8 31),(.int .u8 10),(.int .u8 25),(.int .u8 14),(.int .u8 19),(.int .u8 9),(.int .u8 13),(.int .u8 8),(.int .u8 7),(.int .u8 6)]⟩]
abbrev gl:List Chunk:=mem z0 GL
def glc:Chunk:=all gl
theorem gl_owns:owns gl=[]:=rfl
theorem oks_gl{Γ:List Chunk}(i:Nat)(h:Γ[i]?=some glc):∀w,oks Γ w→oks gl w:=fun w hw=>(hw _ (mog h):sat gl w).each
def noO:CallF:=fun _ _ _ _=>none
theorem noO_ok:CallsOk prog noO:=fun _ _ _ _ _ _ _ h=>by cases h
theorem GL_bel:belM 4096 GL:=by
 intro c hc
 have:∀c∈GL,Nat.blt c.i 4096=true∧(match c.kd with| .ro=>true|_=>false)=true∧belsB 4096 c.cs=true:=by decide+kernel
 obtain⟨h1,h2,h3⟩:=this c hc
 obtain⟨i,kd,cs⟩:=c
 refine⟨Nat.le_of_ble_eq_true h1,?_,belsB_ok _ h3⟩
 cases kd<;>first|trivial|cases h2
noncomputable def skA(t:List Nat):Option Nat:=match callA env noO 30 196 [.str t] GL 4096 with
 |some (.int .i64 (.ofNat m),_,_)=>some m
 |_=>none
noncomputable def rdA(t:List Nat):Option (Nat×Nat):=match callA env noO 30 180 [.str t] GL 4096 with
 |some (.tup [.int .u8 (.ofNat k), .int .i64 (.ofNat n)],_,_)=>some (k,n)
 |_=>none
theorem known1{f:Nat}{t:List Nat}{v:AV}{M':List MC}{k':Nat}(h:callA env noO 30 f [.str t] GL 4096=some (v,M',k'))(hb:gnd v=true):Dz f [.string (bytesOf t)] gl (fun u _=>u=val z0 v):=by
 have hk:=callA_ok (E:=env) noO_ok 30 f _ _ _ _ _ _ h (Nat.le_refl _) (by simp only[bels,bel];exact⟨trivial,trivial⟩) GL_bel
 have hd:=hk.does z0
 simp only[vals,val]at hd
 refine hd.mono fun u Γ' hu=>?_
 obtain⟨σ',_,rfl,_⟩:=hu
 exact gnd_val hb σ'
theorem sk_fn{t:List Nat}{m:Nat}(h:skA t=some m):Dz 196 [.string (bytesOf t)] gl (fun v _=>v=nv m):=by
 unfold skA at h
 split at h
 ·rename_i m' M' k' hc;cases h;have:=known1 hc rfl;simp only[val]at this;exact this
 ·cases h
theorem rd_fn{t:List Nat}{k m:Nat}(h:rdA t=some (k,m)):Dz 180 [.string (bytesOf t)] gl (fun v _=>v= .tuple #[.int .u8 ((k:Nat):Int),nv m]):=by
 unfold rdA at h
 split at h
 ·rename_i k1 m' M' k' hc;cases h;have:=known1 hc rfl;simp only[val,vals]at this;exact this
 ·cases h
def tokE(x:Tok):List Value:=[.int .u8 ((x.1:Nat):Int), .string (bytesOf x.2.1),nv x.2.2]
instance tokE_ok:Enc tokE 3:=⟨fun _=>rfl,fun x u hu=>by
 simp only[tokE,List.mem_cons,List.not_mem_nil,or_false]at hu
 rcases hu with rfl|rfl|rfl<;>rfl⟩
noncomputable abbrev trc:=trcF rdA skA
theorem drop_head{l:List Tok}{i:Nat}{x:Tok}{r:List Tok}(h:l.drop i=x::r):l[i]?=some x∧l.drop (i+1)=r∧i<l.length:=by
 have h1:(l.drop i)[0]?=some x:=by rw[h];rfl
 rw[List.getElem?_drop,Nat.add_zero]at h1
 refine⟨h1,?_,(List.getElem?_eq_some_iff.1 h1).1⟩
 rw[show l.drop (i+1)=(l.drop i).drop 1 by rw[List.drop_drop],h];rfl
theorem drop_nil{l:List Tok}{i:Nat}(h:l.drop i=[])(hi:i≤l.length):i=l.length:=by
 have:=congrArg List.length h
 rw[List.length_drop,ln0]at this;omega
theorem take_snoc{l:List Tok}{i:Nat}{x:Tok}(h:l[i]?=some x):l.take (i+1)=l.take i++[x]:=by
 obtain⟨hi,he⟩:=List.getElem?_eq_some_iff.1 h
 rw[List.take_succ_eq_append_getElem hi,he]
theorem lex_fn(s:List Nat):
    Dz 156 [.string (bytesOf s)] [] (fun v Γ'=>∃b,v= .func (.func 195) #[] #[pv b]∧Γ'=[ro (some ⟨b,0,none⟩) [.string (bytesOf s)]]):=by
 refine Does.en func156 ntmps156 fun w0=>?_
 refine Js (To.g (Jbo fun b1=>?_))
 refine To.rd rfl rfl rfl (Rd.assign rfl rfl) (Jz 4 ?_)
 refine To.rd rfl rfl rfl (Rd.makeFunc rfl rfl rfl) (To.rd rfl rfl rfl (Rd.assign rfl rfl) (Jz 3 ?_))
 refine JlayBox (Je1 results156 ?_)
 exact⟨_,rfl,rfl⟩
theorem lex1_fn(s:List Nat)(hsl:s.length≤20000)(b1 lp:Nat)(toks:List Tok)(o0 n0:Nat)(hs0:skA s=some o0)(hT0:trc n0 s o0=some toks)(J:Nat→Chunk→Prop)(c:Chunk)
    (hY:∀(k:Nat) (c:Chunk) (x:Tok),J k c→toks[k]?=some x→RoundDoes prog lp [.agg #[.int .u8 ((x.1:Nat):Int), .string (bytesOf x.2.1),nv x.2.2]] [c] (fun v Γ'=>∃c',Γ'=[c']∧(v= .bool true∧J (k+1) c'))) (h0:J 0 c):
    Dz 195 [.func (.yield lp) #[] #[],pv b1] [ro (some ⟨b1,0,none⟩) [.string (bytesOf s)],glc,c] (fun _ Γ'=>∃c',Γ'=[c']∧J toks.length c'):=by
 refine Does.enterR func195 rfl ntmps195 rfl (fun w0=>?_)
 refine ToR.seq (ToR.reg (ToR.rd rfl rfl rfl (Rd.ld (i:=0) rfl rfl c9 rfl (ro_gives (A:=some ⟨b1,0,none⟩) (o:=0) (k:=1) rfl)) (ToR.callV rfl rfl rfl (Ent.fn rfl rfl (kc.h 196 rfl)) (sk_fn hs0) rfl (oks_gl 1 rfl) (ToR.rd rfl rfl rfl (Rd.assign rfl rfl) (ToR.nil (Jsub [(0, .func (.yield lp) #[] #[]),(1,pv b1),(3,nv o0)] sb (Jt ?_)))))))
 refine ToR.block (Jsub [(0, .func (.yield lp) #[] #[]),(1,pv b1),(3,nv o0)] sb (ToR.loop (fun mz ρ Γ=>∃(off:Nat) (n:Nat) (l:List Tok) (i:Nat) (c:Chunk),ρ=[(0, .func (.yield lp) #[] #[]),(1,pv b1),(3,nv off)]∧Γ=[ro (some ⟨b1,0,none⟩) [.string (bytesOf s)],glc,c]∧mz=n∧(trc n s off=some l)∧(toks.drop i=l)∧(i≤toks.length)∧(J i c)) (n0) ⟨o0,n0,toks,0,c,rfl,rfl,rfl,hT0,rfl,(Nat.zero_le _),h0⟩ ?_))
 rintro mz _ _ ⟨off,n,l,i,c,rfl,rfl,rfl,hT,hl,hi,hJ⟩
 refine ToR.seq (ToR.seq (ToR.reg (ToR.rd rfl rfl rfl (Rd.move rfl rfl) (ToR.rd rfl rfl rfl (Rd.ld (i:=0) rfl rfl c9 rfl (ro_gives (A:=some ⟨b1,0,none⟩) (o:=0) (k:=1) rfl)) (ToR.rd rfl rfl rfl (Rd.lenB rfl underlying9 rfl) (ToR.rd rfl rfl rfl (Rd.lss rfl rfl rfl) (ToR.nil ?_)))))))
 refine Jsub [(0, .func (.yield lp) #[] #[]),(1,pv b1),(3,nv off),(11, .bool (decide (((off:Nat):Int)<((s.length:Nat):Int))))] sb (Jt (ToR.condP rfl (fun k11=>?_) (fun k11=>?_)))
 ·
  have hlt:off<s.length:=om
  obtain⟨n',k,m,q,l',rfl,h1,h2,h3,h4,h5,rfl⟩:=trcF_more hT hlt
  obtain⟨hx,hl2,hil⟩:=drop_head hl
  refine ToR.skip (Jt (ToR.seq (ToR.block (ToR.seq (ToR.reg (ToR.rd rfl rfl rfl (Rd.ld (i:=0) rfl rfl c9 rfl (ro_gives (A:=some ⟨b1,0,none⟩) (o:=0) (k:=1) rfl)) (ToR.rd rfl rfl rfl (Rd.move rfl rfl) ?_)))))))
  refine ToR.rd rfl rfl rfl (Rd.strLo (a:=off) rfl underlying9 rfl rfl om) (ToR.callV rfl rfl rfl (Ent.fn rfl rfl (kc.h 180 rfl)) (rd_fn h1) rfl (oks_gl 1 rfl) (ToR.rd rfl rfl rfl (Rd.move rfl rfl) (ToR.rd rfl rfl rfl (Rd.extract rfl rfl rfl) (ToR.rd rfl rfl rfl (Rd.extract rfl rfl rfl) (ToR.rd rfl rfl rfl (Rd.assign rfl rfl) (ToR.rd rfl rfl rfl (Rd.assign rfl rfl) (ToR.nil ?_)))))))
  refine Jsub [(0, .func (.yield lp) #[] #[]),(1,pv b1),(3,nv off),(11, .bool (decide (((off:Nat):Int)<((s.length:Nat):Int)))),(4, .int .u8 ((k:Nat):Int)),(5,nv m)] sb (Jt (ToR.seq (ToR.seq (ToR.reg (ToR.rd rfl rfl rfl (Rd.move rfl rfl) (ToR.rd rfl rfl rfl (Rd.move rfl rfl) (ToR.rd rfl rfl rfl (Rd.ld (i:=0) rfl rfl c9 rfl (ro_gives (A:=some ⟨b1,0,none⟩) (o:=0) (k:=1) rfl)) ?_)))))))
  refine ToR.rd rfl rfl rfl (Rd.move rfl rfl) (ToR.rd rfl rfl rfl (Rd.move rfl rfl) (ToR.rd rfl rfl rfl (Rd.move rfl rfl) (ToR.rd rfl rfl rfl (Rd.addN (a:=off) (b:=m) rfl rfl rfl om) (ToR.rd rfl rfl rfl (Rd.strLH (a:=off) (b:=m) rfl underlying9 rfl rfl rfl om) (ToR.rd rfl rfl rfl (Rd.move rfl rfl) (ToR.rd rfl rfl rfl (Rd.build (vs:=[(0, .int .u8 ((k:Nat):Int)),(1, .string (bytesOf ((s.drop off).take m))),(2,nv off)]) (cells:=[.int .u8 ((k:Nat):Int), .string (bytesOf ((s.drop off).take m)),nv off]) rfl rfl rfl (by kernel_rfl)) (ToR.round [2] rfl rfl rfl (EntY.of rfl rfl rfl) rfl (hY i c _ hJ hx) ?_)))))))
  rintro _ _ ⟨c',rfl,rfl,hJ'⟩
  ·
   refine Jas [c',ro (some ⟨b1,0,none⟩) [.string (bytesOf s)],glc] rfl (ToR.rd rfl rfl rfl (Rd.not rfl rfl) (ToR.nil (Jsub [(0, .func (.yield lp) #[] #[]),(1,pv b1),(3,nv off),(11, .bool (decide (((off:Nat):Int)<((s.length:Nat):Int)))),(4, .int .u8 ((k:Nat):Int)),(5,nv m),(36, .bool false)] sb (Jt (ToR.condF rfl (ToR.skip (Jt ?_)))))))
   refine ToR.reg (ToR.rd rfl rfl rfl (Rd.move rfl rfl) (ToR.rd rfl rfl rfl (Rd.move rfl rfl) (ToR.rd rfl rfl rfl (Rd.addN (a:=off) (b:=m) rfl rfl rfl om) (ToR.rd rfl rfl rfl (Rd.assign rfl rfl) (ToR.nil (Jsub [(0, .func (.yield lp) #[] #[]),(1,pv b1),(3,nv (off+m)),(11, .bool (decide (((off:Nat):Int)<((s.length:Nat):Int)))),(4, .int .u8 ((k:Nat):Int)),(5,nv m),(36, .bool false)] sb (Jz 2 ?_)))))))
   refine ToR.reg (ToR.rd rfl rfl rfl (Rd.move rfl rfl) (ToR.rd rfl rfl rfl (Rd.ld (i:=1) rfl rfl c9 rfl (ro_gives (A:=some ⟨b1,0,none⟩) (o:=0) (k:=1) rfl)) (ToR.rd rfl rfl rfl (Rd.move rfl rfl) (ToR.rd rfl rfl rfl (Rd.strLo (a:=off+m) rfl underlying9 rfl rfl om) (ToR.callV rfl rfl rfl (Ent.fn rfl rfl (kc.h 196 rfl)) (sk_fn h3) rfl (oks_gl 2 rfl) (ToR.rd rfl rfl rfl (Rd.addN (a:=(off+m)) (b:=q) rfl rfl rfl om) (ToR.rd rfl rfl rfl (Rd.assign rfl rfl) ?_)))))))
   refine ToR.nil (Jsub [(0, .func (.yield lp) #[] #[]),(1,pv b1),(3,nv ((off+m)+q)),(11, .bool (decide (((off:Nat):Int)<((s.length:Nat):Int)))),(4, .int .u8 ((k:Nat):Int)),(5,nv m),(36, .bool false)] sb (Jt (Jup2 (Jup2 (JagS (n') om ⟨⟨off+m+q,n',l',i+1,c',rfl,rfl,rfl,h5,hl2,om,hJ'⟩,sb⟩)))))
 ·
  refine ToR.exit (Jz 3 ?_)
  refine Jdel1 (Jdel0 (Jend0 (.inr rfl) results195 ?_))
  have hn:=trcF_end hT om
  rw[hn]at hl
  exact⟨c,rfl,by rw[←drop_nil hl hi];exact hJ⟩
theorem start_fn(s:List Nat)(hsl:s.length≤20000)(toks:List Tok)(htl:toks.length≤20000)(o0 n0:Nat)(hs0:skA s=some o0)(hT0:trc n0 s o0=some toks):
    Dz 100 [.string (bytesOf s)] [glc] (fun v Γ'=>∃b8 b3 A ca,v=pv b8∧Γ'=[box b8 [.slice A ((toks).length) ca, .int .i64 0,nv s.length, .string bE, .slice none 0 0, .slice none 0 0, .slice none 0 0, .int .i64 0, .int .i64 0] 267,box b3 [pv b8] 261,rows tokE 331 3 A ca toks]):=by
 refine Does.enterM func100 rfl ntmps100 rfl (fun w0=>?_)
 refine Js (To.g (To.rd rfl rfl rfl (Rd.assign rfl rfl) (Jz 4 ?_)))
 refine To.rd rfl rfl rfl (Rd.move rfl rfl) (To.rd rfl rfl rfl (Rd.lenB rfl underlying9 rfl) (To.rd rfl rfl rfl (Rd.build (vs:=[(2,nv s.length)]) (cells:=[.slice none 0 0, .int .i64 0,nv s.length, .string bE, .slice none 0 0, .slice none 0 0, .slice none 0 0, .int .i64 0, .int .i64 0]) rfl rfl rfl (by kernel_rfl)) (Jbo fun b8=>?_)))
 refine Jal fun b3=>?_
 refine Jup rfl rfl (Up.store (i:=0) rfl rfl rfl c261 rfl rfl (bta rfl)) (Jz 5 ?_)
 refine To.rd rfl rfl rfl (Rd.move rfl rfl) (To.rd rfl rfl rfl (Rd.lenB rfl underlying9 rfl) (To.rd rfl rfl rfl (Rd.gtr rfl rfl rfl) (Jn (Jt (Jcp rfl (fun k11=>?_) (fun k11=>?_))))))
 ·
  exact absurd k11 om
 ·
  refine Jz 5 ?_
  refine To.rd rfl rfl rfl (Rd.move rfl rfl) (Jcf [] (lex_fn s) ?_)
  rintro _ _ ⟨bs,rfl,rfl⟩
  refine Jas [ro (some ⟨bs,0,none⟩) [.string (bytesOf s)],box b3 [pv b8] 261,box b8 [.slice none 0 0, .int .i64 0,nv s.length, .string bE, .slice none 0 0, .slice none 0 0, .slice none 0 0, .int .i64 0, .int .i64 0] 267,glc] rfl (Jz 3 ?_)
  refine Jsub [(2, .pointer none),(3,pv b3),(17, .func (.func 195) #[] #[pv bs])] sb (JnilRow (tokE) 331 3 (Jup2 (Jup3 (Jup4 (Jup4 (Jas [ro (some ⟨bs,0,none⟩) [.string (bytesOf s)],glc,box b8 [.slice none 0 0, .int .i64 0,nv s.length, .string bE, .slice none 0 0, .slice none 0 0, .slice none 0 0, .int .i64 0, .int .i64 0] 267,box b3 [pv b8] 261,rows tokE 331 3 none 0 ([]:List Tok)] rfl (To.rangeFuncA (Γa:=[ro (some ⟨bs,0,none⟩) [.string (bytesOf s)],glc]) (Γc:=[box b8 [.slice none 0 0, .int .i64 0,nv s.length, .string bE, .slice none 0 0, .slice none 0 0, .slice none 0 0, .int .i64 0, .int .i64 0] 267,box b3 [pv b8] 261,rows tokE 331 3 none 0 ([]:List Tok)]) (fun Γ2=>∃A ca,Γ2=[box b8 [.slice A ((toks).length) ca, .int .i64 0,nv s.length, .string bE, .slice none 0 0, .slice none 0 0, .slice none 0 0, .int .i64 0, .int .i64 0] 267,box b3 [pv b8] 261,rows tokE 331 3 A ca toks]) (fun _=>False) rfl (kc.h 195 rfl) (fun lp L hLp hLa hLb hLt=>?_) ?_ ?_)))))))
  ·
   refine(lex1_fn s hsl bs lp toks o0 n0 hs0 hT0 (fun k c=>k≤toks.length∧∃A ca,c=all (recd lp L .ready none::[box b8 [.slice A (((toks.take k)).length) ca, .int .i64 0,nv s.length, .string bE, .slice none 0 0, .slice none 0 0, .slice none 0 0, .int .i64 0, .int .i64 0] 267,box b3 [pv b8] 261,rows tokE 331 3 A ca (toks.take k)])) _ ?_ ⟨Nat.zero_le _,none,0,rfl⟩).mono ?_
   ·
    rintro k _ x ⟨hkm,A,ca,rfl⟩ hx
    have hkl:=(List.getElem?_eq_some_iff.1 hx).1
    have hlk:(toks.take k).length=k:=by rw[List.length_take];omega
    refine RoundDoes.of (Γe:=[]) hLp hLa hLb hLt rfl (fun w1=>?_)
    refine Jas [recd lp L .ready none,box b8 [.slice A (((toks.take k)).length) ca, .int .i64 0,nv s.length, .string bE, .slice none 0 0, .slice none 0 0, .slice none 0 0, .int .i64 0, .int .i64 0] 267,box b3 [pv b8] 261,rows tokE 331 3 A ca (toks.take k)] rfl (ToR.reg (ToR.alloc rfl rfl rfl rfl z331 (fun b4=>?_)))
    refine ToR.up rfl rfl (Up.storeS (i:=0) rfl rfl rfl r331 rfl rfl rfl (bta rfl)) (ToR.nil (Jt (Jup1 (To.begins (ToR.block (ToR.flow [box b3 [pv b8] 261] [⟨0,[],0⟩,⟨1,[],1⟩,⟨2,[],0⟩,⟨3,[],0⟩,⟨4,[],1⟩,⟨5,[],1⟩,⟨6,[],2⟩,⟨7,[6],5⟩,⟨8,[],0⟩,⟨9,[],0⟩,⟨10,[],5⟩] mixed.h (by kernel_rfl) (ocs (oca 3 rfl) (ocn _)) (Fw.free rfl rfl rfl rfl (Rd.ld (i:=0) rfl rfl c261 rfl (bg1 rfl)) ?_)))))))
    refine Fw.rd rfl rfl rfl rfl (Rd.ld (i:=3) rfl rfl c261 rfl (bg1 rfl)) ?_
    refine Fw.free rfl rfl rfl rfl (Rd.nilCheck rfl rfl) ?_
    refine Fw.free rfl rfl rfl rfl (Rd.field rfl rfl fl267_0) ?_
    refine Fw.rd rfl rfl rfl rfl (Rd.ld (i:=2) rfl rfl c265 rfl (bg1 rfl)) ?_
    refine Fw.rd rfl rfl rfl rfl (Rd.lS (i:=1) rfl rfl r331 rfl box_whole rfl) ?_
    refine Fw.mk rfl rfl rfl rfl rfl (Mk.sN (us:=[.int .u8 ((x.1:Nat):Int), .string (bytesOf x.2.1),nv x.2.2]) rfl s265 rfl rfl rfl rfl rfl rfl) ?_
    rintro _ _ ⟨b25,rfl,rfl⟩
    refine Fw.ge rfl rfl rfl rfl (Ge.append1 tokE_ok (i:=5) (j:=0) (el:=x) rfl s265 rfl rfl rfl rfl rfl om om) ?_
    rintro _ _ ⟨A26,q26,rfl,rfl⟩
    refine⟨ocs (oca 4 rfl) (ocn _),?_⟩
    refine Fw.free rfl rfl rfl rfl (Rd.nilCheck rfl rfl) ?_
    refine Fw.free rfl rfl rfl rfl (Rd.field rfl rfl fl267_0) ?_
    refine Fw.up (Γ':=[row 331 3 (some ⟨b25,0,none⟩) 1 1 [.int .u8 ((x.1:Nat):Int), .string (bytesOf x.2.1),nv x.2.2],recd lp L .busy none,box b4 [.int .u8 ((x.1:Nat):Int), .string (bytesOf x.2.1),nv x.2.2] 331,box b8 [.slice A26 (((toks.take k)++[x]).length) q26, .int .i64 0,nv s.length, .string bE, .slice none 0 0, .slice none 0 0, .slice none 0 0, .int .i64 0, .int .i64 0] 267,box b3 [pv b8] 261,rows tokE 331 3 A26 q26 ((toks.take k)++[x])]) rfl rfl rfl (Up.store (i:=3) rfl rfl rfl c265 rfl rfl (bt1 rfl)) (ocs (oca 4 rfl) (ocn _)) ?_
    refine Fw.fin ?_
    exact Jas [row 331 3 (some ⟨b25,0,none⟩) 1 1 [.int .u8 ((x.1:Nat):Int), .string (bytesOf x.2.1),nv x.2.2],recd lp L .busy none,box b4 [.int .u8 ((x.1:Nat):Int), .string (bytesOf x.2.1),nv x.2.2] 331,box b8 [.slice A26 (((toks.take k)++[x]).length) q26, .int .i64 0,nv s.length, .string bE, .slice none 0 0, .slice none 0 0, .slice none 0 0, .int .i64 0, .int .i64 0] 267,box b3 [pv b8] 261,rows tokE 331 3 A26 q26 ((toks.take k)++[x])] rfl (Jbn (Jdel2 (Jdel0 (To.roundN (⟨_,rfl,rfl,by omega,A26,q26,by rw[take_snoc hx]⟩)))))
   ·
    rintro v Γ' ⟨c',rfl,_,A,ca,rfl⟩
    exact⟨_, .inl ⟨rfl,A,ca,by rw[List.take_length]⟩⟩
  ·
   rintro D _ ⟨A,ca,rfl⟩
   refine Jas [dfr D,box b8 [.slice A ((toks).length) ca, .int .i64 0,nv s.length, .string bE, .slice none 0 0, .slice none 0 0, .slice none 0 0, .int .i64 0, .int .i64 0] 267,box b3 [pv b8] 261,rows tokE 331 3 A ca toks] rfl (Jz 4 ?_)
   refine To.rd rfl rfl rfl (Rd.ld (i:=2) rfl rfl c261 rfl (bg1 rfl)) (To.rd rfl rfl rfl (Rd.assign rfl rfl) (Jz 3 ?_))
   exact To.endMT (.inl rfl) results100 rfl rfl rfl (⟨_,_,_,_,rfl,rfl⟩)
  ·
   intro D _ h;exact h.elim
end Go.Proofs.YtllalpnmagpkfaaGreatDoor
