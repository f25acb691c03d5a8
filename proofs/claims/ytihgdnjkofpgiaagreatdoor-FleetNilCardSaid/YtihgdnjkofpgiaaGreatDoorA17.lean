/- The tokens of a known text. Own text (walks printed by sx.py). -/
import Derived.Test.YtihgdnjkofpgiaaGreatDoorA16
import Derived.Test.YtihgdnjkofpgiaaGreatDoorT
set_option linter.unusedVariables false
set_option linter.unusedSimpArgs false
set_option maxHeartbeats 2000000
set_option maxRecDepth 100000
namespace Go.Proofs.YtihgdnjkofpgiaaGreatDoor
open Go.RowKit Go.Flow Go.Mem Go.Sep
open Go.In
def GL:List MC:=[⟨0, .ro,[(.str []),(.str []),(.int .i64 0),(.int .i64 0),(.str [99,111,110,115,116]),(.str [78]),(.int .i64 0),(.int .i64 1),(.str [118,97,114]),(.str [65]),(.int .i64 0),(.int .i64 1),(.str [112,97,114,97,109]),(.str [65]),(.int .i64 0),(.int .i64 1),(.str [102,108,97,103]),(.str [65]),(.int .i64 0),(.int .i64 1),(.str [110,111,119]),(.str []),(.int .i64 0),(.int .i64 1),(.str [103,101,116]),(.str [65]),(.int .i64 1),(.int .i64 1),(.str [104,97,115]),(.str [65]),(.int .i64 1),(.int .i64 1),(.str [115,105,122,101]),(.str [65]),(.int .i64 0),(.int .i64 1),(.str [110,101,103]),(.str []),(.int .i64 1),(.int .i64 1),(.str [110,111,116]),(.str []),(.int .i64 1),(.int .i64 1),(.str [109,117,108]),(.str []),(.int .i64 2),(.int .i64 1),(.str [100,105,118]),(.str []),(.int .i64 2),(.int .i64 1),(.str [109,111,100]),(.str []),(.int .i64 2),(.int .i64 1),(.str [97,100,100]),(.str []),(.int .i64 2),(.int .i64 1),(.str [115,117,98]),(.str []),(.int .i64 2),(.int .i64 1),(.str [101,113]),(.str []),(.int .i64 2),(.int .i64 1),(.str [110,101]),(.str []),(.int .i64 2),(.int .i64 1),(.str [108,116]),(.str []),(.int .i64 2),(.int .i64 1),(.str [108,101]),(.str []),(.int .i64 2),(.int .i64 1),(.str [103,116]),(.str []),(.int .i64 2),(.int .i64 1),(.str [103,101]),(.str []),(.int .i64 2),(.int .i64 1),(.str [97,110,100]),(.str []),(.int .i64 2),(.int .i64 1),(.str [111,114]),(.str []),(.int .i64 2),(.int .i64 1),(.str [115,101,116,118,97,114]),(.str [65]),(.int .i64 1),(.int .i64 0),(.str [112,117,116]),(.str [65]),(.int .i64 2),(.int .i64 0),(.str [100,101,108,101,116,101]),(.str [65]),(.int .i64 1),(.int .i64 0),(.str [106,117,109,112]),(.str [65]),(.int .i64 0),(.int .i64 0),(.str [98,114,97,110,99,104]),(.str [65]),(.int .i64 1),(.int .i64 0),(.str [99,111,115,116]),(.str []),(.int .i64 0),(.int .i64 0),(.str [115,101,110,100]),(.str [65,66,78]),(.int .i64 0),(.int .i64 0),(.str [97,102,116,101,114]),(.str [66,78]),(.int .i64 1),(.int .i64 0),(.str [115,116,111,114,101]),(.str [66]),(.int .i64 2),(.int .i64 0),(.str [102,101,116,99,104]),(.str [65,66]),(.int .i64 1),(.int .i64 0),(.str [115,116,111,112]),(.str []),(.int .i64 0),(.int .i64 0)]⟩,⟨1, .ro,[(.int .u64 1),(.int .u64 10),(.int .u64 100),(.int .u64 1000),(.int .u64 10000),(.int .u64 100000),(.int .u64 1000000),(.int .u64 10000000),(.int .u64 100000000),(.int .u64 1000000000),(.int .u64 10000000000),(.int .u64 100000000000),(.int .u64 1000000000000),(.int .u64 10000000000000),(.int .u64 100000000000000),(.int .u64 1000000000000000),(.int .u64 10000000000000000),(.int .u64 100000000000000000),(.int .u64 1000000000000000000),(.int .u64 10000000000000000000)]⟩,⟨2, .ro,[(.int .u32 1116352408),(.int .u32 1899447441),(.int .u32 3049323471),(.int .u32 3921009573),(.int .u32 961987163),(.int .u32 1508970993),(.int .u32 2453635748),(.int .u32 2870763221),(.int .u32 3624381080),(.int .u32 310598401),(.int .u32 607225278),(.int .u32 1426881987),(.int .u32 1925078388),(.int .u32 2162078206),(.int .u32 2614888103),(.int .u32 3248222580),(.int .u32 3835390401),(.int .u32 4022224774),(.int .u32 264347078),(.int .u32 604807628),(.int .u32 770255983),(.int .u32 1249150122),(.int .u32 1555081692),(.int .u32 1996064986),(.int .u32 2554220882),(.int .u32 2821834349),(.int .u32 2952996808),(.int .u32 3210313671),(.int .u32 3336571891),(.int .u32 3584528711),(.int .u32 113926993),(.int .u32 338241895),(.int .u32 666307205),(.int .u32 773529912),(.int .u32 1294757372),(.int .u32 1396182291),(.int .u32 1695183700),(.int .u32 1986661051),(.int .u32 2177026350),(.int .u32 2456956037),(.int .u32 2730485921),(.int .u32 2820302411),(.int .u32 3259730800),(.int .u32 3345764771),(.int .u32 3516065817),(.int .u32 3600352804),(.int .u32 4094571909),(.int .u32 275423344),(.int .u32 430227734),(.int .u32 506948616),(.int .u32 659060556),(.int .u32 883997877),(.int .u32 958139571),(.int .u32 1322822218),(.int .u32 1537002063),(.int .u32 1747873779),(.int .u32 1955562222),(.int .u32 2024104815),(.int .u32 2227730452),(.int .u32 2361852424),(.int .u32 2428436474),(.int .u32 2756734187),(.int .u32 3204031479),(.int .u32 3329325298)]⟩,⟨3, .ro,[(.str [46,46]),(.str [61,61]),(.str [33,61]),(.str [60,61]),(.str [62,61]),(.str [45,62]),(.str [123]),(.str [125]),(.str [40]),(.str [41]),(.str [91]),(.str [93]),(.str [44]),(.str [59]),(.str [58]),(.str [46]),(.str [61]),(.str [60]),(.str [62]),(.str [43]),(.str [45]),(.str [42]),(.str [47]),(.str [37]),(.str [95])]⟩,⟨4, .ro,[(.bool false),(.bool false),(.int .i64 0),(.int .i64 0),(.bool false),(.bool false),(.bool true),(.bool false),(.int .i64 1),(.int .i64 1),(.bool false),(.bool false),(.bool true),(.bool false),(.int .i64 2),(.int .i64 2),(.bool false),(.bool false),(.bool true),(.bool false),(.int .i64 1),(.int .i64 1),(.bool false),(.bool false),(.bool false),(.bool false),(.int .i64 1),(.int .i64 1),(.bool true),(.bool true),(.bool false),(.bool false),(.int .i64 1),(.int .i64 1),(.bool true),(.bool false),(.bool true),(.bool true),(.int .i64 0),(.int .i64 4),(.bool false),(.bool false),(.bool false),(.bool true),(.int .i64 1),(.int .i64 5),(.bool false),(.bool false),(.bool false),(.bool false),(.int .i64 2),(.int .i64 2),(.bool false),(.bool true),(.bool true),(.bool false),(.int .i64 1),(.int .i64 1),(.bool false),(.bool true),(.bool false),(.bool false),(.int .i64 0),(.int .i64 0),(.bool false),(.bool false)]⟩,⟨6, .ro,[(.str [97,102,116,101,114]),(.str [97,108,119,97,121,115]),(.str [97,110,100]),(.str [97,114,114,105,118,101,115]),(.str [98,111,111,108]),(.str [99,111,109,112,111,110,101,110,116]),(.str [99,111,117,110,116]),(.str [100,101,108,101,116,101]),(.str [100,111]),(.str [101,108,115,101]),(.str [101,120,105,115,116,115]),(.str [102,97,108,115,101]),(.str [102,101,116,99,104]),(.str [102,108,97,103]),(.str [102,108,101,101,116]),(.str [102,111,114,97,108,108]),(.str [104,97,115]),(.str [105,102]),(.str [105,109,112,108,105,101,115]),(.str [105,110]),(.str [105,110,116]),(.str [108,97,116,101,110,99,121]),(.str [108,105,110,107]),(.str [110,111,116]),(.str [110,111,119]),(.str [111,110]),(.str [111,110,99,101]),(.str [111,114]),(.str [112,114,101,118,105,111,117,115]),(.str [115,101,110,100]),(.str [115,105,110,99,101]),(.str [115,105,122,101]),(.str [115,116,111,112]),(.str [115,116,111,114,101]),(.str [116,97,98,108,101]),(.str [116,114,117,101]),(.str [118,97,114]),(.str [118,101,114,115,105,111,110]),(.str [119,104,105,108,101])]⟩,⟨7, .ro,[(.int .i64 0),(.bool false),(.int .i64 0),(.str []),(.int .i64 0),(.bool false),(.int .i64 7),(.str []),(.int .i64 0),(.bool false),(.int .i64 7),(.str [116,114,117,101]),(.int .i64 0),(.bool false),(.int .i64 7),(.str [102,97,108,115,101]),(.int .i64 0),(.bool false),(.int .i64 7),(.str [110,111,119]),(.int .i64 0),(.bool true),(.int .i64 7),(.str []),(.int .i64 1),(.bool true),(.int .i64 7),(.str []),(.int .i64 1),(.bool true),(.int .i64 7),(.str [104,97,115,32]),(.int .i64 0),(.bool true),(.int .i64 7),(.str [115,105,122,101,32]),(.int .i64 1),(.bool false),(.int .i64 6),(.str [45]),(.int .i64 1),(.bool false),(.int .i64 6),(.str [110,111,116,32]),(.int .i64 2),(.bool false),(.int .i64 5),(.str [32,42,32]),(.int .i64 2),(.bool false),(.int .i64 5),(.str [32,47,32]),(.int .i64 2),(.bool false),(.int .i64 5),(.str [32,37,32]),(.int .i64 2),(.bool false),(.int .i64 4),(.str [32,43,32]),(.int .i64 2),(.bool false),(.int .i64 4),(.str [32,45,32]),(.int .i64 2),(.bool false),(.int .i64 3),(.str [32,61,61,32]),(.int .i64 2),(.bool false),(.int .i64 3),(.str [32,33,61,32]),(.int .i64 2),(.bool false),(.int .i64 3),(.str [32,60,32]),(.int .i64 2),(.bool false),(.int .i64 3),(.str [32,60,61,32]),(.int .i64 2),(.bool false),(.int .i64 3),(.str [32,62,32]),(.int .i64 2),(.bool false),(.int .i64 3),(.str [32,62,61,32]),(.int .i64 2),(.bool false),(.int .i64 2),(.str [32,97,110,100,32]),(.int .i64 2),(.bool false),(.int .i64 1),(.str [32,111,114,32])]⟩,⟨8, .ro,[(.int .u8 0),(.int .u8 1),(.int .u8 28),(.int .u8 2),(.int .u8 29),(.int .u8 14),(.int .u8 24),(.int .u8 3),(.int .u8 30),(.int .u8 22),(.int .u8 20),(.int .u8 15),(.int .u8 25),(.int .u8 17),(.int .u8 4),(.int .u8 8),(.int .u8 31),(.int .u8 27),(.int .u8 13),(.int .u8 23),(.int .u8 21),(.int .u8 19),(.int .u8 16),(.int .u8 7),(.int .u8 26),(.int .u8 12),(.int .u8 18),(.int .u8 6),(.int .u8 11),(.int .u8 5),(.int .u8 10),(.int .u8 9)]⟩,⟨9, .ro,[(.int .u8 0),(.int .u8 1),(.int .u8 56),(.int .u8 2),(.int .u8 57),(.int .u8 49),(.int .u8 28),(.int .u8 3),(.int .u8 61),(.int .u8 58),(.int .u8 42),(.int .u8 50),(.int .u8 38),(.int .u8 29),(.int .u8 17),(.int .u8 4),(.int .u8 62),(.int .u8 47),(.int .u8 59),(.int .u8 36),(.int .u8 45),(.int .u8 43),(.int .u8 51),(.int .u8 22),(.int .u8 53),(.int .u8 39),(.int .u8 33),(.int .u8 30),(.int .u8 24),(.int .u8 18),(.int .u8 12),(.int .u8 5),(.int .u8 63),(.int .u8 55),(.int .u8 48),(.int .u8 27),(.int .u8 60),(.int .u8 41),(.int .u8 37),(.int .u8 16),(.int .u8 46),(.int .u8 35),(.int .u8 44),(.int .u8 21),(.int .u8 52),(.int .u8 32),(.int .u8 23),(.int .u8 11),(.int .u8 54),(.int .u8 26),(.int .u8 40),(.int .u8 15),(.int .u8 34),(.int .u8 20),(.int .u8 31),(.int .u8 10),(.int .u8 25),(.int .u8 14),(.int .u8 19),(.int .u8 9),(.int .u8 13),(.int .u8 8),(.int .u8 7),(.int .u8 6)]⟩]
abbrev gA:List Chunk:=mem z0 GL
def gAc:Chunk:=all gA
theorem gA_owns:owns gA=[]:=rfl
theorem oks_gA{Γ:List Chunk}(i:Nat)(h:Γ[i]?=some gAc):∀w,oks Γ w→oks gA w:=fun w hw=>(hw _ (mog h):sat gA w).each
def noO:CallF:=fun _ _ _ _=>none
theorem noO_ok:CallsOk Tryz.prog noO:=fun _ _ _ _ _ _ _ h=>by cases h
theorem GL_bel:belM 4096 GL:=by
 intro c hc
 have:∀c∈GL,Nat.blt c.i 4096=true∧(match c.kd with| .ro=>true|_=>false)=true∧belsB 4096 c.cs=true:=by decide+kernel
 obtain⟨h1,h2,h3⟩:=this c hc
 obtain⟨i,kd,cs⟩:=c
 refine⟨Nat.le_of_ble_eq_true h1,?_,belsB_ok _ h3⟩
 cases kd<;>first|trivial|cases h2
noncomputable def skA(t:List Nat):Option Nat:=match callA env noO 30 198 [.str t] GL 4096 with
 |some (.int .i64 (.ofNat m),_,_)=>some m
 |_=>none
noncomputable def rdA(t:List Nat):Option (Nat×Nat):=match callA env noO 30 172 [.str t] GL 4096 with
 |some (.tup [.int .u8 (.ofNat k), .int .i64 (.ofNat n)],_,_)=>some (k,n)
 |_=>none
theorem known1{f:Nat}{t:List Nat}{v:AV}{M':List MC}{k':Nat}(h:callA env noO 30 f [.str t] GL 4096=some (v,M',k'))(hb:gnd v=true):Does Tryz.prog f [.string (bytesOf t)] gA (fun u _=>u=val z0 v):=by
 have hk:=callA_ok (E:=env) noO_ok 30 f _ _ _ _ _ _ h (Nat.le_refl _) (by simp only[bels,bel];exact⟨trivial,trivial⟩) GL_bel
 have hd:=hk.does z0
 simp only[vals,val]at hd
 refine hd.mono fun u Γ' hu=>?_
 obtain⟨σ',_,rfl,_⟩:=hu
 exact gnd_val hb σ'
theorem sk_fn{t:List Nat}{m:Nat}(h:skA t=some m):Does Tryz.prog 198 [.string (bytesOf t)] gA (fun v _=>v=nv m):=by
 unfold skA at h
 split at h
 ·rename_i m' M' k' hc;cases h;have:=known1 hc rfl;simp only[val]at this;exact this
 ·cases h
theorem rd_fn{t:List Nat}{k m:Nat}(h:rdA t=some (k,m)):Does Tryz.prog 172 [.string (bytesOf t)] gA (fun v _=>v= .tuple #[.int .u8 ((k:Nat):Int),nv m]):=by
 unfold rdA at h
 split at h
 ·rename_i k1 m' M' k' hc;cases h;have:=known1 hc rfl;simp only[val,vals]at this;exact this
 ·cases h
def tokE(x:Tok):List Value:=[.int .u8 ((x.1:Nat):Int), .string (bytesOf x.2.1),nv x.2.2]
instance tokE_ok:Enc tokE 3:=⟨fun _=>rfl,fun x u hu=>by
 simp only[tokE,List.mem_cons,List.not_mem_nil,or_false]at hu
 rcases hu with rfl|rfl|rfl<;>rfl⟩
noncomputable abbrev trc:=trcF rdA skA
theorem drop_head{l:List Tok}{i:Nat}{x:Tok}{r:List Tok}(h:l.drop i=x::r):l[i]?=some x∧l.drop (i+1)=r∧i<l.length:=by
 have h1:(l.drop i)[0]?=some x:=by rw[h];rfl
 rw[List.getElem?_drop,Nat.add_zero]at h1
 refine⟨h1,?_,(List.getElem?_eq_some_iff.1 h1).1⟩
 rw[show l.drop (i+1)=(l.drop i).drop 1 by rw[List.drop_drop],h];rfl
theorem drop_nil{l:List Tok}{i:Nat}(h:l.drop i=[])(hi:i≤l.length):i=l.length:=by
 have:=congrArg List.length h
 rw[List.length_drop,ln0]at this;omega
theorem take_snoc{l:List Tok}{i:Nat}{x:Tok}(h:l[i]?=some x):l.take (i+1)=l.take i++[x]:=by
 obtain⟨hi,he⟩:=List.getElem?_eq_some_iff.1 h
 rw[List.take_succ_eq_append_getElem hi,he]
theorem lex_fn(s:List Nat):
    Does Tryz.prog 153 [.string (bytesOf s)] [] (fun v Γ'=>∃b,v= .func (.func 197) #[] #[pv b]∧Γ'=[ro (some ⟨b,0,none⟩) [.string (bytesOf s)]]):=by
 refine Does.enter Tryz.func153 rfl Tryz.ntmps153 rfl (fun w0=>?_)
 refine To.s (To.g ?_)
 refine To.bo fun b1=>?_
 refine To.rd rfl rfl rfl (Rd.assign rfl rfl) ?_
 refine To.z 4 ?_
 refine To.rd rfl rfl rfl (Rd.makeFunc rfl rfl rfl) (To.rd rfl rfl rfl (Rd.assign rfl rfl) ?_)
 refine To.z 3 ?_
 refine To.layBox (To.end1 (.inl rfl) Tryz.results153 rfl ?_)
 exact⟨_,rfl,rfl⟩
theorem lex1_fn(s:List Nat)(hsl:s.length≤20000)(b1 lp:Nat)(toks:List Tok)(o0 n0:Nat)(hs0:skA s=some o0)(hT0:trc n0 s o0=some toks)(J:Nat→Chunk→Prop)(c:Chunk)
    (hY:∀(k:Nat) (c:Chunk) (x:Tok),J k c→toks[k]?=some x→RoundDoes Tryz.prog lp [.agg #[.int .u8 ((x.1:Nat):Int), .string (bytesOf x.2.1),nv x.2.2]] [c] (fun v Γ'=>∃c',Γ'=[c']∧(v= .bool true∧J (k+1) c'))) (h0:J 0 c):
    Does Tryz.prog 197 [.func (.yield lp) #[] #[],pv b1] [ro (some ⟨b1,0,none⟩) [.string (bytesOf s)],gAc,c] (fun _ Γ'=>∃c',Γ'=[c']∧J toks.length c'):=by
 refine Does.enterR Tryz.func197 rfl Tryz.ntmps197 rfl (fun w0=>?_)
 refine ToR.seq ?_
 refine ToR.reg ?_
 refine ToR.rd rfl rfl rfl (Rd.ld (i:=0) rfl rfl c9 rfl (ro_gives (A:=some ⟨b1,0,none⟩) (o:=0) (k:=1) rfl)) ?_
 refine ToR.callV rfl rfl rfl (Ent.fn rfl rfl ca198) (sk_fn hs0) rfl (oks_gA 1 rfl) ?_
 refine ToR.rd rfl rfl rfl (Rd.assign rfl rfl) ?_
 refine ToR.nil ?_
 refine To.sub [(0, .func (.yield lp) #[] #[]),(1,pv b1),(3,nv o0)] ⟨rfl,rfl,rfl,trivial⟩ ?_
 refine To.t ?_
 refine ToR.block ?_
 refine To.sub [(0, .func (.yield lp) #[] #[]),(1,pv b1),(3,nv o0)] ⟨rfl,rfl,rfl,trivial⟩ ?_
 refine ToR.loop (fun mz ρ Γ=>∃(off:Nat) (n:Nat) (l:List Tok) (i:Nat) (c:Chunk),ρ=[(0, .func (.yield lp) #[] #[]),(1,pv b1),(3,nv off)]∧Γ=[ro (some ⟨b1,0,none⟩) [.string (bytesOf s)],gAc,c]∧mz=n∧(trc n s off=some l)∧(toks.drop i=l)∧(i≤toks.length)∧(J i c)) (n0) ⟨o0,n0,toks,0,c,rfl,rfl,rfl,hT0,rfl,(Nat.zero_le _),h0⟩ ?_
 rintro mz _ _ ⟨off,n,l,i,c,rfl,rfl,rfl,hT,hl,hi,hJ⟩
 refine ToR.seq ?_
 refine ToR.seq ?_
 refine ToR.reg ?_
 refine ToR.rd rfl rfl rfl (Rd.move rfl rfl) ?_
 refine ToR.rd rfl rfl rfl (Rd.ld (i:=0) rfl rfl c9 rfl (ro_gives (A:=some ⟨b1,0,none⟩) (o:=0) (k:=1) rfl)) ?_
 refine ToR.rd rfl rfl rfl (Rd.lenB rfl Tryz.underlying9 rfl) ?_
 refine ToR.rd rfl rfl rfl (Rd.lss rfl rfl rfl) ?_
 refine ToR.nil ?_
 refine To.sub [(0, .func (.yield lp) #[] #[]),(1,pv b1),(3,nv off),(11, .bool (decide (((off:Nat):Int)<((s.length:Nat):Int))))] ⟨rfl,rfl,rfl,rfl,trivial⟩ ?_
 refine To.t ?_
 refine ToR.condP rfl (fun k11=>?_) (fun k11=>?_)
 ·
  have hlt:off<s.length:=by omega
  obtain⟨n',k,m,q,l',rfl,h1,h2,h3,h4,h5,rfl⟩:=trcF_more hT hlt
  obtain⟨hx,hl2,hil⟩:=drop_head hl
  refine ToR.skip ?_
  refine To.t ?_
  refine ToR.seq ?_
  refine ToR.block ?_
  refine ToR.seq ?_
  refine ToR.reg ?_
  refine ToR.rd rfl rfl rfl (Rd.ld (i:=0) rfl rfl c9 rfl (ro_gives (A:=some ⟨b1,0,none⟩) (o:=0) (k:=1) rfl)) ?_
  refine ToR.rd rfl rfl rfl (Rd.move rfl rfl) ?_
  refine ToR.rd rfl rfl rfl (Rd.strLo (a:=off) rfl Tryz.underlying9 rfl rfl (by omega)) ?_
  refine ToR.callV rfl rfl rfl (Ent.fn rfl rfl ca172) (rd_fn h1) rfl (oks_gA 1 rfl) ?_
  refine ToR.rd rfl rfl rfl (Rd.move rfl rfl) ?_
  refine ToR.rd rfl rfl rfl (Rd.extract rfl rfl rfl) ?_
  refine ToR.rd rfl rfl rfl (Rd.extract rfl rfl rfl) ?_
  refine ToR.rd rfl rfl rfl (Rd.assign rfl rfl) ?_
  refine ToR.rd rfl rfl rfl (Rd.assign rfl rfl) ?_
  refine ToR.nil ?_
  refine To.sub [(0, .func (.yield lp) #[] #[]),(1,pv b1),(3,nv off),(11, .bool (decide (((off:Nat):Int)<((s.length:Nat):Int)))),(4, .int .u8 ((k:Nat):Int)),(5,nv m)] ⟨rfl,rfl,rfl,rfl,rfl,rfl,trivial⟩ ?_
  refine To.t ?_
  refine ToR.seq ?_
  refine ToR.seq ?_
  refine ToR.reg ?_
  refine ToR.rd rfl rfl rfl (Rd.move rfl rfl) ?_
  refine ToR.rd rfl rfl rfl (Rd.move rfl rfl) ?_
  refine ToR.rd rfl rfl rfl (Rd.ld (i:=0) rfl rfl c9 rfl (ro_gives (A:=some ⟨b1,0,none⟩) (o:=0) (k:=1) rfl)) ?_
  refine ToR.rd rfl rfl rfl (Rd.move rfl rfl) ?_
  refine ToR.rd rfl rfl rfl (Rd.move rfl rfl) ?_
  refine ToR.rd rfl rfl rfl (Rd.move rfl rfl) ?_
  refine ToR.rd rfl rfl rfl (Rd.addN (a:=off) (b:=m) rfl rfl rfl (by omega)) ?_
  refine ToR.rd rfl rfl rfl (Rd.strLH (a:=off) (b:=m) rfl Tryz.underlying9 rfl rfl rfl (by omega)) ?_
  refine ToR.rd rfl rfl rfl (Rd.move rfl rfl) ?_
  refine ToR.rd rfl rfl rfl (Rd.build (vs:=[(0, .int .u8 ((k:Nat):Int)),(1, .string (bytesOf ((s.drop off).take m))),(2,nv off)]) (cells:=[.int .u8 ((k:Nat):Int), .string (bytesOf ((s.drop off).take m)),nv off]) rfl rfl rfl (by kernel_rfl)) ?_
  refine ToR.round [2] rfl rfl rfl (EntY.of rfl rfl rfl) rfl (hY i c _ hJ hx) ?_
  rintro _ _ ⟨c',rfl,rfl,hJ'⟩
  ·
   refine To.as [c',ro (some ⟨b1,0,none⟩) [.string (bytesOf s)],gAc] rfl ?_
   refine ToR.rd rfl rfl rfl (Rd.not rfl rfl) ?_
   refine ToR.nil ?_
   refine To.sub [(0, .func (.yield lp) #[] #[]),(1,pv b1),(3,nv off),(11, .bool (decide (((off:Nat):Int)<((s.length:Nat):Int)))),(4, .int .u8 ((k:Nat):Int)),(5,nv m),(36, .bool false)] ⟨rfl,rfl,rfl,rfl,rfl,rfl,rfl,trivial⟩ ?_
   refine To.t ?_
   refine ToR.condF rfl ?_
   refine ToR.skip ?_
   refine To.t ?_
   refine ToR.reg ?_
   refine ToR.rd rfl rfl rfl (Rd.move rfl rfl) ?_
   refine ToR.rd rfl rfl rfl (Rd.move rfl rfl) ?_
   refine ToR.rd rfl rfl rfl (Rd.addN (a:=off) (b:=m) rfl rfl rfl (by omega)) ?_
   refine ToR.rd rfl rfl rfl (Rd.assign rfl rfl) ?_
   refine ToR.nil ?_
   refine To.sub [(0, .func (.yield lp) #[] #[]),(1,pv b1),(3,nv (off+m)),(11, .bool (decide (((off:Nat):Int)<((s.length:Nat):Int)))),(4, .int .u8 ((k:Nat):Int)),(5,nv m),(36, .bool false)] ⟨rfl,rfl,rfl,rfl,rfl,rfl,rfl,trivial⟩ ?_
   refine To.z 2 ?_
   refine ToR.reg ?_
   refine ToR.rd rfl rfl rfl (Rd.move rfl rfl) ?_
   refine ToR.rd rfl rfl rfl (Rd.ld (i:=1) rfl rfl c9 rfl (ro_gives (A:=some ⟨b1,0,none⟩) (o:=0) (k:=1) rfl)) ?_
   refine ToR.rd rfl rfl rfl (Rd.move rfl rfl) ?_
   refine ToR.rd rfl rfl rfl (Rd.strLo (a:=off+m) rfl Tryz.underlying9 rfl rfl (by omega)) ?_
   refine ToR.callV rfl rfl rfl (Ent.fn rfl rfl ca198) (sk_fn h3) rfl (oks_gA 2 rfl) ?_
   refine ToR.rd rfl rfl rfl (Rd.addN (a:=(off+m)) (b:=q) rfl rfl rfl (by omega)) ?_
   refine ToR.rd rfl rfl rfl (Rd.assign rfl rfl) ?_
   refine ToR.nil ?_
   refine To.sub [(0, .func (.yield lp) #[] #[]),(1,pv b1),(3,nv ((off+m)+q)),(11, .bool (decide (((off:Nat):Int)<((s.length:Nat):Int)))),(4, .int .u8 ((k:Nat):Int)),(5,nv m),(36, .bool false)] ⟨rfl,rfl,rfl,rfl,rfl,rfl,rfl,trivial⟩ ?_
   refine To.t ?_
   refine To.sub [(0, .func (.yield lp) #[] #[]),(1,pv b1),(3,nv ((off+m+q)))] ⟨rfl,rfl,rfl,trivial⟩ ?_
   refine To.up2 (To.up2 ?_)
   refine To.ag (n') (by omega) ⟨off+m+q,n',l',i+1,c',rfl,rfl,rfl,h5,hl2,(by omega),hJ'⟩
 ·
  refine ToR.exit ?_
  refine To.z 3 ?_
  refine To.del1 (To.del0 (To.end0 (.inr rfl) Tryz.results197 ?_))
  have hn:=trcF_end hT (by omega)
  rw[hn]at hl
  exact⟨c,rfl,by rw[←drop_nil hl hi];exact hJ⟩
theorem start_fn(s:List Nat)(hsl:s.length≤20000)(toks:List Tok)(htl:toks.length≤20000)(o0 n0:Nat)(hs0:skA s=some o0)(hT0:trc n0 s o0=some toks):
    Does Tryz.prog 103 [.string (bytesOf s)] [gAc] (fun v Γ'=>∃b8 b3 A ca,v=pv b8∧Γ'=[box b8 [.slice A ((toks).length) ca, .int .i64 0,nv s.length, .string bE, .slice none 0 0, .slice none 0 0, .slice none 0 0, .int .i64 0, .int .i64 0] 225,box b3 [pv b8] 219,rows tokE 288 3 A ca toks]):=by
 refine Does.enterM Tryz.func103 rfl Tryz.ntmps103 rfl (fun w0=>?_)
 refine To.s (To.g (To.rd rfl rfl rfl (Rd.assign rfl rfl) ?_))
 refine To.z 4 ?_
 refine To.rd rfl rfl rfl (Rd.move rfl rfl) (To.rd rfl rfl rfl (Rd.lenB rfl Tryz.underlying9 rfl) (To.rd rfl rfl rfl (Rd.build (vs:=[(2,nv s.length)]) (cells:=[.slice none 0 0, .int .i64 0,nv s.length, .string bE, .slice none 0 0, .slice none 0 0, .slice none 0 0, .int .i64 0, .int .i64 0]) rfl rfl rfl (by kernel_rfl)) ?_))
 refine To.bo fun b8=>?_
 refine To.al fun b3=>?_
 refine To.up rfl rfl (Up.store (i:=0) rfl rfl rfl c219 rfl rfl (bta rfl)) ?_
 refine To.z 5 ?_
 refine To.rd rfl rfl rfl (Rd.move rfl rfl) (To.rd rfl rfl rfl (Rd.lenB rfl Tryz.underlying9 rfl) (To.rd rfl rfl rfl (Rd.gtr rfl rfl rfl) (To.n (To.t ?_))))
 refine To.cp rfl (fun k11=>?_) (fun k11=>?_)
 ·
  exact absurd k11 (by omega)
 ·
  refine To.z 5 ?_
  refine To.rd rfl rfl rfl (Rd.move rfl rfl) (To.cl [] rfl rfl rfl (Ent.fn rfl rfl ca153) rfl (lex_fn s) ?_)
  rintro _ _ ⟨bs,rfl,rfl⟩
  refine To.as [ro (some ⟨bs,0,none⟩) [.string (bytesOf s)],box b3 [pv b8] 219,box b8 [.slice none 0 0, .int .i64 0,nv s.length, .string bE, .slice none 0 0, .slice none 0 0, .slice none 0 0, .int .i64 0, .int .i64 0] 225,gAc] rfl ?_
  refine To.z 3 ?_
  refine To.sub [(2, .pointer none),(3,pv b3),(17, .func (.func 197) #[] #[pv bs])] ⟨rfl,rfl,rfl,trivial⟩ ?_
  refine To.nilRow (tokE) 288 3 (To.up2 (To.up3 (To.up4 (To.up4 ?_))))
  refine To.as [ro (some ⟨bs,0,none⟩) [.string (bytesOf s)],gAc,box b8 [.slice none 0 0, .int .i64 0,nv s.length, .string bE, .slice none 0 0, .slice none 0 0, .slice none 0 0, .int .i64 0, .int .i64 0] 225,box b3 [pv b8] 219,rows tokE 288 3 none 0 ([]:List Tok)] rfl ?_
  refine To.rangeFuncA (Γa:=[ro (some ⟨bs,0,none⟩) [.string (bytesOf s)],gAc]) (Γc:=[box b8 [.slice none 0 0, .int .i64 0,nv s.length, .string bE, .slice none 0 0, .slice none 0 0, .slice none 0 0, .int .i64 0, .int .i64 0] 225,box b3 [pv b8] 219,rows tokE 288 3 none 0 ([]:List Tok)]) (fun Γ2=>∃A ca,Γ2=[box b8 [.slice A ((toks).length) ca, .int .i64 0,nv s.length, .string bE, .slice none 0 0, .slice none 0 0, .slice none 0 0, .int .i64 0, .int .i64 0] 225,box b3 [pv b8] 219,rows tokE 288 3 A ca toks]) (fun _=>False) rfl ca197 (fun lp L hLp hLa hLb hLt=>?_) ?_ ?_
  ·
   refine(lex1_fn s hsl bs lp toks o0 n0 hs0 hT0 (fun k c=>k≤toks.length∧∃A ca,c=all (recd lp L .ready none::[box b8 [.slice A (((toks.take k)).length) ca, .int .i64 0,nv s.length, .string bE, .slice none 0 0, .slice none 0 0, .slice none 0 0, .int .i64 0, .int .i64 0] 225,box b3 [pv b8] 219,rows tokE 288 3 A ca (toks.take k)])) _ ?_ ⟨Nat.zero_le _,none,0,rfl⟩).mono ?_
   ·
    rintro k _ x ⟨hkm,A,ca,rfl⟩ hx
    have hkl:=(List.getElem?_eq_some_iff.1 hx).1
    have hlk:(toks.take k).length=k:=by rw[List.length_take];omega
    refine RoundDoes.of (Γe:=[]) hLp hLa hLb hLt rfl (fun w1=>?_)
    refine To.as [recd lp L .ready none,box b8 [.slice A (((toks.take k)).length) ca, .int .i64 0,nv s.length, .string bE, .slice none 0 0, .slice none 0 0, .slice none 0 0, .int .i64 0, .int .i64 0] 225,box b3 [pv b8] 219,rows tokE 288 3 A ca (toks.take k)] rfl ?_
    refine ToR.reg ?_
    refine ToR.alloc rfl rfl rfl rfl z288 (fun b4=>?_)
    refine ToR.up rfl rfl (Up.storeS (i:=0) rfl rfl rfl r288 rfl rfl rfl (bta rfl)) ?_
    refine ToR.nil ?_
    refine To.t (To.up1 (To.begins ?_))
    refine ToR.block ?_
    refine ToR.flow [box b3 [pv b8] 219] [⟨0,[],0⟩,⟨1,[],1⟩,⟨2,[],0⟩,⟨3,[],0⟩,⟨4,[],1⟩,⟨5,[],1⟩,⟨6,[],2⟩,⟨7,[6],5⟩,⟨8,[],0⟩,⟨9,[],0⟩,⟨10,[],5⟩] mixed (by kernel_rfl) (ocs (oca 3 rfl) (ocn _)) ?_
    refine Fw.free rfl rfl rfl rfl (Rd.ld (i:=0) rfl rfl c219 rfl (bg1 rfl)) ?_
    refine Fw.rd rfl rfl rfl rfl (Rd.ld (i:=3) rfl rfl c219 rfl (bg1 rfl)) ?_
    refine Fw.free rfl rfl rfl rfl (Rd.nilCheck rfl rfl) ?_
    refine Fw.free rfl rfl rfl rfl (Rd.field rfl rfl fl225_0) ?_
    refine Fw.rd rfl rfl rfl rfl (Rd.ld (i:=2) rfl rfl c223 rfl (bg1 rfl)) ?_
    refine Fw.rd rfl rfl rfl rfl (Rd.lS (i:=1) rfl rfl r288 rfl box_whole rfl) ?_
    refine Fw.mk rfl rfl rfl rfl rfl (Mk.sN (us:=[.int .u8 ((x.1:Nat):Int), .string (bytesOf x.2.1),nv x.2.2]) rfl s223 rfl rfl rfl rfl rfl rfl) ?_
    rintro _ _ ⟨b25,rfl,rfl⟩
    refine Fw.ge rfl rfl rfl rfl (Ge.append1 tokE_ok (i:=5) (j:=0) (el:=x) rfl s223 rfl rfl rfl rfl rfl (by first|omega|(simp;done)|(simp;omega)) (by first|omega|(simp;done)|(simp;omega))) ?_
    rintro _ _ ⟨A26,q26,rfl,rfl⟩
    refine⟨ocs (oca 4 rfl) (ocn _),?_⟩
    refine Fw.free rfl rfl rfl rfl (Rd.nilCheck rfl rfl) ?_
    refine Fw.free rfl rfl rfl rfl (Rd.field rfl rfl fl225_0) ?_
    refine Fw.up (Γ':=[row 288 3 (some ⟨b25,0,none⟩) 1 1 [.int .u8 ((x.1:Nat):Int), .string (bytesOf x.2.1),nv x.2.2],recd lp L .busy none,box b4 [.int .u8 ((x.1:Nat):Int), .string (bytesOf x.2.1),nv x.2.2] 288,box b8 [.slice A26 (((toks.take k)++[x]).length) q26, .int .i64 0,nv s.length, .string bE, .slice none 0 0, .slice none 0 0, .slice none 0 0, .int .i64 0, .int .i64 0] 225,box b3 [pv b8] 219,rows tokE 288 3 A26 q26 ((toks.take k)++[x])]) rfl rfl rfl (Up.store (i:=3) rfl rfl rfl c223 rfl rfl (bt1 rfl)) (ocs (oca 4 rfl) (ocn _)) ?_
    refine Fw.fin ?_
    refine To.as [row 288 3 (some ⟨b25,0,none⟩) 1 1 [.int .u8 ((x.1:Nat):Int), .string (bytesOf x.2.1),nv x.2.2],recd lp L .busy none,box b4 [.int .u8 ((x.1:Nat):Int), .string (bytesOf x.2.1),nv x.2.2] 288,box b8 [.slice A26 (((toks.take k)++[x]).length) q26, .int .i64 0,nv s.length, .string bE, .slice none 0 0, .slice none 0 0, .slice none 0 0, .int .i64 0, .int .i64 0] 225,box b3 [pv b8] 219,rows tokE 288 3 A26 q26 ((toks.take k)++[x])] rfl ?_
    refine To.bn (To.del2 (To.del0 (To.roundN ?_)))
    exact⟨_,rfl,rfl,by omega,A26,q26,by rw[take_snoc hx]⟩
   ·
    rintro v Γ' ⟨c',rfl,_,A,ca,rfl⟩
    exact⟨_, .inl ⟨rfl,A,ca,by rw[List.take_length]⟩⟩
  ·
   rintro D _ ⟨A,ca,rfl⟩
   refine To.as [dfr D,box b8 [.slice A ((toks).length) ca, .int .i64 0,nv s.length, .string bE, .slice none 0 0, .slice none 0 0, .slice none 0 0, .int .i64 0, .int .i64 0] 225,box b3 [pv b8] 219,rows tokE 288 3 A ca toks] rfl ?_
   refine To.z 4 ?_
   refine To.rd rfl rfl rfl (Rd.ld (i:=2) rfl rfl c219 rfl (bg1 rfl)) (To.rd rfl rfl rfl (Rd.assign rfl rfl) ?_)
   refine To.z 3 ?_
   refine To.endMT (.inl rfl) Tryz.results103 rfl rfl rfl ?_
   exact⟨_,_,_,_,rfl,rfl⟩
  ·
   intro D _ h;exact h.elim
end Go.Proofs.YtihgdnjkofpgiaaGreatDoor
