/- Merged out of Am1, Am2, It2, Fn1, Fn2 by merge.py. Own text. -/
import Derived.Test.YtihgdnjkofpgiaaGreatDoorAn3
import Derived.Test.YtihgdnjkofpgiaaGreatDoorUl
import Derived.Shelf.Strconv.Itoa0
set_option linter.unusedVariables false
set_option linter.unusedSimpArgs false
set_option maxHeartbeats 2000000
set_option maxRecDepth 100000
namespace Go.Proofs.YtihgdnjkofpgiaaGreatDoor
open Go.RowKit Go.Flow Go.Mem Go.Sep Go.In
open Go.In
theorem parse1x_fn:Does Tryz.prog 70 [.string (bytesOf txt1)] [gAc] (fun v Γ'=>∃σ,v= .tuple #[.agg #[.string ((F1 σ).name), .slice ((F1 σ).Af) ((F1 σ).flags.length) ((F1 σ).qf), .slice ((F1 σ).Al) ((F1 σ).links.length) ((F1 σ).ql), .slice ((F1 σ).Ac) ((F1 σ).comps.length) ((F1 σ).qc)], .int .i64 0, .int .i64 0]∧Γ'=[all (mem σ M1F)]):=(Does.lax parse1_fn gA_owns rfl fun c hc=>⟨gAc,List.mem_singleton.2 rfl, .inr ⟨gA,rfl,hc⟩⟩).mono fun v Γ' ⟨σ,h1,h2⟩=>⟨σ,h1.trans (F1_val σ),h2⟩
set_option maxHeartbeats 4000000 in
set_option maxRecDepth 100000 in
theorem new1_fn:
    Does Tryz.prog 40 [.string (bytesOf txt1)] [gAc,glc,p10c,tabC,cstC] (fun v Γ'=>∃(fb:Nat) (X:FB) (G:List Chunk),v= .tuple #[pv fb, .int .i64 0, .int .i64 0]∧Γ'=[all (flk fb X G)]∧Lax G∧X.F.Cap∧X.F.pure=pf1∧R1 X.pb G):=by
 refine Does.enter Tryz.func40 rfl Tryz.ntmps40 rfl (fun w0=>?_)
 refine To.z 10 ?_
 refine To.cl [0] rfl rfl rfl (Ent.fn rfl rfl ca70) rfl (parse1x_fn) ?_
 rintro _ _ ⟨σ,rfl,rfl⟩
 refine To.z 4 ?_
 refine To.al fun b5=>?_
 refine To.z 16 ?_
 refine To.up1 (To.free (c:=ro none []) rfl rfl (fun w=> .inl rfl) (To.allCons (To.part 0 rfl ((F1 σ).kids eX) (Fl.lax eX (F1 σ)) (F1_kids σ) ?_)))
 refine To.z 2 ?_
 refine To.cl [0,2,2,2,2] rfl rfl rfl (Ent.fn rfl rfl ca42) rfl (of_fn (F1 σ) (F1_good σ) (F1_cap σ) R1 (compile1_fn σ)) ?_
 rintro _ _ ⟨fb,X,G,rfl,rfl,hG,hXC,hXp,hX1⟩
 refine To.z 17 ?_
 refine To.del2 (To.del1 (To.end3 (.inl rfl) Tryz.results40 rfl rfl rfl ?_))
 exact⟨fb,X,G,rfl,rfl,hG,hXC,hXp.trans (F1_pure σ),hX1⟩
open Go.RowKit Go.Flow Go.Mem Go.Sep Go.In
open Go.In
theorem pf1_small:PFB pf1:=⟨by decide+kernel,by decide+kernel⟩
theorem r1_pg{X:FB}{G:List Chunk}(h:R1 X.pb G):∃(A:Option Addr) (q:Nat) (ps:List PP),PgX X G A q ps∧hnI ps 1=[bytesOf [103],bytesOf [107]]:=by
 obtain⟨σ,h⟩:=h
 refine⟨_,_,_,⟨h,by show 2≤12;decide,fun p hp=>?_⟩,rfl⟩
 simp only[List.mem_cons,List.not_mem_nil,or_false]at hp
 rcases hp with rfl|rfl
 ·show 1≤1000;decide
 ·show 2≤1000;decide
section
variable{fb:Nat}{X:FB}{G:List Chunk}(hG:Lax G)(hC:X.F.Cap)(hp:X.F.pure=pf1)(hr:R1 X.pb G)
theorem aw_h(hr:R1 X.pb G):Does Tryz.prog 15 [pv fb, .int .i64 1] [all (flk fb X G)] (fun v Γ'=>∃(B:Option Addr) (r:Nat),v= .slice B 2 r∧Γ'=[rows encZ 9 1 B r [bytesOf [103],bytesOf [107]]]):=by
 obtain⟨A,q,ps,h1,h2⟩:=r1_pg hr
 have h3:=zfhand_fn fb X G A q ps h1 1
 rw[h2]at h3
 exact h3
theorem aw_p(hC:X.F.Cap)(hp:X.F.pure=pf1)(hr:R1 X.pb G)(v:Int)(o:Option Nat)(ho:∀ps:List PP,hnI ps 1=[bytesOf [103],bytesOf [107]]→parP pf1 ps 1 v 1=o):Does Tryz.prog 17 [pv fb, .int .i64 1, .int .i64 v, .int .i64 1] [all (flk fb X G)] (fun r Γ'=>r= .tuple #[nv (o.getD 0), .bool o.isSome]∧Γ'=[]):=by
 obtain⟨A,q,ps,h1,h2⟩:=r1_pg hr
 have h3:=zpar_fn fb X G A q ps h1 hC (by rw[hp];exact pf1_small) 1 v 1
 rw[hp,ho ps h2]at h3
 exact h3
theorem aw_p1:∀ps:List PP,hnI ps 1=[bytesOf [103],bytesOf [107]]→parP pf1 ps 1 1 1=none:=fun ps h=>by unfold parP;rw[h];decide+kernel
theorem aw_p2:∀ps:List PP,hnI ps 1=[bytesOf [103],bytesOf [107]]→parP pf1 ps 1 2 1=some 0:=fun ps h=>by unfold parP;rw[h];decide+kernel
theorem aw_s(hG:Lax G)(hC:X.F.Cap)(hp:X.F.pure=pf1):Does Tryz.prog 12 [pv fb, .int .i64 0, .int .i64 1] [all (flk fb X G)] (fun r Γ'=>r= .tuple #[.int .i64 0, .bool true, .bool true]∧Γ'=[]):=by
 have h3:=zslot_fn fb X G hG hC (by rw[hp];exact pf1_small) 0 1
 rw[hp,show slotP pf1 0 1=some (0,true) by decide+kernel]at h3
 exact h3
theorem aw_l(hG:Lax G)(hp:X.F.pure=pf1):Does Tryz.prog 24 [pv fb, .int .i64 0, .int .i64 1] [all (flk fb X G)] (fun r _=>r= .int .i64 1):=by
 have h3:=zlat_fn fb X G hG (by rw[hp];exact pf1_small) 0 1
 rw[hp,show latP pf1 0 1=1 by decide+kernel]at h3
 exact h3.mono fun _ _ h=>h.1
end
theorem second1_fn:Does Tryz.prog 40 [.string (bytesOf txt2)] [gAc] (fun v _=>v= .tuple #[.pointer none, .int .i64 0, .int .i64 9]):=Does.lax second_fn gA_owns rfl fun c hc=>⟨gAc,List.mem_singleton.2 rfl, .inr ⟨gA,rfl,hc⟩⟩
set_option maxHeartbeats 4000000 in
set_option maxRecDepth 100000 in
theorem awake_fn:
    Does Tryz.prog 9 [] [gAc,glc,p10c,tabC,cstC] (fun v _=>v= .bool true):=by
 refine Does.enter Tryz.func9 rfl Tryz.ntmps9 rfl (fun w0=>?_)
 refine To.z 6 ?_
 refine To.dup 0 rfl rfl (To.g (To.cl [0,1,1,1,1] rfl rfl rfl (Ent.fn rfl rfl ca40) rfl (new1_fn) ?_))
 rintro _ _ ⟨fb,X,G,rfl,rfl,hG,hXC,hXp,hX1⟩
 refine To.z 16 ?_
 refine To.r (Rd.eqlNil rfl Tryz.underlying27 rfl rfl) ?_
 refine To.z 9 ?_
 refine To.cQ rfl rfl rfl (Ent.fn rfl rfl ca15) (aw_h hX1) (by show owns (flk fb X G)++[]=[];rw[(flk_lax hG).owns];rfl) (ocs (oca 0 rfl) (ocn _)) ?_
 rintro _ _ ⟨Bn,pn,rfl,rfl⟩
 refine⟨rfl,?_⟩
 refine To.z 6 ?_
 refine To.cQ rfl rfl rfl (Ent.fn rfl rfl ca17) (aw_p hXC hXp hX1 1 _ aw_p1) (by show owns (flk fb X G)++[]=[];rw[(flk_lax hG).owns];rfl) (ocs (oca 1 rfl) (ocn _)) ?_
 rintro _ _ ⟨rfl,rfl⟩
 refine⟨rfl,?_⟩
 refine To.z 10 ?_
 refine To.cQ rfl rfl rfl (Ent.fn rfl rfl ca17) (aw_p hXC hXp hX1 2 _ aw_p2) (by show owns (flk fb X G)++[]=[];rw[(flk_lax hG).owns];rfl) (ocs (oca 1 rfl) (ocn _)) ?_
 rintro _ _ ⟨rfl,rfl⟩
 refine⟨rfl,?_⟩
 refine To.z 10 ?_
 refine To.cQ rfl rfl rfl (Ent.fn rfl rfl ca12) (aw_s hG hXC hXp) (by show owns (flk fb X G)++[]=[];rw[(flk_lax hG).owns];rfl) (ocs (oca 1 rfl) (ocn _)) ?_
 rintro _ _ ⟨rfl,rfl⟩
 refine⟨rfl,?_⟩
 refine To.z 11 ?_
 refine To.cV rfl rfl rfl (Ent.fn rfl rfl ca40) (second1_fn) rfl (ocs (oca 2 rfl) (ocn _)) ?_
 refine To.z 16 ?_
 refine To.r (Rd.ixr (i:=0) (j:=0) rfl rfl rfl s54 rfl (rfl:([bytesOf [103],bytesOf [107]]:List ByteArray)[0]?=some (bytesOf [103]))) ?_
 refine To.r (Rd.ld (i:=0) rfl rfl c9 rfl (gives_1 (rwg encZ_ok (rfl:([bytesOf [103],bytesOf [107]]:List ByteArray)[0]?=some (bytesOf [103]))) rfl)) ?_
 refine To.r (Rd.eqlZ rfl rfl rfl) ?_
 refine To.pT ?_
 refine To.rdP rfl rfl rfl (Rd.move rfl rfl) (fun g58=>?_) (fun g58=>?_)
 refine To.m ?_
 refine To.r (Rd.ixr (i:=0) (j:=1) rfl rfl rfl s54 rfl (rfl:([bytesOf [103],bytesOf [107]]:List ByteArray)[1]?=some (bytesOf [107]))) ?_
 refine To.r (Rd.ld (i:=0) rfl rfl c9 rfl (gives_1 (rwg encZ_ok (rfl:([bytesOf [103],bytesOf [107]]:List ByteArray)[1]?=some (bytesOf [107]))) rfl)) ?_
 refine To.r (Rd.eqlZ rfl rfl rfl) ?_
 refine To.pT ?_
 refine To.rdP rfl rfl rfl (Rd.move rfl rfl) (fun g64=>?_) (fun g64=>?_)
 refine To.z 22 ?_
 refine To.cV rfl rfl rfl (Ent.fn rfl rfl ca24) (aw_l hG hXp) (by show owns (flk fb X G)++[]=[];rw[(flk_lax hG).owns];rfl) (ocs (oca 1 rfl) (ocn _)) ?_
 refine To.z 8 ?_
 refine To.sub [(0, .bool true),(1,pv fb),(3, .int .i64 0),(25, .bool false),(4, .slice Bn 2 pn),(6, .bool false),(7, .int .i64 0),(8, .bool true),(9, .int .i64 0),(10, .bool true),(11, .bool true),(14, .int .i64 9)] ⟨rfl,rfl,rfl,rfl,rfl,rfl,rfl,rfl,rfl,rfl,rfl,rfl,trivial⟩ ?_
 refine To.t (To.rt (To.end1 (.inl rfl) Tryz.results9 rfl ?_))
 rfl
 exact absurd rfl g64
 exact absurd rfl g58
end Go.Proofs.YtihgdnjkofpgiaaGreatDoor
namespace Go.Proofs
open Go.Shelf
def Tryz.lays129_ren:Go.Shelf.Ren:=⟨fun|129=>152|n=>n,fun|53=>268|3=>3|4=>4|46=>215|5=>5|9=>9|n=>n,fun|n=>n⟩
theorem Tryz.lays129:Go.Proofs.Lays.n129 Tryz.prog Tryz.lays129_ren:={
 mixed:=by kernel_rfl
 f129:=Tryz.func152.trans (congrArg some (by kernel_rfl))
 t3:=Tryz.underlying3
 a3:=Tryz.isAgg3
 z3:=Tryz.sizeOf3
 v3:=Tryz.zeroValue3
 t4:=Tryz.underlying4
 a4:=Tryz.isAgg4
 z4:=Tryz.sizeOf4
 v4:=Tryz.zeroValue4
 t5:=Tryz.underlying5
 a5:=Tryz.isAgg5
 z5:=Tryz.sizeOf5
 v5:=Tryz.zeroValue5
 t9:=Tryz.underlying9
 a9:=Tryz.isAgg9
 z9:=Tryz.sizeOf9
 v9:=Tryz.zeroValue9
 t46:=Tryz.underlying215
 a46:=Tryz.isAgg215
 z46:=Tryz.sizeOf215
 v46:=Tryz.zeroValue215
 t53:=Tryz.underlying268
 a53:=Tryz.isAgg268
 z53:=Tryz.sizeOf268
 v53:=Tryz.zeroValue268}
theorem Tryz.bits_Len64(x:Int)(w:World)(h0:0≤x)(h1:x≤18446744073709551615):
    Calls Tryz.prog 152 #[.int .u64 x] w fun e w'=>e= .returned (.int .i64 (Lib.bitLen x.toNat))∧w'=w:=Any.bits_Len64 Tryz.lays129 x w h0 h1
end Go.Proofs
namespace Go.Proofs.YtihgdnjkofpgiaaGreatDoor
open Go.RowKit Go.Flow Go.Mem Go.Sep Go.In
open Go.In
theorem len64z_fn:Does Tryz.prog 152 [.int .u64 0] [] (fun v Γ'=>v= .int .i64 0∧Γ'=[]):=Does.bare (Does.mono (R:=fun v _=>v= .int .i64 (Lib.bitLen (0:Int).toNat)) (fun w hs=>(Tryz.bits_Len64 0 w (by omega) (by omega)).mono fun e w' h=>by
 obtain⟨rfl,rfl⟩:=h
 exact⟨_,_,rfl,rfl,Post.refl hs⟩) fun v _ h=>by rw[h];have e:Lib.bitLen 0=0:=(by first|decide+kernel|(unfold Lib.bitLen;simp)|rfl|simp[Lib.bitLen]);show nv (Lib.bitLen 0)=_;rw[e];rfl)
theorem lenz_fn:
    Does Tryz.prog 102 [.int .u64 0] [] (fun v Γ'=>v= .int .i64 0∧Γ'=[]):=by
 refine Does.enter Tryz.func102 rfl Tryz.ntmps102 rfl (fun w0=>?_)
 refine To.z 12 ?_
 refine To.cQ rfl rfl rfl (Ent.fn rfl rfl ca152) (len64z_fn) rfl (ocn _) ?_
 rintro _ _ ⟨rfl,rfl⟩
 refine⟨rfl,?_⟩
 refine To.z 4 ?_
 refine To.end1 (.inl rfl) Tryz.results102 rfl ?_
 exact⟨rfl,rfl⟩
theorem ins0_fn:
    Does Tryz.prog 142 [.slice none 0 0, .int .i64 0, .int .i64 0] [] (fun v Γ'=>v= .tuple #[]∧Γ'=[]):=by
 refine Does.enter Tryz.func142 rfl Tryz.ntmps142 rfl (fun w0=>?_)
 refine To.z 3 ?_
 refine To.r (Rd.add64 rfl rfl rfl (by omega)) ?_
 refine To.z 4 ?_
 refine To.sub [(0, .slice none 0 0),(1, .int .i64 0),(2, .int .i64 0),(6, .int .i64 1)] ⟨rfl,rfl,rfl,rfl,trivial⟩ ?_
 refine To.loop (fun mz ρ Γ=>ρ=[(0, .slice none 0 0),(1, .int .i64 0),(2, .int .i64 0),(6, .int .i64 1)]∧Γ=[]∧mz=0) (0) ⟨rfl,rfl,rfl⟩ ?_
 rintro mz _ _ ⟨rfl,rfl,rfl⟩
 refine To.z 13 ?_
 refine To.end0 (.inr rfl) Tryz.results142 ?_
 exact⟨rfl,rfl⟩
theorem pdq0_fn(m:Int):
    Does Tryz.prog 101 [.slice none 0 0, .int .i64 0, .int .i64 0, .int .i64 m] [] (fun v Γ'=>v= .tuple #[]∧Γ'=[]):=by
 refine Does.enter Tryz.func101 rfl Tryz.ntmps101 rfl (fun w0=>?_)
 refine To.z 11 ?_
 refine To.sub [(0, .slice none 0 0),(1, .int .i64 0),(2, .int .i64 0),(3, .int .i64 m),(8, .bool true),(9, .bool true)] ⟨rfl,rfl,rfl,rfl,rfl,rfl,trivial⟩ ?_
 refine To.loop (fun mz ρ Γ=>ρ=[(0, .slice none 0 0),(1, .int .i64 0),(2, .int .i64 0),(3, .int .i64 m),(8, .bool true),(9, .bool true)]∧Γ=[]∧mz=0) (0) ⟨rfl,rfl,rfl⟩ ?_
 rintro mz _ _ ⟨rfl,rfl,rfl⟩
 refine To.z 5 ?_
 refine To.r (Rd.sub64 rfl rfl rfl (by omega)) ?_
 refine To.z 10 ?_
 refine To.cp rfl (fun k23=>?_) (fun k23=>?_)
 refine To.z 5 ?_
 refine To.cQ rfl rfl rfl (Ent.fn rfl rfl ca142) (ins0_fn) rfl (ocn _) ?_
 rintro _ _ ⟨rfl,rfl⟩
 refine⟨rfl,?_⟩
 refine To.z 7 ?_
 refine To.end0 (.inl rfl) Tryz.results101 ?_
 exact⟨rfl,rfl⟩
 first|exact absurd c23 (by omega)|exact absurd k23 (by omega)|exact absurd g23 (by omega)
theorem sort0_fn:
    Does Tryz.prog 61 [.slice none 0 0] [] (fun v Γ'=>v= .tuple #[]∧Γ'=[]):=by
 refine Does.enter Tryz.func61 rfl Tryz.ntmps61 rfl (fun w0=>?_)
 refine To.z 11 ?_
 refine To.r (Rd.conv rfl rfl Tryz.underlying3 Tryz.underlying215 (wrapU (by first|omega|(simp;done)|(simp;omega)))) ?_
 refine To.cQ rfl rfl rfl (Ent.fn rfl rfl ca102) (lenz_fn) rfl (ocn _) ?_
 rintro _ _ ⟨rfl,rfl⟩
 refine⟨rfl,?_⟩
 refine To.cQ rfl rfl rfl (Ent.fn rfl rfl ca101) (pdq0_fn 0) rfl (ocn _) ?_
 rintro _ _ ⟨rfl,rfl⟩
 refine⟨rfl,?_⟩
 refine To.n (To.end0 (.inr rfl) Tryz.results61 ?_)
 exact⟨rfl,rfl⟩
theorem compact0_fn:
    Does Tryz.prog 62 [.slice none 0 0] [] (fun v Γ'=>v= .slice none 0 0∧Γ'=[]):=by
 refine Does.enter Tryz.func62 rfl Tryz.ntmps62 rfl (fun w0=>?_)
 refine To.z 22 ?_
 refine To.end1 (.inl rfl) Tryz.results62 rfl ?_
 exact⟨rfl,rfl⟩
theorem number0_fn(g:Value):
    Does Tryz.prog 64 [.int .i64 0,g] [] (fun v Γ'=>v= .tuple #[.int .i64 0, .bool false]∧Γ'=[]):=by
 refine Does.enter Tryz.func64 rfl Tryz.ntmps64 rfl (fun w0=>?_)
 refine To.z 14 ?_
 refine To.sub [(7, .int .i64 0),(8, .int .i64 0)] ⟨rfl,rfl,trivial⟩ ?_
 refine To.loop (fun mz ρ Γ=>ρ=[(7, .int .i64 0),(8, .int .i64 0)]∧Γ=[]∧mz=0) (0) ⟨rfl,rfl,rfl⟩ ?_
 rintro mz _ _ ⟨rfl,rfl,rfl⟩
 refine To.z 19 ?_
 refine To.end2 (.inl rfl) Tryz.results64 rfl rfl ?_
 exact⟨rfl,rfl⟩
theorem zfind0_fn(s:ByteArray):
    Does Tryz.prog 33 [.pointer none, .string s] [] (fun v Γ'=>v= .tuple #[.int .i64 0, .bool false]∧Γ'=[]):=by
 refine Does.enter Tryz.func33 rfl Tryz.ntmps33 rfl (fun w0=>?_)
 refine To.s (To.g ?_)
 refine To.bo fun b2=>?_
 refine To.bo fun b3=>?_
 refine To.z 7 ?_
 refine To.cQ rfl rfl rfl (Ent.fn rfl rfl ca28) (zfcomps0_fn) rfl (ocn _) ?_
 rintro _ _ ⟨rfl,rfl⟩
 refine⟨rfl,?_⟩
 refine To.r (Rd.makeFunc rfl rfl rfl) ?_
 refine To.cQ rfl rfl rfl (Ent.fn rfl rfl ca64) (number0_fn (.func (.func 67) #[] #[pv b2,pv b3])) rfl (ocn _) ?_
 rintro _ _ ⟨rfl,rfl⟩
 refine⟨rfl,?_⟩
 refine To.z 7 ?_
 refine To.del1 (To.del0 (To.end2 (.inl rfl) Tryz.results33 rfl rfl ?_))
 exact⟨rfl,rfl⟩
theorem zflg0_fn(s:ByteArray):
    Does Tryz.prog 30 [.pointer none, .string s] [] (fun v Γ'=>v= .tuple #[.int .i64 0, .bool false]∧Γ'=[]):=by
 refine Does.enter Tryz.func30 rfl Tryz.ntmps30 rfl (fun w0=>?_)
 refine To.s (To.g ?_)
 refine To.bo fun b2=>?_
 refine To.bo fun b3=>?_
 refine To.z 7 ?_
 refine To.cQ rfl rfl rfl (Ent.fn rfl rfl ca29) (zfflags0_fn) rfl (ocn _) ?_
 rintro _ _ ⟨rfl,rfl⟩
 refine⟨rfl,?_⟩
 refine To.r (Rd.makeFunc rfl rfl rfl) ?_
 refine To.cQ rfl rfl rfl (Ent.fn rfl rfl ca64) (number0_fn (.func (.func 65) #[] #[pv b2,pv b3])) rfl (ocn _) ?_
 rintro _ _ ⟨rfl,rfl⟩
 refine⟨rfl,?_⟩
 refine To.z 7 ?_
 refine To.del1 (To.del0 (To.end2 (.inl rfl) Tryz.results30 rfl rfl ?_))
 exact⟨rfl,rfl⟩
theorem zvar0_fn(c:Int)(s:ByteArray):
    Does Tryz.prog 37 [.pointer none, .int .i64 c, .string s] [] (fun v Γ'=>v= .tuple #[.int .i64 0, .bool false]∧Γ'=[]):=by
 refine Does.enter Tryz.func37 rfl Tryz.ntmps37 rfl (fun w0=>?_)
 refine To.s (To.g ?_)
 refine To.bo fun b5=>?_
 refine To.z 8 ?_
 refine To.cQ rfl rfl rfl (Ent.fn rfl rfl ca44) (zfcomp0_fn c) rfl (ocn _) ?_
 rintro _ _ ⟨rfl,rfl⟩
 refine⟨rfl,?_⟩
 refine To.r (Rd.fieldV (vs:=[.string nE, .slice none 0 0, .slice none 0 0]) rfl Tryz.underlying107 rfl Tryz.underlying88 rfl rfl rfl) ?_
 refine To.al fun b8=>?_
 refine To.z 7 ?_
 refine To.r (Rd.makeFunc rfl rfl rfl) ?_
 refine To.cQ rfl rfl rfl (Ent.fn rfl rfl ca64) (number0_fn (.func (.func 69) #[] #[pv b8,pv b5])) rfl (ocn _) ?_
 rintro _ _ ⟨rfl,rfl⟩
 refine⟨rfl,?_⟩
 refine To.z 7 ?_
 refine To.del1 (To.del0 (To.end2 (.inl rfl) Tryz.results37 rfl rfl ?_))
 exact⟨rfl,rfl⟩
theorem clonev0_fn:
    Does Tryz.prog 68 [.slice none 0 0] [] (fun v Γ'=>v= .slice none 0 0∧Γ'=[]):=by
 refine Does.enter Tryz.func68 rfl Tryz.ntmps68 rfl (fun w0=>?_)
 refine To.z 9 ?_
 refine To.r (Rd.as (v':= .bool true) rfl (Rd.eqlSl (A:=none) rfl Tryz.underlying88 rfl rfl)) ?_
 refine To.z 10 ?_
 refine To.end1 (.inl rfl) Tryz.results68 rfl ?_
 exact⟨rfl,rfl⟩
theorem zvars0_fn(c:Int):
    Does Tryz.prog 36 [.pointer none, .int .i64 c] [] (fun v Γ'=>v= .slice none 0 0∧Γ'=[]):=by
 refine Does.enter Tryz.func36 rfl Tryz.ntmps36 rfl (fun w0=>?_)
 refine To.z 9 ?_
 refine To.cQ rfl rfl rfl (Ent.fn rfl rfl ca44) (zfcomp0_fn c) rfl (ocn _) ?_
 rintro _ _ ⟨rfl,rfl⟩
 refine⟨rfl,?_⟩
 refine To.r (Rd.fieldV (vs:=[.string nE, .slice none 0 0, .slice none 0 0]) rfl Tryz.underlying107 rfl Tryz.underlying88 rfl rfl rfl) ?_
 refine To.cQ rfl rfl rfl (Ent.fn rfl rfl ca68) (clonev0_fn) rfl (ocn _) ?_
 rintro _ _ ⟨rfl,rfl⟩
 refine⟨rfl,?_⟩
 refine To.z 4 ?_
 refine To.end1 (.inl rfl) Tryz.results36 rfl ?_
 exact⟨rfl,rfl⟩
theorem zsrc0_fn:
    Does Tryz.prog 38 [.pointer none] [] (fun v Γ'=>v= .string nE∧Γ'=[]):=by
 refine Does.enter Tryz.func38 rfl Tryz.ntmps38 rfl (fun w0=>?_)
 refine To.z 9 ?_
 refine To.r (Rd.eqlNil rfl Tryz.underlying27 rfl rfl) ?_
 refine To.z 10 ?_
 refine To.end1 (.inl rfl) Tryz.results38 rfl ?_
 exact⟨rfl,rfl⟩
theorem zid0_fn:
    Does Tryz.prog 39 [.pointer none] [] (fun v Γ'=>v= .agg #[.int .u8 0, .int .u8 0, .int .u8 0, .int .u8 0, .int .u8 0, .int .u8 0, .int .u8 0, .int .u8 0, .int .u8 0, .int .u8 0, .int .u8 0, .int .u8 0, .int .u8 0, .int .u8 0, .int .u8 0, .int .u8 0, .int .u8 0, .int .u8 0, .int .u8 0, .int .u8 0, .int .u8 0, .int .u8 0, .int .u8 0, .int .u8 0, .int .u8 0, .int .u8 0, .int .u8 0, .int .u8 0, .int .u8 0, .int .u8 0, .int .u8 0, .int .u8 0]∧Γ'=[]):=by
 refine Does.enter Tryz.func39 rfl Tryz.ntmps39 rfl (fun w0=>?_)
 refine To.s (To.g ?_)
 refine To.al fun b2=>?_
 refine To.z 6 ?_
 refine To.r (Rd.eqlNil rfl Tryz.underlying27 rfl rfl) ?_
 refine To.z 5 ?_
 refine To.r (Rd.build (vs:=[]) (cells:=[.int .u8 0, .int .u8 0, .int .u8 0, .int .u8 0, .int .u8 0, .int .u8 0, .int .u8 0, .int .u8 0, .int .u8 0, .int .u8 0, .int .u8 0, .int .u8 0, .int .u8 0, .int .u8 0, .int .u8 0, .int .u8 0, .int .u8 0, .int .u8 0, .int .u8 0, .int .u8 0, .int .u8 0, .int .u8 0, .int .u8 0, .int .u8 0, .int .u8 0, .int .u8 0, .int .u8 0, .int .u8 0, .int .u8 0, .int .u8 0, .int .u8 0, .int .u8 0]) rfl rfl rfl (by kernel_rfl)) ?_
 refine To.z 5 ?_
 refine To.endC [] rfl (.inl rfl) Tryz.results39 rfl (i:=0) rfl r96 rfl ?_
 exact⟨rfl,rfl⟩
theorem zunit0_fn(c v h:Int):
    Does Tryz.prog 19 [.pointer none, .int .i64 c, .int .i64 v, .int .i64 h] [] (fun v Γ'=>v= .tuple #[.agg #[.int .i64 0, .int .i64 0, .slice none 0 0], .bool false]∧Γ'=[]):=by
 refine Does.enter Tryz.func19 rfl Tryz.ntmps19 rfl (fun w0=>?_)
 refine To.s (To.g ?_)
 refine To.al fun b8=>?_
 refine To.z 7 ?_
 refine To.r (Rd.eqlNil rfl Tryz.underlying27 rfl rfl) ?_
 refine To.z 5 ?_
 refine To.r (Rd.build (vs:=[]) (cells:=[.int .i64 0, .int .i64 0, .slice none 0 0]) rfl rfl rfl (by kernel_rfl)) ?_
 refine To.z 6 ?_
 refine To.endCT [] rfl (.inl rfl) Tryz.results19 rfl (i:=0) rfl r63 rfl rfl ?_
 exact⟨rfl,rfl⟩
theorem zsends0_fn(c:Int):
    Does Tryz.prog 26 [.pointer none, .int .i64 c] [] (fun v Γ'=>v= .slice none 0 0∧Γ'=[]):=by
 refine Does.enter Tryz.func26 rfl Tryz.ntmps26 rfl (fun w0=>?_)
 refine To.z 15 ?_
 refine To.cQ rfl rfl rfl (Ent.fn rfl rfl ca44) (zfcomp0_fn c) rfl (ocn _) ?_
 rintro _ _ ⟨rfl,rfl⟩
 refine⟨rfl,?_⟩
 refine To.r (Rd.fieldV (vs:=[.string nE, .slice none 0 0, .slice none 0 0]) rfl Tryz.underlying107 rfl Tryz.underlying105 rfl rfl rfl) ?_
 refine To.z 5 ?_
 refine To.sub [(0, .pointer none),(5, .slice none 0 0),(13, .slice none 0 0),(14, .int .i64 0),(15, .int .i64 0)] ⟨rfl,rfl,rfl,rfl,rfl,trivial⟩ ?_
 refine To.loop (fun mz ρ Γ=>ρ=[(0, .pointer none),(5, .slice none 0 0),(13, .slice none 0 0),(14, .int .i64 0),(15, .int .i64 0)]∧Γ=[]∧mz=0) (0) ⟨rfl,rfl,rfl⟩ ?_
 rintro mz _ _ ⟨rfl,rfl,rfl⟩
 refine To.z 15 ?_
 refine To.cQ rfl rfl rfl (Ent.fn rfl rfl ca61) (sort0_fn) rfl (ocn _) ?_
 rintro _ _ ⟨rfl,rfl⟩
 refine⟨rfl,?_⟩
 refine To.z 5 ?_
 refine To.cQ rfl rfl rfl (Ent.fn rfl rfl ca62) (compact0_fn) rfl (ocn _) ?_
 rintro _ _ ⟨rfl,rfl⟩
 refine⟨rfl,?_⟩
 refine To.z 4 ?_
 refine To.end1 (.inl rfl) Tryz.results26 rfl ?_
 exact⟨rfl,rfl⟩
open Go.RowKit Go.Flow Go.Mem Go.Sep Go.In
open Go.In
def idZ:Value:= .agg #[.int .u8 0, .int .u8 0, .int .u8 0, .int .u8 0, .int .u8 0, .int .u8 0, .int .u8 0, .int .u8 0, .int .u8 0, .int .u8 0, .int .u8 0, .int .u8 0, .int .u8 0, .int .u8 0, .int .u8 0, .int .u8 0, .int .u8 0, .int .u8 0, .int .u8 0, .int .u8 0, .int .u8 0, .int .u8 0, .int .u8 0, .int .u8 0, .int .u8 0, .int .u8 0, .int .u8 0, .int .u8 0, .int .u8 0, .int .u8 0, .int .u8 0, .int .u8 0]
set_option maxRecDepth 100000 in
theorem eqZ(w:World):(Op.equal 96 idZ idZ).run Tryz.prog w= .ok true w:=by kernel_rfl
theorem Rd.eqlId{o:Oper}{ρ:Slots}{Γ:List Chunk}{x y:Operand}{t':TypeId}(ho:o.op= .binOp .eql 96 x y t')(hx:ev ρ x=some idZ)(hy:ev ρ y=some idZ):Rd Tryz.prog o ρ Γ (.bool true):=Rd.bin ho hx hy fun w=>by
 have h:=eqZ w
 unfold idZ at h⊢
 simp[eqGuard,binOp,h]
set_option maxHeartbeats 4000000 in
set_option maxRecDepth 100000 in
theorem nil_fn(a b:Int)(s:ByteArray):
    Does Tryz.prog 8 [.int .i64 a, .int .i64 b, .string s] [gAc,glc,p10c,tabC,cstC] (fun v _=>v= .bool true):=by
 refine Does.enter Tryz.func8 rfl Tryz.ntmps8 rfl (fun w0=>?_)
 refine To.z 14 ?_
 refine To.cV rfl rfl rfl (Ent.fn rfl rfl ca33) ((zfind0_fn s).mono fun _ _ h=>h.1) rfl (ocn _) ?_
 refine To.z 11 ?_
 refine To.cV rfl rfl rfl (Ent.fn rfl rfl ca30) ((zflg0_fn s).mono fun _ _ h=>h.1) rfl (ocn _) ?_
 refine To.z 12 ?_
 refine To.cV rfl rfl rfl (Ent.fn rfl rfl ca37) ((zvar0_fn a s).mono fun _ _ h=>h.1) rfl (ocn _) ?_
 refine To.z 12 ?_
 refine To.cV rfl rfl rfl (Ent.fn rfl rfl ca17) ((zpar0_fn a b 0).mono fun _ _ h=>h.1) rfl (ocn _) ?_
 refine To.z 12 ?_
 refine To.cV rfl rfl rfl (Ent.fn rfl rfl ca19) ((zunit0_fn a b 0).mono fun _ _ h=>h.1) rfl (ocn _) ?_
 refine To.z 3 ?_
 refine To.al fun b16=>?_
 refine To.z 9 ?_
 refine To.cV rfl rfl rfl (Ent.fn rfl rfl ca12) ((zslot0_fn a b).mono fun _ _ h=>h.1) rfl (ocn _) ?_
 refine To.z 11 ?_
 refine To.cV rfl rfl rfl (Ent.fn rfl rfl ca9) (awake_fn) rfl (ocs (oca 1 rfl) (ocs (oca 2 rfl) (ocs (oca 3 rfl) (ocs (oca 4 rfl) (ocs (oca 5 rfl) (ocn _)))))) ?_
 refine To.z 26 ?_
 refine To.cV rfl rfl rfl (Ent.fn rfl rfl ca28) ((zfcomps0_fn).mono fun _ _ h=>h.1) rfl (ocn _) ?_
 refine To.z 4 ?_
 refine To.cV rfl rfl rfl (Ent.fn rfl rfl ca29) ((zfflags0_fn).mono fun _ _ h=>h.1) rfl (ocn _) ?_
 refine To.z 4 ?_
 refine To.cV rfl rfl rfl (Ent.fn rfl rfl ca38) ((zsrc0_fn).mono fun _ _ h=>h.1) rfl (ocn _) (To.r (Rd.eqlZ rfl rfl rfl) ?_)
 refine To.pT ?_
 refine To.rdP rfl rfl rfl (Rd.move rfl rfl) (fun g102=>?_) (fun g102=>?_)
 refine To.m ?_
 refine To.cV rfl rfl rfl (Ent.fn rfl rfl ca39) ((zid0_fn).mono fun _ _ h=>h.1) rfl (ocn _) (To.r (Rd.build (vs:=[]) (cells:=[.int .u8 0, .int .u8 0, .int .u8 0, .int .u8 0, .int .u8 0, .int .u8 0, .int .u8 0, .int .u8 0, .int .u8 0, .int .u8 0, .int .u8 0, .int .u8 0, .int .u8 0, .int .u8 0, .int .u8 0, .int .u8 0, .int .u8 0, .int .u8 0, .int .u8 0, .int .u8 0, .int .u8 0, .int .u8 0, .int .u8 0, .int .u8 0, .int .u8 0, .int .u8 0, .int .u8 0, .int .u8 0, .int .u8 0, .int .u8 0, .int .u8 0, .int .u8 0]) rfl rfl rfl (by kernel_rfl)) ?_)
 refine To.r (Rd.eqlId rfl rfl rfl) ?_
 refine To.z 5 ?_
 refine To.cV rfl rfl rfl (Ent.fn rfl rfl ca24) ((zlat0_fn a b).mono fun _ _ h=>h.1) rfl (ocn _) ?_
 refine To.z 5 ?_
 refine To.cV rfl rfl rfl (Ent.fn rfl rfl ca35) ((zfvers0_fn a).mono fun _ _ h=>h.1) rfl (ocn _) ?_
 refine To.z 5 ?_
 refine To.cV rfl rfl rfl (Ent.fn rfl rfl ca15) ((zfhand0_fn a).mono fun _ _ h=>h.1) rfl (ocn _) ?_
 refine To.z 6 ?_
 refine To.cV rfl rfl rfl (Ent.fn rfl rfl ca36) ((zvars0_fn a).mono fun _ _ h=>h.1) rfl (ocn _) ?_
 refine To.z 6 ?_
 refine To.cV rfl rfl rfl (Ent.fn rfl rfl ca26) ((zsends0_fn a).mono fun _ _ h=>h.1) rfl (ocn _) ?_
 refine To.z 6 ?_
 refine To.cV rfl rfl rfl (Ent.fn rfl rfl ca34) ((zfname0_fn a).mono fun _ _ h=>h.1) rfl (ocn _) (To.r (Rd.eqlZ rfl rfl rfl) ?_)
 refine To.pT ?_
 refine To.rdP rfl rfl rfl (Rd.move rfl rfl) (fun g148=>?_) (fun g148=>?_)
 refine To.z 2 ?_
 refine To.cV rfl rfl rfl (Ent.fn rfl rfl ca32) ((zfflagi0_fn a).mono fun _ _ h=>h.1) rfl (ocn _) ?_
 refine To.z 4 ?_
 refine To.sub [(0, .int .i64 a),(1, .int .i64 b),(2, .string s),(6, .bool true),(7, .pointer none),(9, .bool false),(11, .bool false),(13, .bool false),(15, .bool false),(17, .bool false),(20, .bool false)] ⟨rfl,rfl,rfl,rfl,rfl,rfl,rfl,rfl,rfl,rfl,rfl,trivial⟩ ?_
 refine To.t (To.rt (To.end1 (.inl rfl) Tryz.results8 rfl ?_))
 rfl
 exact absurd rfl g148
 exact absurd rfl g102
end Go.Proofs.YtihgdnjkofpgiaaGreatDoor
