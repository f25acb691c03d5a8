/- Own text. -/
import Derived.Test.YtllalpnmagpkfaaGreatDoorA17
set_option linter.unusedVariables false
set_option linter.unusedSimpArgs false
namespace Go.Proofs.YtllalpnmagpkfaaGreatDoor
open Go.Proofs.Tryz
open Go.RowKit Go.Flow Go.Mem Go.Sep
open Go.In
def txt:List Nat:=[102,108,101,101,116,32,102,32,123,32,99,111,109,112,111,110,101,110,116,32,97,32,123,32,118,97,114,32,120,58,32,105,110,116,32,61,32,48,59,32,111,110,32,104,40,105,41,32,123,32,120,32,61,32,105,32,43,32,49,59,32,125,32,125,32,125]
def toks:List Tok:=[(2,[102,108,101,101,116],0),(1,[102],6),(4,[123],8),(2,[99,111,109,112,111,110,101,110,116],10),(1,[97],20),(4,[123],22),(2,[118,97,114],24),(1,[120],28),(4,[58],29),(2,[105,110,116],31),(4,[61],35),(3,[48],37),(4,[59],38),(2,[111,110],40),(1,[104],43),(4,[40],44),(1,[105],45),(4,[41],46),(4,[123],48),(1,[120],50),(4,[61],52),(1,[105],54),(4,[43],56),(3,[49],58),(4,[59],59),(4,[125],61),(4,[125],63),(4,[125],65)]
set_option maxRecDepth 1000000 in
theorem sk_txt:skA txt=some 0:=by kernel_rfl
set_option maxRecDepth 1000000 in
theorem trc_txt:trc 30 txt 0=some toks:=by kernel_rfl
def tokC(l:List Tok):List AV:=l.flatMap fun x=>[.int .u8 (Int.ofNat x.1), .str x.2.1, .int .i64 (Int.ofNat x.2.2)]
theorem tokC_val{σ:Nat→Nat}:∀l:List Tok,vals σ (tokC l)=l.flatMap tokE
 |[]=>rfl
 | x::l=>by
   show vals σ ([.int .u8 (Int.ofNat x.1), .str x.2.1, .int .i64 (Int.ofNat x.2.2)]++tokC l)=tokE x++l.flatMap tokE
   rw[vals_map,List.map_append,←vals_map,←vals_map,tokC_val l]
   simp only[vals,val,tokE,List.cons_append,List.nil_append];rfl
theorem tokC_bel{k:Nat}:∀l:List Tok,bels k (tokC l)
 |[]=>by simp only[tokC,List.flatMap_nil,bels]
 | x::l=>by
   show bels k ([.int .u8 (Int.ofNat x.1), .str x.2.1, .int .i64 (Int.ofNat x.2.2)]++tokC l)
   exact bels_app (by simp only[bels,bel,and_true]) (tokC_bel l)
def newC(k:Nat)(n m:Nat)(l:List Tok):List MC:=[⟨k, .box 267,[.slu (k+1) 0 n (k+2) n, .int .i64 0, .int .i64 (Int.ofNat m), .str [], .nils, .nils, .nils, .int .i64 0, .int .i64 0]⟩,⟨k+3, .box 261,[.ptr k 0]⟩,⟨k+1, .row 331 3 n (.un (k+2) n),tokC l⟩]
theorem newC_bel{k n m:Nat}{l:List Tok}:belM (k+4) (newC k n m l):=fun c hc=>by
 simp only[newC,List.mem_cons,List.not_mem_nil,or_false]at hc
 rcases hc with rfl|rfl|rfl
 ·exact⟨by show k<k+4;omega,trivial,by simp only[bels,bel,and_true,true_and];omega⟩
 ·exact⟨by show k+3<k+4;omega,trivial,by simp only[bels,bel,and_true,true_and];omega⟩
 ·exact⟨by show k+1<k+4;omega,by show k+2<k+4;omega,tokC_bel l⟩
def orcL:CallF:=fun f vs M k=>bif Nat.beq f 100 then(match vs with
 |[.str s]=>bif eqL s txt&&thB GL M then some (.ptr k 0,newC k toks.length txt.length toks++M,k+4)else none
 |_=>none)else none
theorem Does.know{P:Program}{f:FuncId}{vs:List Value}{Γ:List Chunk}{R R':Value→List Chunk→Prop}(h:Does P f vs Γ R)(hr:∀v Γ' w,R v Γ'→sat Γ' w→R' v Γ'):Does P f vs Γ R':=fun w hs=>
 (h w hs).mono fun _ w' ⟨v,Γ',h1,h2,h3⟩=>⟨v,Γ',h1,hr v Γ' w' h2 h3.sat,h3⟩
theorem Does.beside{P:Program}{f:FuncId}{vs:List Value}{Γ Γ1:List Chunk}{R:Value→List Chunk→Prop}(h:Does P f vs Γ1 R)(hq:owns Γ1=[])(hs:∀w,oks Γ w→oks Γ1 w)(hr:∀v Γ',R v Γ'→reads Γ'=[]):Does P f vs Γ (fun v Γ'=>∃N,R v N∧Γ'=N++Γ):=fun w hw=>
 (h w (sat_of_oks hq (hs w hw.each))).mono fun _ _ ⟨v,N,h1,h2,h3⟩=>⟨v,N++Γ,h1,⟨N,h2,rfl⟩,(quiet_post hq h3 (hr v N h2)).add hw⟩
def upd3(σ:Nat→Nat)(k a b c d:Nat):Nat→Nat:=fun i=>if i=k then a else if i=k+1 then b else if i=k+2 then c else if i=k+3 then d else σ i
theorem upd3_sup{σ:Nat→Nat}{k a b c d:Nat}:Sup k σ (upd3 σ k a b c d):=fun i hi=>by unfold upd3;rw[if_neg om,if_neg om,if_neg om,if_neg om]
theorem bl_big{σ:Nat→Nat}{i:Nat}(h:4096≤i):bl σ i=σ i:=by
 unfold bl
 have:Nat.blt i 4096=false:=by
  cases hb:Nat.blt i 4096 with
  |false=>rfl
  |true=>have:=Nat.le_of_ble_eq_true hb;omega
 rw[this];rfl
theorem orcL_ok:CallsOk prog orcL:=fun f vs M k v M' k' h hbig hvs hM=>by
 unfold orcL at h
 cases hf:Nat.beq f 100 with
 |false=>rw[hf]at h;cases h
 | true =>
   rw[hf]at h;simp only[cond_true]at h
   have ef:=Nat.eq_of_beq_eq_true hf
   subst ef
   split at h
   · rename_i s
     cases hq:(eqL s txt&&thB GL M)with
     |false=>rw[hq]at h;cases h
     | true=>
       rw[hq]at h;cases h
       rw[Bool.and_eq_true]at hq
       have es:=eqL_ok hq.1
       subst es
       refine⟨by omega,by simp only[bel];omega,belM_append newC_bel (belM_up om hM),fun σ=>?_⟩
       have h1:=start_fn txt (by decide) toks (by decide) 0 30 sk_txt trc_txt
       have h2:=Does.beside (Γ:=mem σ M) h1 rfl (fun w hw=>fun c hc=>by
        rw[List.mem_singleton.1 hc]
        have e:gl=mem σ GL:=rfl
        show sat gl w
        rw[e]
        exact sat_of_oks (by rw[←e];exact gl_owns) (thB_oks (σ:=σ) hq.2 w hw)) (by
        rintro v Γ' ⟨b8,b3,A,ca,rfl,rfl⟩;rfl)
       simp only[vals,val]
       refine Does.know h2 ?_
       rintro v _ w ⟨N,⟨b8,b3,A,ca,rfl,rfl⟩,rfl⟩ hs
       have hrow:w.ownsRow 0 331 3 (.slice A toks.length ca) toks.length (toks.flatMap tokE):=hs.each (rows tokE 331 3 A ca toks) (by simp)
       have hA:=own_some hrow (by decide)
       obtain⟨A2,cap2,g1,_,g2,_⟩:=own_form hrow
       cases g1
       have hk:=upd3_sup (σ:=σ) (k:=k) (a:=b8) (b:=blk A) (c:=ca-toks.length) (d:=b3)
       have e0:upd3 σ k b8 (blk A) (ca-toks.length) b3 k=b8:=by unfold upd3;rw[if_pos rfl]
       have e1:upd3 σ k b8 (blk A) (ca-toks.length) b3 (k+1)=blk A:=by unfold upd3;rw[if_neg om,if_pos rfl]
       have e2:upd3 σ k b8 (blk A) (ca-toks.length) b3 (k+2)=ca-toks.length:=by unfold upd3;rw[if_neg om,if_neg om,if_pos rfl]
       have e3:upd3 σ k b8 (blk A) (ca-toks.length) b3 (k+3)=b3:=by unfold upd3;rw[if_neg om,if_neg om,if_neg om,if_pos rfl]
       refine⟨_,hk,by simp only[val];rw[bl_big hbig,e0],?_⟩
       rw[mem_append,←mem_ext (fun i hi=>hk i hi) hM]
       congr 1
       simp only[newC,mem,ck,cp,List.map_cons,List.map_nil,vals,val,tokC_val,bl_big hbig,bl_big (show 4096≤k+1 by omega),bl_big (show 4096≤k+3 by omega),e0,e1,e2,e3]
       rw[show toks.length+(ca-toks.length)=ca by omega]
       conv=>lhs;rw[hA]
       rfl
   ·cases h
end Go.Proofs.YtllalpnmagpkfaaGreatDoor
