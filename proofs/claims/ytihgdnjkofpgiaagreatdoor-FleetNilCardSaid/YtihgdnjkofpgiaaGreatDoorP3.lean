/- The text of statements. Own text (walks printed by sx.py). -/
import Derived.Test.YtihgdnjkofpgiaaGreatDoorUe
set_option linter.unusedVariables false
set_option linter.unusedSimpArgs false
set_option maxHeartbeats 2000000
set_option maxRecDepth 100000
namespace Go.Proofs.YtihgdnjkofpgiaaGreatDoor
open Go.RowKit Go.Flow Go.Mem Go.Sep Go.In
theorem PS.cntL_take{l:List St}{k:Nat}{y:St}(h:l[k]?=some y):PS.cntL (St.pL (l.take (k+1)))=PS.cntL (St.pL (l.take k))+PS.cnt y.pure:=by
 rw[take_of_get h,St.pm,List.map_append,PS.cntL_app,←St.pm];show _=_+(PS.cnt y.pure+0);rfl
theorem PS.cntL_le(l:List St)(k:Nat):PS.cntL (St.pL (l.take k))≤PS.cntL (St.pL l):=by
 conv=>rhs;rw[←List.take_append_drop k l,St.pm,List.map_append,PS.cntL_app]
 rw[St.pm];omega
theorem St.cnt_eq(s:St):PS.cnt s.pure=1+PS.cntL (St.pL s.thn)+PS.cntL (St.pL s.els):=by rw[St.pq];rfl
theorem St.sdep_eq(s:St):PS.sdep s.pure=max (PS.sdepL (St.pL s.thn)) (PS.sdepL (St.pL s.els))+1:=by rw[St.pq];rfl
theorem St.sdep_at{l:List St}{y:St}(h:y∈l):PS.sdep y.pure≤PS.sdepL (St.pL l):=PS.sdep_mem (by rw[St.pm];exact List.mem_map.2 ⟨y,h,rfl⟩)
theorem set_small{D:List ByteArray}{j n:Nat}{s:ByteArray}(h:∀x∈D,x.size≤n)(hs:s.size≤n):∀x∈D.set j s,x.size≤n:=fun x hx=>(List.mem_or_eq_of_mem_set hx).elim (h x) fun e=>by rw[e];exact hs
theorem rep_small(k n:Nat):∀x∈List.replicate k nE,x.size≤n:=fun x hx=>by rw[(List.mem_replicate.1 hx).2];exact Nat.zero_le _
theorem frm_least{k n:Nat}{m:Nat}(h:(frm k).2.2.1≤m)(e:k=n):(frm n).2.2.1≤m:=e▸h
theorem wbody_step(wb:Nat)(Ab:Option Addr)(qb:Nat)(bs:List St)(ih:∀y∈bs,∀(ind:Nat) (A0:Option Addr) (q0:Nat) (T0:List UInt8),y.pure.low→y.pure.fine→ind+PS.sdep y.pure≤30→T0.length+100000*PS.cnt y.pure≤140737488355328→Does Tryz.prog 237 [pv wb, .agg (encT y).toArray] [box wb [pv wb, .slice A0 T0.length q0,nv ind] 230,rows encBy 5 1 A0 q0 T0,glc,p10c,all (y.kids encX encT)] (fun v Γ'=>∃(A':Option Addr) (q':Nat) (T':List UInt8),v= .tuple #[]∧Γ'=[box wb [pv wb, .slice A' T'.length q',nv ind] 230,rows encBy 5 1 A' q' T',glc,p10c]∧T0.length<T'.length∧T'.length≤T0.length+100000*PS.cnt y.pure))(ind:Nat)(A0:Option Addr)(q0:Nat)(T0:List UInt8)(hlow:PS.lowL (St.pL bs))(hfin:PS.fineL (St.pL bs))(hbl:bs.length≤12)(hi:ind+PS.sdepL (St.pL bs)≤29)(hl:T0.length+100000*PS.cntL (St.pL bs)≤140737488355328):
    Does Tryz.prog 210 [pv wb, .slice Ab bs.length qb] [box wb [pv wb, .slice A0 T0.length q0,nv ind] 230,rows encBy 5 1 A0 q0 T0,glc,p10c,all (lsG encX encT Ab bs)] (fun v Γ'=>∃(A':Option Addr) (q':Nat) (T':List UInt8),v= .tuple #[]∧Γ'=[box wb [pv wb, .slice A' T'.length q',nv ind] 230,rows encBy 5 1 A' q' T',glc,p10c]∧T0.length≤T'.length∧T'.length≤T0.length+100000*PS.cntL (St.pL bs)):=by
 have hcp:=PS.cntL_le bs bs.length
 refine Does.enter Tryz.func210 rfl Tryz.ntmps210 rfl (fun w0=>?_)
 refine To.z 14 ?_
 refine To.one 4 rfl (ros encT Ab bs) rfl (List.mem_cons_self ..) ?_
 refine To.z 7 ?_
 refine To.sub [(0,pv wb),(13, .slice Ab bs.length qb),(14,nv bs.length),(15,nv 0)] ⟨rfl,rfl,rfl,rfl,trivial⟩ ?_
 refine To.up5 (To.up1 (To.up3 (To.up3 ?_)))
 refine To.loop (fun mz ρ Γ=>∃(Aj:Option Addr) (qj:Nat) (Tj:List UInt8) (j:Nat),ρ=[(0,pv wb),(13, .slice Ab bs.length qb),(14,nv bs.length),(15,nv j)]∧Γ=[box wb [pv wb, .slice Aj Tj.length qj,nv (ind+1)] 230,rows encBy 5 1 Aj qj Tj,ros encT Ab bs,all (lsG encX encT Ab bs),glc,p10c]∧mz=bs.length-j∧(j≤bs.length)∧(T0.length≤Tj.length)∧(Tj.length≤T0.length+100000*PS.cntL (St.pL (bs.take j)))) (bs.length-0) ⟨A0,q0,T0,0,rfl,rfl,rfl,(Nat.zero_le _),(Nat.le_refl _),(Nat.le_add_right _ _)⟩ ?_
 rintro mz _ _ ⟨Aj,qj,Tj,j,rfl,rfl,rfl,hj,h1,h2⟩
 refine To.z 6 ?_
 refine To.cp rfl (fun c16=>?_) (fun c16=>?_)
 obtain⟨y,hy⟩:∃z0,bs[j]?=some z0:=⟨bs[j]'(by omega),gge _⟩
 have hct:=PS.cntL_take hy
 have hcl:=PS.cntL_le bs (j+1)
 refine To.z 8 ?_
 refine To.al fun b5=>?_
 refine To.z 3 ?_
 refine To.part 4 rfl (y.kids encX encT) (St.lax encX encT y) (lg_mem hy) ?_
 refine To.z 3 ?_
 refine To.cl [2,2,4,4,0] rfl rfl rfl (Ent.fn rfl rfl ca237) rfl (ih y (mog hy) (ind+1) Aj qj Tj (St.lowL_at hlow (mog hy)) (St.fineL_at hfin (mog hy)) (by have:=St.sdep_at (mog hy);omega) (by omega)) ?_
 rintro _ _ ⟨Aw,qw,Tw,rfl,rfl,hw⟩
 refine To.z 8 ?_
 refine To.sub [(0,pv wb),(13, .slice Ab bs.length qb),(14,nv bs.length),(15,nv ((j+1)))] ⟨rfl,rfl,rfl,rfl,trivial⟩ ?_
 refine To.del4 (To.up5 (To.up5 (To.up3 (To.up3 ?_))))
 refine To.ag (bs.length-(j+1)) (by omega) ⟨Aw,qw,Tw,j+1,rfl,rfl,rfl,(by omega),(by omega),(by rw[hct];omega)⟩
 refine To.z 10 ?_
 refine To.r (Rd.as (v':=nv ind) (congrArg (Value.int .i64) (by omega)) (Rd.sub64 (m:=((ind+1:Nat):Int)) (n:=1) rfl rfl rfl (by omega))) ?_
 refine To.z 4 ?_
 refine To.del3 (To.del2 (To.end0 (.inr rfl) Tryz.results210 ?_))
 exact⟨_,_,_,rfl,rfl,h1,by rw[List.take_of_length_le (by omega)]at h2;exact h2⟩
theorem disk_fn(wb:Nat)(Ab:Option Addr)(qb:Nat)(bs:List St)(ih:∀(ind:Nat) (A0:Option Addr) (q0:Nat) (T0:List UInt8),PS.lowL (St.pL bs)→PS.fineL (St.pL bs)→bs.length≤12→ind+PS.sdepL (St.pL bs)≤29→T0.length+100000*PS.cntL (St.pL bs)≤140737488355328→Does Tryz.prog 210 [pv wb, .slice Ab bs.length qb] [box wb [pv wb, .slice A0 T0.length q0,nv ind] 230,rows encBy 5 1 A0 q0 T0,glc,p10c,all (lsG encX encT Ab bs)] (fun v Γ'=>∃(A':Option Addr) (q':Nat) (T':List UInt8),v= .tuple #[]∧Γ'=[box wb [pv wb, .slice A' T'.length q',nv ind] 230,rows encBy 5 1 A' q' T',glc,p10c]∧T0.length≤T'.length∧T'.length≤T0.length+100000*PS.cntL (St.pL bs)))(ind:Nat)(A0:Option Addr)(q0:Nat)(T0:List UInt8)(hlow:PS.lowL (St.pL bs))(hfin:PS.fineL (St.pL bs))(hbl:bs.length≤12)(hi:ind+PS.sdepL (St.pL bs)≤29)(fs:ByteArray)(hfs:fs.size≤40000)(hl:T0.length+50000+100000*PS.cntL (St.pL bs)≤140737488355328):
    Does Tryz.prog 247 [pv wb, .string fs, .slice Ab bs.length qb] [box wb [pv wb, .slice A0 T0.length q0,nv ind] 230,rows encBy 5 1 A0 q0 T0,glc,p10c,all (lsG encX encT Ab bs)] (fun v Γ'=>∃(A':Option Addr) (q':Nat) (T':List UInt8),v= .tuple #[]∧Γ'=[box wb [pv wb, .slice A' T'.length q',nv ind] 230,rows encBy 5 1 A' q' T',glc,p10c]∧T0.length<T'.length∧T'.length≤T0.length+50000+100000*PS.cntL (St.pL bs)):=by
 refine Does.enter Tryz.func247 rfl Tryz.ntmps247 rfl (fun w0=>?_)
 refine To.z 8 ?_
 refine To.cp rfl (fun k8=>?_) (fun k8=>?_)
 refine To.z 4 ?_
 refine To.mk rfl rfl rfl (Mk.sN (us:=[.string fs, .string (bytesOf [59])]) rfl s54 rfl rfl rfl rfl rfl rfl) ?_
 rintro _ _ ⟨b11,rfl,rfl⟩
 refine To.cl [1,1,0] rfl rfl rfl (Ent.fn rfl rfl ca107) rfl (line_fn ind A0 q0 T0 (some ⟨b11,0,none⟩) 2 [fs,(bytesOf [59])] (by omega) (Nat.le_of_ble_eq_true rfl) (by show _+2*_+(fs.size+((bytesOf [59]).size+(0)))+1≤_;simp only[ByteArray.size_append,bytes_size,lc1,ln0];omega)) ?_
 rintro _ _ ⟨Aw,qw,Tw,rfl,rfl,hw⟩
 replace hw:Tw.length=T0.length+2*ind+(fs.size+((bytesOf [59]).size+(0)))+1:=hw
 simp only[ByteArray.size_append,bytes_size,lc1,ln0]at hw
 refine To.z 4 ?_
 refine To.del4 (To.end0 (.inl rfl) Tryz.results247 ?_)
 exact⟨_,_,_,rfl,rfl,by omega,by omega⟩
 refine To.z 6 ?_
 refine To.mk rfl rfl rfl (Mk.sN (us:=[.string fs, .string (bytesOf [32,101,108,115,101,32,123])]) rfl s54 rfl rfl rfl rfl rfl rfl) ?_
 rintro _ _ ⟨b15,rfl,rfl⟩
 refine To.cl [1,1,0] rfl rfl rfl (Ent.fn rfl rfl ca107) rfl (line_fn ind A0 q0 T0 (some ⟨b15,0,none⟩) 2 [fs,(bytesOf [32,101,108,115,101,32,123])] (by omega) (Nat.le_of_ble_eq_true rfl) (by show _+2*_+(fs.size+((bytesOf [32,101,108,115,101,32,123]).size+(0)))+1≤_;simp only[ByteArray.size_append,bytes_size,lc1,ln0];omega)) ?_
 rintro _ _ ⟨Aw,qw,Tw,rfl,rfl,hw⟩
 replace hw:Tw.length=T0.length+2*ind+(fs.size+((bytesOf [32,101,108,115,101,32,123]).size+(0)))+1:=hw
 simp only[ByteArray.size_append,bytes_size,lc1,ln0]at hw
 refine To.z 6 ?_
 refine To.cl [0,0,0,0,0] rfl rfl rfl (Ent.fn rfl rfl ca210) rfl (ih ind Aw qw Tw hlow hfin (by omega) (by omega) (by omega)) ?_
 rintro _ _ ⟨Aw_2,qw_2,Tw_2,rfl,rfl,hw_2⟩
 refine To.z 4 ?_
 refine To.mk rfl rfl rfl (Mk.sN (us:=[.string (bytesOf [125])]) rfl s54 rfl rfl rfl rfl rfl rfl) ?_
 rintro _ _ ⟨b21,rfl,rfl⟩
 refine To.cl [1,1,0] rfl rfl rfl (Ent.fn rfl rfl ca107) rfl (line_fn ind Aw_2 qw_2 Tw_2 (some ⟨b21,0,none⟩) 1 [(bytesOf [125])] (by omega) (Nat.le_of_ble_eq_true rfl) (by show _+2*_+((bytesOf [125]).size+(0))+1≤_;simp only[ByteArray.size_append,bytes_size,lc1,ln0];omega)) ?_
 rintro _ _ ⟨Aw_3,qw_3,Tw_3,rfl,rfl,hw_3⟩
 replace hw_3:Tw_3.length=Tw_2.length+2*ind+((bytesOf [125]).size+(0))+1:=hw_3
 simp only[ByteArray.size_append,bytes_size,lc1,ln0]at hw_3
 refine To.n (To.end0 (.inr rfl) Tryz.results247 ?_)
 exact⟨_,_,_,rfl,rfl,by omega,by omega⟩
theorem fm_nm{b:Bool}{s:ByteArray}(h4:b=true→isNm s)(h5:b=false→s=nE):s.size≤6:=by
 cases b with
 |true=>exact isNm_size (h4 rfl)
 |false=>rw[h5 rfl];exact Nat.zero_le _
set_option maxHeartbeats 8000000 in
set_option maxRecDepth 100000 in
theorem wstmt_step(wb:Nat)(s:St)(ihT:∀(ind:Nat) (A0:Option Addr) (q0:Nat) (T0:List UInt8),PS.lowL (St.pL s.thn)→PS.fineL (St.pL s.thn)→s.thn.length≤12→ind+PS.sdepL (St.pL s.thn)≤29→T0.length+100000*PS.cntL (St.pL s.thn)≤140737488355328→Does Tryz.prog 210 [pv wb, .slice s.At s.thn.length s.qt] [box wb [pv wb, .slice A0 T0.length q0,nv ind] 230,rows encBy 5 1 A0 q0 T0,glc,p10c,all (lsG encX encT s.At s.thn)] (fun v Γ'=>∃(A':Option Addr) (q':Nat) (T':List UInt8),v= .tuple #[]∧Γ'=[box wb [pv wb, .slice A' T'.length q',nv ind] 230,rows encBy 5 1 A' q' T',glc,p10c]∧T0.length≤T'.length∧T'.length≤T0.length+100000*PS.cntL (St.pL s.thn)))(ihE:∀(ind:Nat) (A0:Option Addr) (q0:Nat) (T0:List UInt8),PS.lowL (St.pL s.els)→PS.fineL (St.pL s.els)→s.els.length≤12→ind+PS.sdepL (St.pL s.els)≤29→T0.length+100000*PS.cntL (St.pL s.els)≤140737488355328→Does Tryz.prog 210 [pv wb, .slice s.Ae s.els.length s.qe] [box wb [pv wb, .slice A0 T0.length q0,nv ind] 230,rows encBy 5 1 A0 q0 T0,glc,p10c,all (lsG encX encT s.Ae s.els)] (fun v Γ'=>∃(A':Option Addr) (q':Nat) (T':List UInt8),v= .tuple #[]∧Γ'=[box wb [pv wb, .slice A' T'.length q',nv ind] 230,rows encBy 5 1 A' q' T',glc,p10c]∧T0.length≤T'.length∧T'.length≤T0.length+100000*PS.cntL (St.pL s.els)))(ind:Nat)(A0:Option Addr)(q0:Nat)(T0:List UInt8)(hlow:s.pure.low)(hfin:s.pure.fine)(hi:ind+PS.sdep s.pure≤30)(hl:T0.length+100000*PS.cnt s.pure≤140737488355328):
    Does Tryz.prog 237 [pv wb, .agg (encT s).toArray] [box wb [pv wb, .slice A0 T0.length q0,nv ind] 230,rows encBy 5 1 A0 q0 T0,glc,p10c,all (s.kids encX encT)] (fun v Γ'=>∃(A':Option Addr) (q':Nat) (T':List UInt8),v= .tuple #[]∧Γ'=[box wb [pv wb, .slice A' T'.length q',nv ind] 230,rows encBy 5 1 A' q' T',glc,p10c]∧T0.length<T'.length∧T'.length≤T0.length+100000*PS.cnt s.pure):=by
 obtain⟨hf,hft,hfe⟩:=St.fine_at hfin
 obtain⟨hk,⟨he,hel⟩,⟨ht,htl⟩,hn,hnl⟩:=St.low_at hlow
 have hcn:=St.cnt_eq s
 have hsd:=St.sdep_eq s
 have hnm:s.name.size≤6:=fm_nm hf.nm1 hf.nm2
 have hhd:s.hand.size≤6:=fm_nm hf.hd1 hf.hd2
 refine Does.enter Tryz.func237 rfl Tryz.ntmps237 rfl (fun w0=>?_)
 refine To.s (To.g ?_)
 refine To.bo fun b3=>?_
 refine To.z 7 ?_
 refine To.mk rfl rfl rfl (Mk.makeRows (enc:=encZ) (z:=nE) (n:=s.exprs.length) rfl rfl s54 rfl rfl (by omega) (by simp only[maxLen];omega)) ?_
 rintro _ _ ⟨b10,rfl,rfl⟩
 refine To.z 5 ?_
 refine To.part 6 rfl (lsF encX s.A s.exprs) (lsF_lax _ _ _) (St.exprs_kids s) (To.one 0 rfl (ros encX s.A s.exprs) rfl (List.mem_cons_self ..) ?_)
 refine To.z 8 ?_
 refine To.sub [(0,pv wb),(3,pv b3),(4, .slice (some ⟨b10,0,none⟩) (List.replicate s.exprs.length nE).length s.exprs.length),(12, .slice s.A s.exprs.length s.q),(13,nv s.exprs.length),(14,nv 0)] ⟨rfl,rfl,rfl,rfl,rfl,rfl,trivial⟩ ?_
 refine To.up8 (To.up4 (To.up3 (To.up3 (To.up4 (To.up6 (To.up6 ?_))))))
 refine To.loop (fun mz ρ Γ=>∃(D:List ByteArray) (j:Nat),ρ=[(0,pv wb),(3,pv b3),(4, .slice (some ⟨b10,0,none⟩) D.length s.exprs.length),(12, .slice s.A s.exprs.length s.q),(13,nv s.exprs.length),(14,nv j)]∧Γ=[box wb [pv wb, .slice A0 T0.length q0,nv ind] 230,rows encBy 5 1 A0 q0 T0,rows encZ 9 1 (some ⟨b10,0,none⟩) s.exprs.length D,ros encX s.A s.exprs,all (lsF encX s.A s.exprs),box b3 [.int .u8 ((s.kind:Nat):Int), .string s.name, .string s.hand, .slice s.A s.exprs.length s.q, .slice s.At s.thn.length s.qt, .slice s.Ae s.els.length s.qe] 212,all (s.kids encX encT),glc,p10c]∧mz=s.exprs.length-j∧(j≤s.exprs.length)∧(D.length=s.exprs.length)∧(∀x∈D,x.size≤12000)) (s.exprs.length-0) ⟨(List.replicate s.exprs.length nE),0,rfl,rfl,rfl,(Nat.zero_le _),List.length_replicate,(rep_small _ _)⟩ ?_
 rintro mz _ _ ⟨D,j,rfl,rfl,rfl,hj,hDl,hDz⟩
 refine To.z 6 ?_
 refine To.cp rfl (fun k15=>?_) (fun k15=>?_)
 obtain⟨y,hy⟩:∃z0,s.exprs[j]?=some z0:=⟨s.exprs[j]'(by omega),gge _⟩
 have hyf:=Ex.fineL_at hf.exprs (mog hy)
 have hyz:=PE.tz_8 hyf (hf.deps y (mog hy))
 have hyl:=Ex.lowL_at hel (mog hy)
 refine To.z 9 ?_
 refine To.al fun b6=>?_
 refine To.z 4 ?_
 obtain⟨d0,hd0⟩:∃z0,D[j]?=some z0:=⟨D[j]'(by omega),gge _⟩
 refine To.part 5 rfl (y.kids encX) (Ex.lax encX y) (ls_mem hy) ?_
 refine To.z 4 ?_
 refine To.cQ rfl rfl rfl (Ent.fn rfl rfl ca246) (text_fn y (by omega) hyl hyf) (by show owns (y.kids encX)++(owns gl++(p10c.owns++[]))=[];rw[(Ex.lax encX y).owns];rfl) (ocs (oca 0 rfl) (ocs (oca 9 rfl) (ocs (oca 10 rfl) (ocn _)))) ?_
 rintro _ _ ⟨s1,rfl,rfl,hs1⟩
 refine⟨rfl,?_⟩
 refine To.z 1 ?_
 refine To.u (Up.store (i:=4) rfl rfl rfl c9 rfl rfl (rows_takes encZ_ok (y:=s1) (by decide) (by omega))) ?_
 refine To.z 8 ?_
 refine To.sub [(0,pv wb),(3,pv b3),(4, .slice (some ⟨b10,0,none⟩) (D.set j s1).length s.exprs.length),(12, .slice s.A s.exprs.length s.q),(13,nv s.exprs.length),(14,nv ((j+1)))] ⟨rfl,rfl,(congrArg (fun n=>some (Value.slice (some ⟨b10,0,none⟩) n s.exprs.length)) List.length_set.symm),rfl,rfl,rfl,trivial⟩ ?_
 refine To.del1 (To.del0 ?_)
 refine To.ag (s.exprs.length-(j+1)) (by omega) ⟨(D.set j s1),j+1,rfl,rfl,rfl,(by omega),(by rw[List.length_set];exact hDl),(set_small hDz (by omega))⟩
 refine To.z 18 ?_
 refine To.cp rfl (fun k27=>?_) (fun k27=>?_)
 have hle:1≤s.exprs.length:=frm_least hf.least (n:=1) (by omega)
 obtain⟨e0,he0⟩:∃z0,D[0]?=some z0:=⟨D[0]'(by omega),gge _⟩
 have hz0:=hDz e0 (mog he0)
 refine To.flow [box b3 [.int .u8 ((s.kind:Nat):Int), .string s.name, .string s.hand, .slice s.A s.exprs.length s.q, .slice s.At s.thn.length s.qt, .slice s.Ae s.els.length s.qe] 212,rows encZ 9 1 (some ⟨b10,0,none⟩) s.exprs.length D] [⟨0,[],0⟩,⟨1,[],0⟩,⟨2,[],0⟩,⟨3,[],0⟩,⟨4,[],0⟩,⟨5,[],0⟩,⟨6,[],2⟩,⟨7,[6],5⟩] mixed (by kernel_rfl) (ocs (oca 5 rfl) (ocs (oca 2 rfl) (ocn _))) ?_
 refine To.z 6 ?_
 refine Fw.mk rfl rfl rfl rfl rfl (Mk.sN (us:=[.string s.name, .string (bytesOf [32,61,32]), .string e0, .string (bytesOf [59])]) rfl s54 rfl rfl rfl rfl rfl rfl) ?_
 rintro _ _ ⟨b35,rfl,rfl⟩
 refine Fw.call [1,1,0] rfl rfl rfl rfl (Ent.fn rfl rfl ca107) rfl (line_fn ind A0 q0 T0 (some ⟨b35,0,none⟩) 4 [s.name,(bytesOf [32,61,32]),e0,(bytesOf [59])] (by omega) (Nat.le_of_ble_eq_true rfl) (by show _+2*_+(s.name.size+((bytesOf [32,61,32]).size+(e0.size+((bytesOf [59]).size+(0)))))+1≤_;simp only[ByteArray.size_append,bytes_size,lc1,ln0];omega)) ?_
 rintro _ _ ⟨Aw,qw,Tw,rfl,rfl,hw⟩
 refine⟨ocs (oca 5 rfl) (ocs (oca 2 rfl) (ocn _)),?_⟩
 replace hw:Tw.length=T0.length+2*ind+(s.name.size+((bytesOf [32,61,32]).size+(e0.size+((bytesOf [59]).size+(0)))))+1:=hw
 simp only[ByteArray.size_append,bytes_size,lc1,ln0]at hw
 refine To.z 2 ?_
 refine To.del6 (To.del5 (To.del4 (To.del3 (To.del2 (To.end0 (.inr rfl) Tryz.results237 ?_)))))
 exact⟨_,_,_,rfl,rfl,by omega,by omega⟩
 refine To.z 6 ?_
 refine To.cp rfl (fun k37=>?_) (fun k37=>?_)
 have hle:2≤s.exprs.length:=frm_least hf.least (n:=2) (by omega)
 obtain⟨e0,he0⟩:∃z0,D[0]?=some z0:=⟨D[0]'(by omega),gge _⟩
 have hz0:=hDz e0 (mog he0)
 obtain⟨e1,he1⟩:∃z0,D[1]?=some z0:=⟨D[1]'(by omega),gge _⟩
 have hz1:=hDz e1 (mog he1)
 refine To.flow [box b3 [.int .u8 ((s.kind:Nat):Int), .string s.name, .string s.hand, .slice s.A s.exprs.length s.q, .slice s.At s.thn.length s.qt, .slice s.Ae s.els.length s.qe] 212,rows encZ 9 1 (some ⟨b10,0,none⟩) s.exprs.length D] [⟨0,[],0⟩,⟨1,[],0⟩,⟨2,[],0⟩,⟨3,[],0⟩,⟨4,[],0⟩,⟨5,[],0⟩,⟨6,[],0⟩,⟨7,[],0⟩,⟨8,[],0⟩,⟨9,[],2⟩,⟨10,[9],5⟩] mixed (by kernel_rfl) (ocs (oca 5 rfl) (ocs (oca 2 rfl) (ocn _))) ?_
 refine To.z 9 ?_
 refine Fw.mk rfl rfl rfl rfl rfl (Mk.sN (us:=[.string s.name, .string (bytesOf [91]), .string e0, .string (bytesOf [93,32,61,32]), .string e1, .string (bytesOf [59])]) rfl s54 rfl rfl rfl rfl rfl rfl) ?_
 rintro _ _ ⟨b48,rfl,rfl⟩
 refine Fw.call [1,1,0] rfl rfl rfl rfl (Ent.fn rfl rfl ca107) rfl (line_fn ind A0 q0 T0 (some ⟨b48,0,none⟩) 6 [s.name,(bytesOf [91]),e0,(bytesOf [93,32,61,32]),e1,(bytesOf [59])] (by omega) (Nat.le_of_ble_eq_true rfl) (by show _+2*_+(s.name.size+((bytesOf [91]).size+(e0.size+((bytesOf [93,32,61,32]).size+(e1.size+((bytesOf [59]).size+(0)))))))+1≤_;simp only[ByteArray.size_append,bytes_size,lc1,ln0];omega)) ?_
 rintro _ _ ⟨Aw,qw,Tw,rfl,rfl,hw⟩
 refine⟨ocs (oca 5 rfl) (ocs (oca 2 rfl) (ocn _)),?_⟩
 replace hw:Tw.length=T0.length+2*ind+(s.name.size+((bytesOf [91]).size+(e0.size+((bytesOf [93,32,61,32]).size+(e1.size+((bytesOf [59]).size+(0)))))))+1:=hw
 simp only[ByteArray.size_append,bytes_size,lc1,ln0]at hw
 refine To.z 2 ?_
 refine To.del6 (To.del5 (To.del4 (To.del3 (To.del2 (To.end0 (.inr rfl) Tryz.results237 ?_)))))
 exact⟨_,_,_,rfl,rfl,by omega,by omega⟩
 refine To.z 6 ?_
 refine To.cp rfl (fun k50=>?_) (fun k50=>?_)
 have hle:1≤s.exprs.length:=frm_least hf.least (n:=3) (by omega)
 obtain⟨e0,he0⟩:∃z0,D[0]?=some z0:=⟨D[0]'(by omega),gge _⟩
 have hz0:=hDz e0 (mog he0)
 refine To.flow [box b3 [.int .u8 ((s.kind:Nat):Int), .string s.name, .string s.hand, .slice s.A s.exprs.length s.q, .slice s.At s.thn.length s.qt, .slice s.Ae s.els.length s.qe] 212,rows encZ 9 1 (some ⟨b10,0,none⟩) s.exprs.length D] [⟨0,[],0⟩,⟨1,[],0⟩,⟨2,[],0⟩,⟨3,[],0⟩,⟨4,[],0⟩,⟨5,[],0⟩,⟨6,[],2⟩,⟨7,[6],5⟩] mixed (by kernel_rfl) (ocs (oca 5 rfl) (ocs (oca 2 rfl) (ocn _))) ?_
 refine To.z 6 ?_
 refine Fw.mk rfl rfl rfl rfl rfl (Mk.sN (us:=[.string (bytesOf [100,101,108,101,116,101,32]), .string s.name, .string (bytesOf [91]), .string e0, .string (bytesOf [93,59])]) rfl s54 rfl rfl rfl rfl rfl rfl) ?_
 rintro _ _ ⟨b58,rfl,rfl⟩
 refine Fw.call [1,1,0] rfl rfl rfl rfl (Ent.fn rfl rfl ca107) rfl (line_fn ind A0 q0 T0 (some ⟨b58,0,none⟩) 5 [(bytesOf [100,101,108,101,116,101,32]),s.name,(bytesOf [91]),e0,(bytesOf [93,59])] (by omega) (Nat.le_of_ble_eq_true rfl) (by show _+2*_+((bytesOf [100,101,108,101,116,101,32]).size+(s.name.size+((bytesOf [91]).size+(e0.size+((bytesOf [93,59]).size+(0))))))+1≤_;simp only[ByteArray.size_append,bytes_size,lc1,ln0];omega)) ?_
 rintro _ _ ⟨Aw,qw,Tw,rfl,rfl,hw⟩
 refine⟨ocs (oca 5 rfl) (ocs (oca 2 rfl) (ocn _)),?_⟩
 replace hw:Tw.length=T0.length+2*ind+((bytesOf [100,101,108,101,116,101,32]).size+(s.name.size+((bytesOf [91]).size+(e0.size+((bytesOf [93,59]).size+(0))))))+1:=hw
 simp only[ByteArray.size_append,bytes_size,lc1,ln0]at hw
 refine To.z 2 ?_
 refine To.del6 (To.del5 (To.del4 (To.del3 (To.del2 (To.end0 (.inr rfl) Tryz.results237 ?_)))))
 exact⟨_,_,_,rfl,rfl,by omega,by omega⟩
 refine To.z 6 ?_
 refine To.cp rfl (fun k60=>?_) (fun k60=>?_)
 refine To.s ?_
 have hle:1≤s.exprs.length:=frm_least hf.least (n:=4) (by omega)
 obtain⟨e0,he0⟩:∃z0,D[0]?=some z0:=⟨D[0]'(by omega),gge _⟩
 have hz0:=hDz e0 (mog he0)
 refine To.z 5 ?_
 refine To.mk rfl rfl rfl (Mk.sN (us:=[.string (bytesOf [105,102,32]), .string e0, .string (bytesOf [32,123])]) rfl s54 rfl rfl rfl rfl rfl rfl) ?_
 rintro _ _ ⟨b66,rfl,rfl⟩
 refine To.cl [1,1,0] rfl rfl rfl (Ent.fn rfl rfl ca107) rfl (line_fn ind A0 q0 T0 (some ⟨b66,0,none⟩) 3 [(bytesOf [105,102,32]),e0,(bytesOf [32,123])] (by omega) (Nat.le_of_ble_eq_true rfl) (by show _+2*_+((bytesOf [105,102,32]).size+(e0.size+((bytesOf [32,123]).size+(0))))+1≤_;simp only[ByteArray.size_append,bytes_size,lc1,ln0];omega)) ?_
 rintro _ _ ⟨Aw,qw,Tw,rfl,rfl,hw⟩
 replace hw:Tw.length=T0.length+2*ind+((bytesOf [105,102,32]).size+(e0.size+((bytesOf [32,123]).size+(0))))+1:=hw
 simp only[ByteArray.size_append,bytes_size,lc1,ln0]at hw
 refine To.z 3 ?_
 refine To.part 6 rfl (lsG encX encT s.At s.thn) (lsG_lax _ _ _ _) (St.thn_kids s) ?_
 refine To.z 4 ?_
 refine To.cl [1,1,6,6,0] rfl rfl rfl (Ent.fn rfl rfl ca210) rfl (ihT ind Aw qw Tw htl hft (by omega) (by omega) (by omega)) ?_
 rintro _ _ ⟨Aw_2,qw_2,Tw_2,rfl,rfl,hw_2⟩
 refine To.z 11 ?_
 refine To.cp rfl (fun k75=>?_) (fun k75=>?_)
 refine To.z 3 ?_
 refine To.mk rfl rfl rfl (Mk.sN (us:=[.string (bytesOf [125,32,101,108,115,101,32,123])]) rfl s54 rfl rfl rfl rfl rfl rfl) ?_
 rintro _ _ ⟨b77,rfl,rfl⟩
 refine To.cl [1,1,0] rfl rfl rfl (Ent.fn rfl rfl ca107) rfl (line_fn ind Aw_2 qw_2 Tw_2 (some ⟨b77,0,none⟩) 1 [(bytesOf [125,32,101,108,115,101,32,123])] (by omega) (Nat.le_of_ble_eq_true rfl) (by show _+2*_+((bytesOf [125,32,101,108,115,101,32,123]).size+(0))+1≤_;simp only[ByteArray.size_append,bytes_size,lc1,ln0];omega)) ?_
 rintro _ _ ⟨Aw_3,qw_3,Tw_3,rfl,rfl,hw_3⟩
 replace hw_3:Tw_3.length=Tw_2.length+2*ind+((bytesOf [125,32,101,108,115,101,32,123]).size+(0))+1:=hw_3
 simp only[ByteArray.size_append,bytes_size,lc1,ln0]at hw_3
 refine To.n (To.t (To.part 8 rfl (lsG encX encT s.Ae s.els) (lsG_lax _ _ _ _) (St.els_kids s) ?_))
 refine To.z 4 ?_
 refine To.cl [1,1,1,1,0] rfl rfl rfl (Ent.fn rfl rfl ca210) rfl (ihE ind Aw_3 qw_3 Tw_3 hnl hfe (by omega) (by omega) (by omega)) ?_
 rintro _ _ ⟨Aw_4,qw_4,Tw_4,rfl,rfl,hw_4⟩
 refine To.z 4 ?_
 refine To.mk rfl rfl rfl (Mk.sN (us:=[.string (bytesOf [125])]) rfl s54 rfl rfl rfl rfl rfl rfl) ?_
 rintro _ _ ⟨b84,rfl,rfl⟩
 refine To.cl [1,1,0] rfl rfl rfl (Ent.fn rfl rfl ca107) rfl (line_fn ind Aw_4 qw_4 Tw_4 (some ⟨b84,0,none⟩) 1 [(bytesOf [125])] (by omega) (Nat.le_of_ble_eq_true rfl) (by show _+2*_+((bytesOf [125]).size+(0))+1≤_;simp only[ByteArray.size_append,bytes_size,lc1,ln0];omega)) ?_
 rintro _ _ ⟨Aw_5,qw_5,Tw_5,rfl,rfl,hw_5⟩
 replace hw_5:Tw_5.length=Tw_4.length+2*ind+((bytesOf [125]).size+(0))+1:=hw_5
 simp only[ByteArray.size_append,bytes_size,lc1,ln0]at hw_5
 refine To.n (To.bn (To.del8 (To.del7 (To.del6 (To.del5 (To.del4 (To.end0 (.inr rfl) Tryz.results237 ?_)))))))
 exact⟨_,_,_,rfl,rfl,by omega,by omega⟩
 refine To.z 4 ?_
 refine To.mk rfl rfl rfl (Mk.sN (us:=[.string (bytesOf [125])]) rfl s54 rfl rfl rfl rfl rfl rfl) ?_
 rintro _ _ ⟨b84,rfl,rfl⟩
 refine To.cl [1,1,0] rfl rfl rfl (Ent.fn rfl rfl ca107) rfl (line_fn ind Aw_2 qw_2 Tw_2 (some ⟨b84,0,none⟩) 1 [(bytesOf [125])] (by omega) (Nat.le_of_ble_eq_true rfl) (by show _+2*_+((bytesOf [125]).size+(0))+1≤_;simp only[ByteArray.size_append,bytes_size,lc1,ln0];omega)) ?_
 rintro _ _ ⟨Aw_3,qw_3,Tw_3,rfl,rfl,hw_3⟩
 replace hw_3:Tw_3.length=Tw_2.length+2*ind+((bytesOf [125]).size+(0))+1:=hw_3
 simp only[ByteArray.size_append,bytes_size,lc1,ln0]at hw_3
 refine To.n (To.bn (To.del8 (To.del7 (To.del6 (To.del5 (To.del4 (To.end0 (.inr rfl) Tryz.results237 ?_)))))))
 exact⟨_,_,_,rfl,rfl,by omega,by omega⟩
 refine To.z 6 ?_
 refine To.cp rfl (fun k86=>?_) (fun k86=>?_)
 refine To.s ?_
 have hle:1≤s.exprs.length:=frm_least hf.least (n:=5) (by omega)
 obtain⟨e0,he0⟩:∃z0,D[0]?=some z0:=⟨D[0]'(by omega),gge _⟩
 have hz0:=hDz e0 (mog he0)
 refine To.z 5 ?_
 refine To.mk rfl rfl rfl (Mk.sN (us:=[.string (bytesOf [119,104,105,108,101,32]), .string e0, .string (bytesOf [32,123])]) rfl s54 rfl rfl rfl rfl rfl rfl) ?_
 rintro _ _ ⟨b92,rfl,rfl⟩
 refine To.cl [1,1,0] rfl rfl rfl (Ent.fn rfl rfl ca107) rfl (line_fn ind A0 q0 T0 (some ⟨b92,0,none⟩) 3 [(bytesOf [119,104,105,108,101,32]),e0,(bytesOf [32,123])] (by omega) (Nat.le_of_ble_eq_true rfl) (by show _+2*_+((bytesOf [119,104,105,108,101,32]).size+(e0.size+((bytesOf [32,123]).size+(0))))+1≤_;simp only[ByteArray.size_append,bytes_size,lc1,ln0];omega)) ?_
 rintro _ _ ⟨Aw,qw,Tw,rfl,rfl,hw⟩
 replace hw:Tw.length=T0.length+2*ind+((bytesOf [119,104,105,108,101,32]).size+(e0.size+((bytesOf [32,123]).size+(0))))+1:=hw
 simp only[ByteArray.size_append,bytes_size,lc1,ln0]at hw
 refine To.z 3 ?_
 refine To.part 6 rfl (lsG encX encT s.At s.thn) (lsG_lax _ _ _ _) (St.thn_kids s) ?_
 refine To.z 4 ?_
 refine To.cl [1,1,6,6,0] rfl rfl rfl (Ent.fn rfl rfl ca210) rfl (ihT ind Aw qw Tw htl hft (by omega) (by omega) (by omega)) ?_
 rintro _ _ ⟨Aw_2,qw_2,Tw_2,rfl,rfl,hw_2⟩
 refine To.z 4 ?_
 refine To.mk rfl rfl rfl (Mk.sN (us:=[.string (bytesOf [125])]) rfl s54 rfl rfl rfl rfl rfl rfl) ?_
 rintro _ _ ⟨b99,rfl,rfl⟩
 refine To.cl [1,1,0] rfl rfl rfl (Ent.fn rfl rfl ca107) rfl (line_fn ind Aw_2 qw_2 Tw_2 (some ⟨b99,0,none⟩) 1 [(bytesOf [125])] (by omega) (Nat.le_of_ble_eq_true rfl) (by show _+2*_+((bytesOf [125]).size+(0))+1≤_;simp only[ByteArray.size_append,bytes_size,lc1,ln0];omega)) ?_
 rintro _ _ ⟨Aw_3,qw_3,Tw_3,rfl,rfl,hw_3⟩
 replace hw_3:Tw_3.length=Tw_2.length+2*ind+((bytesOf [125]).size+(0))+1:=hw_3
 simp only[ByteArray.size_append,bytes_size,lc1,ln0]at hw_3
 refine To.n (To.bn (To.del8 (To.del7 (To.del6 (To.del5 (To.del4 (To.end0 (.inr rfl) Tryz.results237 ?_)))))))
 exact⟨_,_,_,rfl,rfl,by omega,by omega⟩
 refine To.z 6 ?_
 refine To.cp rfl (fun k101=>?_) (fun k101=>?_)
 have hzD:=lenZ_n hDz
 refine To.flow [box b3 [.int .u8 ((s.kind:Nat):Int), .string s.name, .string s.hand, .slice s.A s.exprs.length s.q, .slice s.At s.thn.length s.qt, .slice s.Ae s.els.length s.qe] 212,rows encZ 9 1 (some ⟨b10,0,none⟩) s.exprs.length D] [⟨0,[],0⟩,⟨1,[],0⟩,⟨2,[],0⟩,⟨3,[],0⟩,⟨4,[],0⟩,⟨5,[],0⟩,⟨6,[],4⟩,⟨7,[6],2⟩,⟨8,[6,7],5⟩] mixed (by kernel_rfl) (ocs (oca 5 rfl) (ocs (oca 2 rfl) (ocn _))) ?_
 refine To.z 6 ?_
 refine Fw.callM rfl rfl rfl rfl rfl (Ent.fn rfl rfl ca209) (join_fn (some ⟨b10,0,none⟩) s.exprs.length D (by omega) (by omega) (by omega)) rfl (ocs (oks_row 2 rfl) (ocn _)) ?_
 rintro _ _ ⟨sj,rfl,rfl,hsj⟩
 refine⟨rfl,?_⟩
 refine Fw.mk rfl rfl rfl rfl rfl (Mk.sN (us:=[.string (bytesOf [115,101,110,100,32]), .string s.name, .string (bytesOf [46]), .string s.hand, .string (bytesOf [40]), .string sj, .string (bytesOf [41,59])]) rfl s54 rfl rfl rfl rfl rfl rfl) ?_
 rintro _ _ ⟨b110,rfl,rfl⟩
 refine Fw.call [1,1,0] rfl rfl rfl rfl (Ent.fn rfl rfl ca107) rfl (line_fn ind A0 q0 T0 (some ⟨b110,0,none⟩) 7 [(bytesOf [115,101,110,100,32]),s.name,(bytesOf [46]),s.hand,(bytesOf [40]),sj,(bytesOf [41,59])] (by omega) (Nat.le_of_ble_eq_true rfl) (by show _+2*_+((bytesOf [115,101,110,100,32]).size+(s.name.size+((bytesOf [46]).size+(s.hand.size+((bytesOf [40]).size+(sj.size+((bytesOf [41,59]).size+(0))))))))+1≤_;simp only[ByteArray.size_append,bytes_size,lc1,ln0];omega)) ?_
 rintro _ _ ⟨Aw,qw,Tw,rfl,rfl,hw⟩
 refine⟨ocs (oca 5 rfl) (ocs (oca 2 rfl) (ocn _)),?_⟩
 replace hw:Tw.length=T0.length+2*ind+((bytesOf [115,101,110,100,32]).size+(s.name.size+((bytesOf [46]).size+(s.hand.size+((bytesOf [40]).size+(sj.size+((bytesOf [41,59]).size+(0))))))))+1:=hw
 simp only[ByteArray.size_append,bytes_size,lc1,ln0]at hw
 refine To.z 2 ?_
 refine To.del6 (To.del5 (To.del4 (To.del3 (To.del2 (To.end0 (.inr rfl) Tryz.results237 ?_)))))
 exact⟨_,_,_,rfl,rfl,by omega,by omega⟩
 refine To.z 6 ?_
 refine To.cp rfl (fun k112=>?_) (fun k112=>?_)
 have hle:1≤s.exprs.length:=frm_least hf.least (n:=7) (by omega)
 obtain⟨e0,he0⟩:∃z0,D[0]?=some z0:=⟨D[0]'(by omega),gge _⟩
 have hz0:=hDz e0 (mog he0)
 have hzD:=lenZ_n (l:=D.drop 1) (fun x hx=>hDz x (List.mem_of_mem_drop hx))
 have hdl:(D.drop 1).length=D.length-1:=List.length_drop
 refine To.flow [box b3 [.int .u8 ((s.kind:Nat):Int), .string s.name, .string s.hand, .slice s.A s.exprs.length s.q, .slice s.At s.thn.length s.qt, .slice s.Ae s.els.length s.qe] 212,rows encZ 9 1 (some ⟨b10,0,none⟩) s.exprs.length D] [⟨0,[],0⟩,⟨1,[],0⟩,⟨2,[],0⟩,⟨3,[],0⟩,⟨4,[],0⟩,⟨5,[],0⟩,⟨6,[],0⟩,⟨7,[],0⟩,⟨8,[],4⟩,⟨9,[8],2⟩,⟨10,[8,9],5⟩] mixed (by kernel_rfl) (ocs (oca 5 rfl) (ocs (oca 2 rfl) (ocn _))) ?_
 refine To.z 7 ?_
 refine Fw.f rfl (Rd.as (v':= .slice (slAt (some ⟨b10,0,none⟩) s.exprs.length 1 1) (D.drop 1).length (s.exprs.length-1)) (congrArg (fun z=>Value.slice (slAt (some ⟨b10,0,none⟩) s.exprs.length 1 1) z (s.exprs.length-1)) List.length_drop.symm) (Rd.sliceLo (lo:=1) rfl s54 rfl rfl (by omega))) ?_
 refine Fw.callM rfl rfl rfl rfl rfl (Ent.fn rfl rfl ca209) (join_fn (slAt (some ⟨b10,0,none⟩) s.exprs.length 1 1) (s.exprs.length-1) (D.drop 1) (by omega) (by omega) (by omega)) rfl (ocs (oks_dropRow encZ_ok 2 rfl (by omega) (by omega)) (ocn _)) ?_
 rintro _ _ ⟨sj,rfl,rfl,hsj⟩
 refine⟨rfl,?_⟩
 refine Fw.mk rfl rfl rfl rfl rfl (Mk.sN (us:=[.string (bytesOf [97,102,116,101,114,32]), .string e0, .string (bytesOf [32,100,111,32]), .string s.hand, .string (bytesOf [40]), .string sj, .string (bytesOf [41,59])]) rfl s54 rfl rfl rfl rfl rfl rfl) ?_
 rintro _ _ ⟨b123,rfl,rfl⟩
 refine Fw.call [1,1,0] rfl rfl rfl rfl (Ent.fn rfl rfl ca107) rfl (line_fn ind A0 q0 T0 (some ⟨b123,0,none⟩) 7 [(bytesOf [97,102,116,101,114,32]),e0,(bytesOf [32,100,111,32]),s.hand,(bytesOf [40]),sj,(bytesOf [41,59])] (by omega) (Nat.le_of_ble_eq_true rfl) (by show _+2*_+((bytesOf [97,102,116,101,114,32]).size+(e0.size+((bytesOf [32,100,111,32]).size+(s.hand.size+((bytesOf [40]).size+(sj.size+((bytesOf [41,59]).size+(0))))))))+1≤_;simp only[ByteArray.size_append,bytes_size,lc1,ln0];omega)) ?_
 rintro _ _ ⟨Aw,qw,Tw,rfl,rfl,hw⟩
 refine⟨ocs (oca 5 rfl) (ocs (oca 2 rfl) (ocn _)),?_⟩
 replace hw:Tw.length=T0.length+2*ind+((bytesOf [97,102,116,101,114,32]).size+(e0.size+((bytesOf [32,100,111,32]).size+(s.hand.size+((bytesOf [40]).size+(sj.size+((bytesOf [41,59]).size+(0))))))))+1:=hw
 simp only[ByteArray.size_append,bytes_size,lc1,ln0]at hw
 refine To.z 2 ?_
 refine To.del6 (To.del5 (To.del4 (To.del3 (To.del2 (To.end0 (.inr rfl) Tryz.results237 ?_)))))
 exact⟨_,_,_,rfl,rfl,by omega,by omega⟩
 refine To.z 6 ?_
 refine To.cp rfl (fun k125=>?_) (fun k125=>?_)
 have hle:2≤s.exprs.length:=frm_least hf.least (n:=8) (by omega)
 obtain⟨e0,he0⟩:∃z0,D[0]?=some z0:=⟨D[0]'(by omega),gge _⟩
 have hz0:=hDz e0 (mog he0)
 obtain⟨e1,he1⟩:∃z0,D[1]?=some z0:=⟨D[1]'(by omega),gge _⟩
 have hz1:=hDz e1 (mog he1)
 refine To.part 6 rfl (lsG encX encT s.Ae s.els) (lsG_lax _ _ _ _) (St.els_kids s) (To.flow [box b3 [.int .u8 ((s.kind:Nat):Int), .string s.name, .string s.hand, .slice s.A s.exprs.length s.q, .slice s.At s.thn.length s.qt, .slice s.Ae s.els.length s.qe] 212,rows encZ 9 1 (some ⟨b10,0,none⟩) s.exprs.length D] [⟨0,[],0⟩,⟨1,[],0⟩,⟨2,[],0⟩,⟨3,[],0⟩,⟨4,[],0⟩,⟨5,[],0⟩,⟨6,[],0⟩,⟨7,[],0⟩,⟨8,[],0⟩,⟨9,[],0⟩,⟨10,[],0⟩,⟨11,[],0⟩,⟨12,[],5⟩] mixed (by kernel_rfl) (ocs (oca 6 rfl) (ocs (oca 3 rfl) (ocn _))) ?_)
 refine To.z 4 ?_
 refine Fw.f rfl (Rd.addZ (a:=(bytesOf [115,116,111,114,101,32])) (b:=e0) rfl rfl rfl (by first|omega|(simp only[ByteArray.size_append,bytes_size,lc1,ln0];omega))) ?_
 refine Fw.f rfl (Rd.addZ (a:=((bytesOf [115,116,111,114,101,32])++e0)) (b:=(bytesOf [32,61,32])) rfl rfl rfl (by first|omega|(simp only[ByteArray.size_append,bytes_size,lc1,ln0];omega))) ?_
 refine To.z 3 ?_
 refine Fw.f rfl (Rd.addZ (a:=(((bytesOf [115,116,111,114,101,32])++e0)++(bytesOf [32,61,32]))) (b:=e1) rfl rfl rfl (by first|omega|(simp only[ByteArray.size_append,bytes_size,lc1,ln0];omega))) ?_
 refine To.z 2 ?_
 refine Fw.call [1,1,6,6,0] rfl rfl rfl rfl (Ent.fn rfl rfl ca247) rfl (disk_fn wb s.Ae s.qe s.els ihE ind A0 q0 T0 hnl hfe (by omega) (by omega) ((((bytesOf [115,116,111,114,101,32])++e0)++(bytesOf [32,61,32]))++e1) (by first|omega|(simp only[ByteArray.size_append,bytes_size,lc1,ln0];omega)) (by omega)) ?_
 rintro _ _ ⟨Aw,qw,Tw,rfl,rfl,hw⟩
 refine⟨ocs (oca 7 rfl) (ocs (oca 4 rfl) (ocn _)),?_⟩
 refine To.z 2 ?_
 refine To.del8 (To.del7 (To.del6 (To.del5 (To.del4 (To.end0 (.inr rfl) Tryz.results237 ?_)))))
 exact⟨_,_,_,rfl,rfl,by omega,by omega⟩
 refine To.z 6 ?_
 refine To.cp rfl (fun k140=>?_) (fun k140=>?_)
 have hle:1≤s.exprs.length:=frm_least hf.least (n:=9) (by omega)
 obtain⟨e0,he0⟩:∃z0,D[0]?=some z0:=⟨D[0]'(by omega),gge _⟩
 have hz0:=hDz e0 (mog he0)
 refine To.part 6 rfl (lsG encX encT s.Ae s.els) (lsG_lax _ _ _ _) (St.els_kids s) (To.flow [box b3 [.int .u8 ((s.kind:Nat):Int), .string s.name, .string s.hand, .slice s.A s.exprs.length s.q, .slice s.At s.thn.length s.qt, .slice s.Ae s.els.length s.qe] 212,rows encZ 9 1 (some ⟨b10,0,none⟩) s.exprs.length D] [⟨0,[],0⟩,⟨1,[],0⟩,⟨2,[],0⟩,⟨3,[],0⟩,⟨4,[],0⟩,⟨5,[],0⟩,⟨6,[],0⟩,⟨7,[],0⟩,⟨8,[],0⟩,⟨9,[],0⟩,⟨10,[],0⟩,⟨11,[],5⟩] mixed (by kernel_rfl) (ocs (oca 6 rfl) (ocs (oca 3 rfl) (ocn _))) ?_)
 refine To.z 3 ?_
 refine Fw.f rfl (Rd.addZ (a:=(bytesOf [102,101,116,99,104,32])) (b:=s.name) rfl rfl rfl (by first|omega|(simp only[ByteArray.size_append,bytes_size,lc1,ln0];omega))) ?_
 refine Fw.f rfl (Rd.addZ (a:=((bytesOf [102,101,116,99,104,32])++s.name)) (b:=(bytesOf [32,61,32])) rfl rfl rfl (by first|omega|(simp only[ByteArray.size_append,bytes_size,lc1,ln0];omega))) ?_
 refine To.z 3 ?_
 refine Fw.f rfl (Rd.addZ (a:=(((bytesOf [102,101,116,99,104,32])++s.name)++(bytesOf [32,61,32]))) (b:=e0) rfl rfl rfl (by first|omega|(simp only[ByteArray.size_append,bytes_size,lc1,ln0];omega))) ?_
 refine To.z 2 ?_
 refine Fw.call [1,1,6,6,0] rfl rfl rfl rfl (Ent.fn rfl rfl ca247) rfl (disk_fn wb s.Ae s.qe s.els ihE ind A0 q0 T0 hnl hfe (by omega) (by omega) ((((bytesOf [102,101,116,99,104,32])++s.name)++(bytesOf [32,61,32]))++e0) (by first|omega|(simp only[ByteArray.size_append,bytes_size,lc1,ln0];omega)) (by omega)) ?_
 rintro _ _ ⟨Aw,qw,Tw,rfl,rfl,hw⟩
 refine⟨ocs (oca 7 rfl) (ocs (oca 4 rfl) (ocn _)),?_⟩
 refine To.z 2 ?_
 refine To.del8 (To.del7 (To.del6 (To.del5 (To.del4 (To.end0 (.inr rfl) Tryz.results237 ?_)))))
 exact⟨_,_,_,rfl,rfl,by omega,by omega⟩
 refine To.z 6 ?_
 refine To.cp rfl (fun k154=>?_) (fun k154=>?_)
 refine To.z 2 ?_
 refine To.mk rfl rfl rfl (Mk.sN (us:=[.string (bytesOf [115,116,111,112,59])]) rfl s54 rfl rfl rfl rfl rfl rfl) ?_
 rintro _ _ ⟨b157,rfl,rfl⟩
 refine To.cl [1,1,0] rfl rfl rfl (Ent.fn rfl rfl ca107) rfl (line_fn ind A0 q0 T0 (some ⟨b157,0,none⟩) 1 [(bytesOf [115,116,111,112,59])] (by omega) (Nat.le_of_ble_eq_true rfl) (by show _+2*_+((bytesOf [115,116,111,112,59]).size+(0))+1≤_;simp only[ByteArray.size_append,bytes_size,lc1,ln0];omega)) ?_
 rintro _ _ ⟨Aw,qw,Tw,rfl,rfl,hw⟩
 replace hw:Tw.length=T0.length+2*ind+((bytesOf [115,116,111,112,59]).size+(0))+1:=hw
 simp only[ByteArray.size_append,bytes_size,lc1,ln0]at hw
 refine To.n (To.bn (To.del6 (To.del5 (To.del4 (To.del3 (To.del2 (To.end0 (.inr rfl) Tryz.results237 ?_)))))))
 exact⟨_,_,_,rfl,rfl,by omega,by omega⟩
 exact absurd hf.k2 (by have:=hf.k1;omega)
theorem wstmt_fn(wb:Nat):∀s:St,∀(ind:Nat) (A0:Option Addr) (q0:Nat) (T0:List UInt8),s.pure.low→s.pure.fine→ind+PS.sdep s.pure≤30→T0.length+100000*PS.cnt s.pure≤140737488355328→Does Tryz.prog 237 [pv wb, .agg (encT s).toArray] [box wb [pv wb, .slice A0 T0.length q0,nv ind] 230,rows encBy 5 1 A0 q0 T0,glc,p10c,all (s.kids encX encT)] (fun v Γ'=>∃(A':Option Addr) (q':Nat) (T':List UInt8),v= .tuple #[]∧Γ'=[box wb [pv wb, .slice A' T'.length q',nv ind] 230,rows encBy 5 1 A' q' T',glc,p10c]∧T0.length<T'.length∧T'.length≤T0.length+100000*PS.cnt s.pure)
 |s,i,A,q,T,h1,h2,h3,h4=>wstmt_step wb s (fun i A q T a b c d e=>wbody_step wb s.At s.qt s.thn (fun y hy=>wstmt_fn wb y) i A q T a b c d e) (fun i A q T a b c d e=>wbody_step wb s.Ae s.qe s.els (fun y hy=>wstmt_fn wb y) i A q T a b c d e) i A q T h1 h2 h3 h4
termination_by s=>SizeOf.sizeOf s
decreasing_by
 all_goals
  have h:=List.sizeOf_lt_of_mem hy
  have:SizeOf.sizeOf s.thn<SizeOf.sizeOf s∧SizeOf.sizeOf s.els<SizeOf.sizeOf s:=by cases s;simp only[St.mk.sizeOf_spec];omega
  omega
theorem wbody_fn(wb:Nat)(Ab:Option Addr)(qb:Nat)(bs:List St):∀(ind:Nat) (A0:Option Addr) (q0:Nat) (T0:List UInt8),PS.lowL (St.pL bs)→PS.fineL (St.pL bs)→bs.length≤12→ind+PS.sdepL (St.pL bs)≤29→T0.length+100000*PS.cntL (St.pL bs)≤140737488355328→Does Tryz.prog 210 [pv wb, .slice Ab bs.length qb] [box wb [pv wb, .slice A0 T0.length q0,nv ind] 230,rows encBy 5 1 A0 q0 T0,glc,p10c,all (lsG encX encT Ab bs)] (fun v Γ'=>∃(A':Option Addr) (q':Nat) (T':List UInt8),v= .tuple #[]∧Γ'=[box wb [pv wb, .slice A' T'.length q',nv ind] 230,rows encBy 5 1 A' q' T',glc,p10c]∧T0.length≤T'.length∧T'.length≤T0.length+100000*PS.cntL (St.pL bs)):=fun i A q T a b c d e=>wbody_step wb Ab qb bs (fun y _=>wstmt_fn wb y) i A q T a b c d e
end Go.Proofs.YtihgdnjkofpgiaaGreatDoor
