/- Merged out of P4, P5 by merge.py. Own text. -/
import Derived.Test.YtihgdnjkofpgiaaGreatDoorP3
set_option linter.unusedVariables false
set_option linter.unusedSimpArgs false
namespace Go.Proofs.YtihgdnjkofpgiaaGreatDoor
open Go.RowKit Go.Flow Go.Mem Go.Sep Go.In
theorem fboolx_fn(b:Bool):Does Tryz.prog 108 [.bool b] [] (fun v Γ'=>∃s:ByteArray,v= .string s∧Γ'=[]∧s.size≤5):=(fbool_fn b).bare.mono fun v Γ' h=>⟨_,h.1,h.2,fbool_sz b⟩
theorem itoax_fn(n:Int)(h0:-9223372036854775808≤n)(h1:n≤9223372036854775807):Does Tryz.prog 54 [.int .i64 n] [p10c] (fun v Γ'=>∃s:ByteArray,v= .string s∧Γ'=[]∧s.size≤20):=(itoa_fn n h0 h1).bare.mono fun v Γ' h=>⟨_,h.1,h.2,by rw[BA_size];exact itoa_len h0 h1⟩
theorem fintx_fn(n:Int)(h0:-9223372036854775808≤n)(h1:n≤9223372036854775807):Does Tryz.prog 57 [.int .i64 n, .int .i64 10] [p10c] (fun v Γ'=>∃s:ByteArray,v= .string s∧Γ'=[]∧s.size≤20):=(fint_fn n h0 h1).bare.mono fun v Γ' h=>⟨_,h.1,h.2,by rw[BA_size];exact itoa_len h0 h1⟩
set_option maxHeartbeats 4000000 in
set_option maxRecDepth 100000 in
theorem wver_fn(wb:Nat)(v:Vs)(hvl:v.l.length≤3)(hv:∀h∈v.l,h.Good)(hcap:v.Cap)(ind:Nat)(A0:Option Addr)(q0:Nat)(T0:List UInt8)(hi:ind≤10)(hl:T0.length+4500000≤140737488355328):
    Does Tryz.prog 165 [pv wb, .agg (encVs v).toArray] [box wb [pv wb, .slice A0 T0.length q0,nv ind] 230,rows encBy 5 1 A0 q0 T0,glc,p10c,all (v.kids eX)] (fun v Γ'=>∃(A':Option Addr) (q':Nat) (T':List UInt8),v= .tuple #[]∧Γ'=[box wb [pv wb, .slice A' T'.length q',nv ind] 230,rows encBy 5 1 A' q' T',glc,p10c]∧T0.length≤T'.length∧T'.length≤T0.length+4500000):=by
 refine Does.enter Tryz.func165 rfl Tryz.ntmps165 rfl (fun w0=>?_)
 refine To.s (To.g ?_)
 refine To.bo fun b3=>?_
 refine To.z 3 ?_
 refine To.one 5 rfl (ros encH v.A v.l) rfl (Vs.l_k) ?_
 refine To.z 8 ?_
 refine To.sub [(0,pv wb),(7, .slice v.A v.l.length v.q),(8,nv v.l.length),(9,nv 0)] ⟨rfl,rfl,rfl,rfl,trivial⟩ ?_
 refine To.del1 (To.up5 (To.up1 (To.up3 (To.up3 ?_))))
 refine To.loop (fun mz ρ Γ=>∃(Aj:Option Addr) (qj:Nat) (Tj:List UInt8) (i:Nat),ρ=[(0,pv wb),(7, .slice v.A v.l.length v.q),(8,nv v.l.length),(9,nv i)]∧Γ=[box wb [pv wb, .slice Aj Tj.length qj,nv ind] 230,rows encBy 5 1 Aj qj Tj,ros encH v.A v.l,all (v.kids eX),glc,p10c]∧mz=v.l.length-i∧(i≤v.l.length)∧(T0.length≤Tj.length)∧(Tj.length≤T0.length+1500000*i)) (v.l.length-0) ⟨A0,q0,T0,0,rfl,rfl,rfl,(Nat.zero_le _),(Nat.le_refl _),(Nat.le_add_right _ _)⟩ ?_
 rintro mz _ _ ⟨Aj,qj,Tj,i,rfl,rfl,rfl,hi2,h1,h2⟩
 refine To.z 6 ?_
 refine To.cp rfl (fun c10=>?_) (fun c10=>?_)
 obtain⟨h,hh⟩:∃z0,v.l[i]?=some z0:=⟨v.l[i]'(by omega),gge _⟩
 have hg:=hv h (mog hh)
 have hcq:=hcap.2 h (mog hh)
 have hgp:=hg.ps
 have hgc:=hg.cnt
 have hzp:=lenZ_n (n:=6) fun p hp=>isNm_size (hg.psn p hp)
 have hnm:=isNm_size hg.nm
 refine To.z 8 ?_
 refine To.al fun b5=>?_
 refine To.z 4 ?_
 refine To.part 4 rfl (h.kids eX) (Hd.lax eX h) (Vs.hd_k hh) (To.one 0 rfl (ros encZ h.Ap h.ps) rfl (Hd.ps_k) (To.flow [box b5 [.string h.name, .slice h.Ap h.ps.length h.qp, .slice h.Ab h.body.length h.qb] 120] [⟨0,[],0⟩,⟨1,[],0⟩,⟨2,[],0⟩,⟨3,[],0⟩,⟨4,[],0⟩,⟨5,[],4⟩,⟨6,[5],2⟩,⟨7,[5,6],5⟩] mixed (by kernel_rfl) (ocs (oca 2 rfl) (ocn _)) ?_))
 refine To.z 5 ?_
 refine Fw.callM rfl rfl rfl rfl rfl (Ent.fn rfl rfl ca209) (join_fn h.Ap h.qp h.ps (by omega) hcq (by omega)) rfl (ocs (oca 0 rfl) (ocn _)) ?_
 rintro _ _ ⟨sj,rfl,rfl,hsj⟩
 refine⟨rfl,?_⟩
 refine Fw.mk rfl rfl rfl rfl rfl (Mk.sN (us:=[.string (bytesOf [111,110,32]), .string h.name, .string (bytesOf [40]), .string sj, .string (bytesOf [41,32,123])]) rfl s54 rfl rfl rfl rfl rfl rfl) ?_
 rintro _ _ ⟨b19,rfl,rfl⟩
 refine Fw.call [4,4,0] rfl rfl rfl rfl (Ent.fn rfl rfl ca107) rfl (line_fn ind Aj qj Tj (some ⟨b19,0,none⟩) 5 [(bytesOf [111,110,32]),h.name,(bytesOf [40]),sj,(bytesOf [41,32,123])] (by omega) (Nat.le_of_ble_eq_true rfl) (by show _+2*_+((bytesOf [111,110,32]).size+(h.name.size+((bytesOf [40]).size+(sj.size+((bytesOf [41,32,123]).size+(0))))))+1≤_;simp only[ByteArray.size_append,bytes_size,lc1,ln0];omega)) ?_
 rintro _ _ ⟨Aw,qw,Tw,rfl,rfl,hw⟩
 refine⟨ocs (oca 4 rfl) (ocn _),?_⟩
 replace hw:Tw.length=Tj.length+2*ind+((bytesOf [111,110,32]).size+(h.name.size+((bytesOf [40]).size+(sj.size+((bytesOf [41,32,123]).size+(0))))))+1:=hw
 simp only[ByteArray.size_append,bytes_size,lc1,ln0]at hw
 refine To.z 3 ?_
 refine To.part 3 rfl (lsG encX encT h.Ab h.body) (lsG_lax _ _ _ _) (Hd.body_k (k:=eX)) ?_
 refine To.z 4 ?_
 refine To.cl [1,1,6,6,0] rfl rfl rfl (Ent.fn rfl rfl ca210) rfl (wbody_fn wb h.Ab h.qb h.body ind Aw qw Tw hg.low hg.fine hg.len (by have:=hg.dep;omega) (by have:=hg.cnt;omega)) ?_
 rintro _ _ ⟨Aw_2,qw_2,Tw_2,rfl,rfl,hw_2⟩
 refine To.z 4 ?_
 refine To.mk rfl rfl rfl (Mk.sN (us:=[.string (bytesOf [125])]) rfl s54 rfl rfl rfl rfl rfl rfl) ?_
 rintro _ _ ⟨b26,rfl,rfl⟩
 refine To.cl [1,1,0] rfl rfl rfl (Ent.fn rfl rfl ca107) rfl (line_fn ind Aw_2 qw_2 Tw_2 (some ⟨b26,0,none⟩) 1 [(bytesOf [125])] (by omega) (Nat.le_of_ble_eq_true rfl) (by show _+2*_+((bytesOf [125]).size+(0))+1≤_;simp only[ByteArray.size_append,bytes_size,lc1,ln0];omega)) ?_
 rintro _ _ ⟨Aw_3,qw_3,Tw_3,rfl,rfl,hw_3⟩
 replace hw_3:Tw_3.length=Tw_2.length+2*ind+((bytesOf [125]).size+(0))+1:=hw_3
 simp only[ByteArray.size_append,bytes_size,lc1,ln0]at hw_3
 refine To.z 8 ?_
 refine To.sub [(0,pv wb),(7, .slice v.A v.l.length v.q),(8,nv v.l.length),(9,nv ((i+1)))] ⟨rfl,rfl,rfl,rfl,trivial⟩ ?_
 refine To.del6 (To.del5 (To.del4 (To.up5 (To.up5 (To.up3 (To.up3 ?_))))))
 refine To.ag (v.l.length-(i+1)) (by omega) ⟨Aw_3,qw_3,Tw_3,i+1,rfl,rfl,rfl,(by omega),(by omega),(by omega)⟩
 refine To.z 4 ?_
 refine To.del3 (To.del2 (To.end0 (.inr rfl) Tryz.results165 ?_))
 exact⟨_,_,_,rfl,rfl,h1,by omega⟩
set_option maxHeartbeats 4000000 in
set_option maxRecDepth 100000 in
theorem wcomp_fn(wb:Nat)(c:Cm)(hc:c.Good)(hcap:c.Cap)(ind:Nat)(A0:Option Addr)(q0:Nat)(T0:List UInt8)(hi:ind≤5)(hl:T0.length+20000000≤140737488355328):
    Does Tryz.prog 109 [pv wb, .agg (encC c).toArray] [box wb [pv wb, .slice A0 T0.length q0,nv ind] 230,rows encBy 5 1 A0 q0 T0,glc,p10c,all (c.kids eX)] (fun v Γ'=>∃(A':Option Addr) (q':Nat) (T':List UInt8),v= .tuple #[]∧Γ'=[box wb [pv wb, .slice A' T'.length q',nv ind] 230,rows encBy 5 1 A' q' T',glc,p10c]∧T0.length<T'.length∧T'.length≤T0.length+20000000):=by
 have hvs:=hc.vars
 have hv2:=hc.vers2
 have hcn:=isNm_size hc.nm
 refine Does.enter Tryz.func109 rfl Tryz.ntmps109 rfl (fun w0=>?_)
 refine To.s (To.g ?_)
 refine To.bo fun b3=>?_
 refine To.z 7 ?_
 refine To.mk rfl rfl rfl (Mk.sN (us:=[.string (bytesOf [99,111,109,112,111,110,101,110,116,32]), .string c.name, .string (bytesOf [32,123])]) rfl s54 rfl rfl rfl rfl rfl rfl) ?_
 rintro _ _ ⟨b11,rfl,rfl⟩
 refine To.cl [2,2,0] rfl rfl rfl (Ent.fn rfl rfl ca107) rfl (line_fn ind A0 q0 T0 (some ⟨b11,0,none⟩) 3 [(bytesOf [99,111,109,112,111,110,101,110,116,32]),c.name,(bytesOf [32,123])] (by omega) (Nat.le_of_ble_eq_true rfl) (by show _+2*_+((bytesOf [99,111,109,112,111,110,101,110,116,32]).size+(c.name.size+((bytesOf [32,123]).size+(0))))+1≤_;simp only[ByteArray.size_append,bytes_size,lc1,ln0];omega)) ?_
 rintro _ _ ⟨Aw,qw,Tw,rfl,rfl,hw⟩
 replace hw:Tw.length=T0.length+2*ind+((bytesOf [99,111,109,112,111,110,101,110,116,32]).size+(c.name.size+((bytesOf [32,123]).size+(0))))+1:=hw
 simp only[ByteArray.size_append,bytes_size,lc1,ln0]at hw
 refine To.z 16 ?_
 refine To.one 5 rfl (ros encVx c.Av c.vars) rfl (Cm.vars_k) ?_
 refine To.z 8 ?_
 refine To.sub [(0,pv wb),(3,pv b3),(21, .slice c.Av c.vars.length c.qv),(22,nv c.vars.length),(23,nv 0)] ⟨rfl,rfl,rfl,rfl,rfl,trivial⟩ ?_
 refine To.up6 (To.up1 (To.up4 (To.up4 (To.up4 ?_))))
 refine To.loop (fun mz ρ Γ=>∃(Aj:Option Addr) (qj:Nat) (Tj:List UInt8) (i:Nat),ρ=[(0,pv wb),(3,pv b3),(21, .slice c.Av c.vars.length c.qv),(22,nv c.vars.length),(23,nv i)]∧Γ=[box wb [pv wb, .slice Aj Tj.length qj,nv (ind+1)] 230,rows encBy 5 1 Aj qj Tj,box b3 [.string c.name, .slice c.Av c.vars.length c.qv, .slice c.An c.vers.length c.qn] 107,ros encVx c.Av c.vars,all (c.kids eX),glc,p10c]∧mz=c.vars.length-i∧(i≤c.vars.length)∧(T0.length<Tj.length)∧(Tj.length≤T0.length+200+200*i)) (c.vars.length-0) ⟨Aw,qw,Tw,0,rfl,rfl,rfl,(Nat.zero_le _),(by omega),(by omega)⟩ ?_
 rintro mz _ _ ⟨Aj,qj,Tj,i,rfl,rfl,rfl,hi2,h1,h2⟩
 refine To.z 6 ?_
 refine To.cp rfl (fun k24=>?_) (fun k24=>?_)
 obtain⟨y,hy⟩:∃z0,c.vars[i]?=some z0:=⟨c.vars[i]'(by omega),gge _⟩
 have hyo:=hc.var y (mog hy)
 have hyn:=isNm_size hyo.1
 have hyt:=hyo.2
 refine To.z 8 ?_
 refine To.al fun b5=>?_
 refine To.z 16 ?_
 refine To.cp rfl (fun k29=>?_) (fun k29=>?_)
 refine To.flow [box b5 [.string y.name, .int .u8 ((y.ty:Nat):Int), .int .i64 y.init] 92] [⟨0,[],0⟩,⟨1,[],0⟩,⟨2,[],0⟩,⟨3,[],0⟩,⟨4,[],0⟩,⟨5,[],4⟩,⟨6,[5],2⟩,⟨7,[5,6],5⟩] mixed (by kernel_rfl) (ocs (oca 0 rfl) (ocn _)) ?_
 refine To.z 5 ?_
 refine Fw.callM rfl rfl rfl rfl rfl (Ent.fn rfl rfl ca57) (fintx_fn y.init (by omega) (by omega)) rfl (ocs (oca 7 rfl) (ocn _)) ?_
 rintro _ _ ⟨sq,rfl,rfl,hsq⟩
 refine⟨rfl,?_⟩
 refine Fw.mk rfl rfl rfl rfl rfl (Mk.sN (us:=[.string (bytesOf [118,97,114,32]), .string y.name, .string (bytesOf [58,32,105,110,116,32,61,32]), .string sq, .string (bytesOf [59])]) rfl s54 rfl rfl rfl rfl rfl rfl) ?_
 rintro _ _ ⟨b37,rfl,rfl⟩
 refine Fw.call [2,2,0] rfl rfl rfl rfl (Ent.fn rfl rfl ca107) rfl (line_fn (ind+1) Aj qj Tj (some ⟨b37,0,none⟩) 5 [(bytesOf [118,97,114,32]),y.name,(bytesOf [58,32,105,110,116,32,61,32]),sq,(bytesOf [59])] (by omega) (Nat.le_of_ble_eq_true rfl) (by show _+2*_+((bytesOf [118,97,114,32]).size+(y.name.size+((bytesOf [58,32,105,110,116,32,61,32]).size+(sq.size+((bytesOf [59]).size+(0))))))+1≤_;simp only[ByteArray.size_append,bytes_size,lc1,ln0];omega)) ?_
 rintro _ _ ⟨Aw_2,qw_2,Tw_2,rfl,rfl,hw_2⟩
 refine⟨ocs (oca 2 rfl) (ocn _),?_⟩
 replace hw_2:Tw_2.length=Tj.length+2*(ind+1)+((bytesOf [118,97,114,32]).size+(y.name.size+((bytesOf [58,32,105,110,116,32,61,32]).size+(sq.size+((bytesOf [59]).size+(0))))))+1:=hw_2
 simp only[ByteArray.size_append,bytes_size,lc1,ln0]at hw_2
 refine To.z 9 ?_
 refine To.sub [(0,pv wb),(3,pv b3),(21, .slice c.Av c.vars.length c.qv),(22,nv c.vars.length),(23,nv ((i+1)))] ⟨rfl,rfl,rfl,rfl,rfl,trivial⟩ ?_
 refine To.del2 ?_
 refine To.ag (c.vars.length-(i+1)) (by omega) ⟨Aw_2,qw_2,Tw_2,i+1,rfl,rfl,rfl,(by omega),(by omega),(by omega)⟩
 refine To.z 6 ?_
 refine To.cp rfl (fun k39=>?_) (fun k39=>?_)
 refine To.flow [box b5 [.string y.name, .int .u8 ((y.ty:Nat):Int), .int .i64 y.init] 92] [⟨0,[],0⟩,⟨1,[],0⟩,⟨2,[],0⟩,⟨3,[],0⟩,⟨4,[],0⟩,⟨5,[],0⟩,⟨6,[],4⟩,⟨7,[6],2⟩,⟨8,[6,7],5⟩] mixed (by kernel_rfl) (ocs (oca 0 rfl) (ocn _)) ?_
 refine To.z 6 ?_
 refine Fw.callM rfl rfl rfl rfl rfl (Ent.fn rfl rfl ca108) (fboolx_fn (decide (y.init=1))) rfl (ocn _) ?_
 rintro _ _ ⟨sq,rfl,rfl,hsq⟩
 refine⟨rfl,?_⟩
 refine Fw.mk rfl rfl rfl rfl rfl (Mk.sN (us:=[.string (bytesOf [118,97,114,32]), .string y.name, .string (bytesOf [58,32,98,111,111,108,32,61,32]), .string sq, .string (bytesOf [59])]) rfl s54 rfl rfl rfl rfl rfl rfl) ?_
 rintro _ _ ⟨b48,rfl,rfl⟩
 refine Fw.call [2,2,0] rfl rfl rfl rfl (Ent.fn rfl rfl ca107) rfl (line_fn (ind+1) Aj qj Tj (some ⟨b48,0,none⟩) 5 [(bytesOf [118,97,114,32]),y.name,(bytesOf [58,32,98,111,111,108,32,61,32]),sq,(bytesOf [59])] (by omega) (Nat.le_of_ble_eq_true rfl) (by show _+2*_+((bytesOf [118,97,114,32]).size+(y.name.size+((bytesOf [58,32,98,111,111,108,32,61,32]).size+(sq.size+((bytesOf [59]).size+(0))))))+1≤_;simp only[ByteArray.size_append,bytes_size,lc1,ln0];omega)) ?_
 rintro _ _ ⟨Aw_2,qw_2,Tw_2,rfl,rfl,hw_2⟩
 refine⟨ocs (oca 2 rfl) (ocn _),?_⟩
 replace hw_2:Tw_2.length=Tj.length+2*(ind+1)+((bytesOf [118,97,114,32]).size+(y.name.size+((bytesOf [58,32,98,111,111,108,32,61,32]).size+(sq.size+((bytesOf [59]).size+(0))))))+1:=hw_2
 simp only[ByteArray.size_append,bytes_size,lc1,ln0]at hw_2
 refine To.z 9 ?_
 refine To.sub [(0,pv wb),(3,pv b3),(21, .slice c.Av c.vars.length c.qv),(22,nv c.vars.length),(23,nv ((i+1)))] ⟨rfl,rfl,rfl,rfl,rfl,trivial⟩ ?_
 refine To.del2 ?_
 refine To.ag (c.vars.length-(i+1)) (by omega) ⟨Aw_2,qw_2,Tw_2,i+1,rfl,rfl,rfl,(by omega),(by omega),(by omega)⟩
 refine To.z 6 ?_
 refine To.cp rfl (fun k50=>?_) (fun k50=>?_)
 refine To.z 4 ?_
 refine To.mk rfl rfl rfl (Mk.sN (us:=[.string (bytesOf [118,97,114,32]), .string y.name, .string (bytesOf [58,32,116,97,98,108,101,59])]) rfl s54 rfl rfl rfl rfl rfl rfl) ?_
 rintro _ _ ⟨b55,rfl,rfl⟩
 refine To.cl [2,2,0] rfl rfl rfl (Ent.fn rfl rfl ca107) rfl (line_fn (ind+1) Aj qj Tj (some ⟨b55,0,none⟩) 3 [(bytesOf [118,97,114,32]),y.name,(bytesOf [58,32,116,97,98,108,101,59])] (by omega) (Nat.le_of_ble_eq_true rfl) (by show _+2*_+((bytesOf [118,97,114,32]).size+(y.name.size+((bytesOf [58,32,116,97,98,108,101,59]).size+(0))))+1≤_;simp only[ByteArray.size_append,bytes_size,lc1,ln0];omega)) ?_
 rintro _ _ ⟨Aw_2,qw_2,Tw_2,rfl,rfl,hw_2⟩
 replace hw_2:Tw_2.length=Tj.length+2*(ind+1)+((bytesOf [118,97,114,32]).size+(y.name.size+((bytesOf [58,32,116,97,98,108,101,59]).size+(0))))+1:=hw_2
 simp only[ByteArray.size_append,bytes_size,lc1,ln0]at hw_2
 refine To.z 9 ?_
 refine To.sub [(0,pv wb),(3,pv b3),(21, .slice c.Av c.vars.length c.qv),(22,nv c.vars.length),(23,nv ((i+1)))] ⟨rfl,rfl,rfl,rfl,rfl,trivial⟩ ?_
 refine To.del2 ?_
 refine To.ag (c.vars.length-(i+1)) (by omega) ⟨Aw_2,qw_2,Tw_2,i+1,rfl,rfl,rfl,(by omega),(by omega),(by omega)⟩
 exact absurd k50 (by omega)
 refine To.z 7 ?_
 refine To.one 4 rfl (ros encVs c.An c.vers) rfl (Cm.vers_k) ?_
 refine To.z 8 ?_
 refine To.sub [(0,pv wb),(59, .slice c.An c.vers.length c.qn),(60,nv c.vers.length),(61,nv 0)] ⟨rfl,rfl,rfl,rfl,trivial⟩ ?_
 refine To.del4 (To.del3 (To.up2 (To.up2 ?_)))
 refine To.loop (fun mz ρ Γ=>∃(Aj:Option Addr) (qj:Nat) (Tj:List UInt8) (j:Nat),ρ=[(0,pv wb),(59, .slice c.An c.vers.length c.qn),(60,nv c.vers.length),(61,nv j)]∧Γ=[box wb [pv wb, .slice Aj Tj.length qj,nv (ind+1)] 230,rows encBy 5 1 Aj qj Tj,ros encVs c.An c.vers,all (c.kids eX),glc,p10c]∧mz=c.vers.length-j∧(j≤c.vers.length)∧(T0.length<Tj.length)∧(Tj.length≤T0.length+2000+4600000*j)) (c.vers.length-0) ⟨Aj,qj,Tj,0,rfl,rfl,rfl,(Nat.zero_le _),(by omega),(by omega)⟩ ?_
 rintro mz _ _ ⟨Aj,qj,Tj,j,rfl,rfl,rfl,hj,h1,h2⟩
 refine To.z 6 ?_
 refine To.cp rfl (fun k62=>?_) (fun k62=>?_)
 obtain⟨v,hvj⟩:∃z0,c.vers[j]?=some z0:=⟨c.vers[j]'(by omega),gge _⟩
 have hgv:=hc.ver v (mog hvj)
 have hcv:=hcap.2 v (mog hvj)
 refine To.z 9 ?_
 refine To.al fun b7=>?_
 refine To.z 11 ?_
 refine To.cp rfl (fun k67=>?_) (fun k67=>?_)
 refine To.s (To.part 4 rfl (v.kids eX) (Vs.lax eX v) (Cm.ver_k hvj) ?_)
 refine To.z 3 ?_
 refine To.cl [2,2,4,4,0] rfl rfl rfl (Ent.fn rfl rfl ca165) rfl (wver_fn wb v hgv.1 hgv.2 hcv (ind+1) Aj qj Tj (by omega) (by omega)) ?_
 rintro _ _ ⟨Aw_2,qw_2,Tw_2,rfl,rfl,hw_2⟩
 refine To.z 11 ?_
 refine To.sub [(0,pv wb),(59, .slice c.An c.vers.length c.qn),(60,nv c.vers.length),(61,nv ((j+1)))] ⟨rfl,rfl,rfl,rfl,trivial⟩ ?_
 refine To.del4 (To.up5 (To.up5 (To.up3 (To.up3 ?_))))
 refine To.ag (c.vers.length-(j+1)) (by omega) ⟨Aw_2,qw_2,Tw_2,j+1,rfl,rfl,rfl,(by omega),(by omega),(by omega)⟩
 refine To.z 7 ?_
 refine To.cQ rfl rfl rfl (Ent.fn rfl rfl ca54) (itoax_fn ((j+1:Nat):Int) (by omega) (by omega)) rfl (ocs (oca 6 rfl) (ocn _)) ?_
 rintro _ _ ⟨sq,rfl,rfl,hsq⟩
 refine⟨rfl,?_⟩
 refine To.mk rfl rfl rfl (Mk.sN (us:=[.string (bytesOf [118,101,114,115,105,111,110,32]), .string sq, .string (bytesOf [32,123])]) rfl s54 rfl rfl rfl rfl rfl rfl) ?_
 rintro _ _ ⟨b75,rfl,rfl⟩
 refine To.cl [2,2,0] rfl rfl rfl (Ent.fn rfl rfl ca107) rfl (line_fn (ind+1) Aj qj Tj (some ⟨b75,0,none⟩) 3 [(bytesOf [118,101,114,115,105,111,110,32]),sq,(bytesOf [32,123])] (by omega) (Nat.le_of_ble_eq_true rfl) (by show _+2*_+((bytesOf [118,101,114,115,105,111,110,32]).size+(sq.size+((bytesOf [32,123]).size+(0))))+1≤_;simp only[ByteArray.size_append,bytes_size,lc1,ln0];omega)) ?_
 rintro _ _ ⟨Aw_2,qw_2,Tw_2,rfl,rfl,hw_2⟩
 replace hw_2:Tw_2.length=Tj.length+2*(ind+1)+((bytesOf [118,101,114,115,105,111,110,32]).size+(sq.size+((bytesOf [32,123]).size+(0))))+1:=hw_2
 simp only[ByteArray.size_append,bytes_size,lc1,ln0]at hw_2
 refine To.z 15 ?_
 refine To.part 4 rfl (v.kids eX) (Vs.lax eX v) (Cm.ver_k hvj) ?_
 refine To.z 3 ?_
 refine To.cl [1,1,4,4,0] rfl rfl rfl (Ent.fn rfl rfl ca165) rfl (wver_fn wb v hgv.1 hgv.2 hcv ((ind+1)+1) Aw_2 qw_2 Tw_2 (by omega) (by omega)) ?_
 rintro _ _ ⟨Aw_3,qw_3,Tw_3,rfl,rfl,hw_3⟩
 refine To.z 8 ?_
 refine To.r (Rd.as (v':=nv ((ind+1))) (congrArg (Value.int .i64) (by omega)) (Rd.sub64 (m:=(((ind+1)+1:Nat):Int)) (n:=1) rfl rfl rfl (by omega))) ?_
 refine To.z 7 ?_
 refine To.mk rfl rfl rfl (Mk.sN (us:=[.string (bytesOf [125])]) rfl s54 rfl rfl rfl rfl rfl rfl) ?_
 rintro _ _ ⟨b95,rfl,rfl⟩
 refine To.cl [1,1,0] rfl rfl rfl (Ent.fn rfl rfl ca107) rfl (line_fn (ind+1) Aw_3 qw_3 Tw_3 (some ⟨b95,0,none⟩) 1 [(bytesOf [125])] (by omega) (Nat.le_of_ble_eq_true rfl) (by show _+2*_+((bytesOf [125]).size+(0))+1≤_;simp only[ByteArray.size_append,bytes_size,lc1,ln0];omega)) ?_
 rintro _ _ ⟨Aw_4,qw_4,Tw_4,rfl,rfl,hw_4⟩
 replace hw_4:Tw_4.length=Tw_3.length+2*(ind+1)+((bytesOf [125]).size+(0))+1:=hw_4
 simp only[ByteArray.size_append,bytes_size,lc1,ln0]at hw_4
 refine To.z 8 ?_
 refine To.sub [(0,pv wb),(59, .slice c.An c.vers.length c.qn),(60,nv c.vers.length),(61,nv ((j+1)))] ⟨rfl,rfl,rfl,rfl,trivial⟩ ?_
 refine To.del4 (To.up5 (To.up5 (To.up3 (To.up3 ?_))))
 refine To.ag (c.vers.length-(j+1)) (by omega) ⟨Aw_4,qw_4,Tw_4,j+1,rfl,rfl,rfl,(by omega),(by omega),(by omega)⟩
 refine To.z 11 ?_
 refine To.r (Rd.as (v':=nv ind) (congrArg (Value.int .i64) (by omega)) (Rd.sub64 (m:=((ind+1:Nat):Int)) (n:=1) rfl rfl rfl (by omega))) ?_
 refine To.z 7 ?_
 refine To.mk rfl rfl rfl (Mk.sN (us:=[.string (bytesOf [125])]) rfl s54 rfl rfl rfl rfl rfl rfl) ?_
 rintro _ _ ⟨b106,rfl,rfl⟩
 refine To.cl [1,1,0] rfl rfl rfl (Ent.fn rfl rfl ca107) rfl (line_fn ind Aj qj Tj (some ⟨b106,0,none⟩) 1 [(bytesOf [125])] (by omega) (Nat.le_of_ble_eq_true rfl) (by show _+2*_+((bytesOf [125]).size+(0))+1≤_;simp only[ByteArray.size_append,bytes_size,lc1,ln0];omega)) ?_
 rintro _ _ ⟨Aw_2,qw_2,Tw_2,rfl,rfl,hw_2⟩
 replace hw_2:Tw_2.length=Tj.length+2*ind+((bytesOf [125]).size+(0))+1:=hw_2
 simp only[ByteArray.size_append,bytes_size,lc1,ln0]at hw_2
 refine To.n (To.del3 (To.del2 (To.end0 (.inr rfl) Tryz.results109 ?_)))
 exact⟨_,_,_,rfl,rfl,by omega,by omega⟩
set_option maxHeartbeats 8000000 in
set_option maxRecDepth 100000 in
theorem print_fn(F:Fl)(hX:GoodX F)(hCap:F.Cap):
    Does Tryz.prog 75 [.agg #[.string F.name, .slice F.Af F.flags.length F.qf, .slice F.Al F.links.length F.ql, .slice F.Ac F.comps.length F.qc]] [all (F.kids eX),glc,p10c] (fun v Γ'=>∃s:ByteArray,v= .string s∧Γ'=[]∧s.size≤100000000):=by
 have hfl:=hX.flags
 have hlk:=hX.links
 have hcm:=hX.comps
 have hfn:=isNm_size hX.nm
 refine Does.enter Tryz.func75 rfl Tryz.ntmps75 rfl (fun w0=>?_)
 refine To.s (To.g ?_)
 refine To.bo fun b1=>?_
 refine To.z 7 ?_
 refine To.cQ rfl rfl rfl (Ent.fn rfl rfl ca47) (qcheck_fn F hX) (by show owns (F.kids eX)++(owns gl++[])=[];rw[(Fl.lax eX F).owns];rfl) (ocs (oca 1 rfl) (ocs (oca 2 rfl) (ocn _))) ?_
 rintro _ _ ⟨rfl,rfl⟩
 refine⟨rfl,?_⟩
 refine To.z 8 ?_
 refine To.r (Rd.build (vs:=[]) (cells:=[.pointer none, .slice none 0 0, .int .i64 0]) rfl rfl rfl (by kernel_rfl)) ?_
 refine To.bo fun wb=>?_
 refine To.z 4 ?_
 refine To.nilRow (enc:=encBy) (e:=5) (size:=1) ?_
 refine To.z 4 ?_
 refine To.mk rfl rfl rfl (Mk.sN (us:=[.string (bytesOf [102,108,101,101,116,32]), .string F.name, .string (bytesOf [32,123])]) rfl s54 rfl rfl rfl rfl rfl rfl) ?_
 rintro _ _ ⟨b18,rfl,rfl⟩
 refine To.cl [2,1,0] rfl rfl rfl (Ent.fn rfl rfl ca107) rfl (line0_fn wb 0 (.pointer none) (.inl rfl) none 0 [] (some ⟨b18,0,none⟩) 3 [(bytesOf [102,108,101,101,116,32]),F.name,(bytesOf [32,123])] (by omega) (Nat.le_of_ble_eq_true rfl) (by show 0+2*0+((bytesOf [102,108,101,101,116,32]).size+(F.name.size+((bytesOf [32,123]).size+(0))))+1≤_;simp only[bytes_size,lc1,ln0];omega)) ?_
 rintro _ _ ⟨Aw,qw,Tw,rfl,rfl,hw⟩
 replace hw:Tw.length=0+2*0+((bytesOf [102,108,101,101,116,32]).size+(F.name.size+((bytesOf [32,123]).size+(0))))+1:=hw
 simp only[bytes_size,lc1,ln0]at hw
 refine To.z 8 ?_
 refine To.r (Rd.as (v':=nv 1) rfl (Rd.inc (n:=0) rfl rfl rfl (by omega))) ?_
 refine To.z 7 ?_
 refine To.one 3 rfl (ros encFg F.Af F.flags) rfl (Fl.flags_k) ?_
 refine To.z 8 ?_
 refine To.sub [(1,pv b1),(3,pv wb),(28, .slice F.Af F.flags.length F.qf),(29,nv F.flags.length),(30,nv 0)] ⟨rfl,rfl,rfl,rfl,rfl,trivial⟩ ?_
 refine To.up2 (To.up2 ?_)
 refine To.loop (fun mz ρ Γ=>∃(Aj:Option Addr) (qj:Nat) (Tj:List UInt8) (kf:Nat),ρ=[(1,pv b1),(3,pv wb),(28, .slice F.Af F.flags.length F.qf),(29,nv F.flags.length),(30,nv kf)]∧Γ=[box wb [pv wb, .slice Aj Tj.length qj,nv 1] 230,rows encBy 5 1 Aj qj Tj,ros encFg F.Af F.flags,box b1 [.string F.name, .slice F.Af F.flags.length F.qf, .slice F.Al F.links.length F.ql, .slice F.Ac F.comps.length F.qc] 74,all (F.kids eX),glc,p10c]∧mz=F.flags.length-kf∧(kf≤F.flags.length)∧(0<Tj.length)∧(Tj.length≤100+200*kf)) (F.flags.length-0) ⟨Aw,qw,Tw,0,rfl,rfl,rfl,(Nat.zero_le _),(by omega),(by omega)⟩ ?_
 rintro mz _ _ ⟨Aj,qj,Tj,kf,rfl,rfl,rfl,hkf,h1,h2⟩
 refine To.z 6 ?_
 refine To.cp rfl (fun c31=>?_) (fun c31=>?_)
 obtain⟨y,hy⟩:∃z0,F.flags[kf]?=some z0:=⟨F.flags[kf]'(by omega),gge _⟩
 have hyn:=isNm_size (hX.flag y (mog hy))
 refine To.z 8 ?_
 refine To.al fun b5=>?_
 refine To.z 3 ?_
 refine To.flow [box b5 [.string y.name, .bool y.init] 169] [⟨0,[],0⟩,⟨1,[],0⟩,⟨2,[],0⟩,⟨3,[],0⟩,⟨4,[],0⟩,⟨5,[],4⟩,⟨6,[5],2⟩,⟨7,[5,6],5⟩] mixed (by kernel_rfl) (ocs (oca 0 rfl) (ocn _)) ?_
 refine To.z 5 ?_
 refine Fw.callM rfl rfl rfl rfl rfl (Ent.fn rfl rfl ca108) (fboolx_fn y.init) rfl (ocn _) ?_
 rintro _ _ ⟨sq,rfl,rfl,hsq⟩
 refine⟨rfl,?_⟩
 refine Fw.mk rfl rfl rfl rfl rfl (Mk.sN (us:=[.string (bytesOf [102,108,97,103,32]), .string y.name, .string (bytesOf [32,61,32]), .string sq, .string (bytesOf [59])]) rfl s54 rfl rfl rfl rfl rfl rfl) ?_
 rintro _ _ ⟨b40,rfl,rfl⟩
 refine Fw.call [2,2,0] rfl rfl rfl rfl (Ent.fn rfl rfl ca107) rfl (line_fn 1 Aj qj Tj (some ⟨b40,0,none⟩) 5 [(bytesOf [102,108,97,103,32]),y.name,(bytesOf [32,61,32]),sq,(bytesOf [59])] (by omega) (Nat.le_of_ble_eq_true rfl) (by show _+2*_+((bytesOf [102,108,97,103,32]).size+(y.name.size+((bytesOf [32,61,32]).size+(sq.size+((bytesOf [59]).size+(0))))))+1≤_;simp only[ByteArray.size_append,bytes_size,lc1,ln0];omega)) ?_
 rintro _ _ ⟨Aw,qw,Tw,rfl,rfl,hw⟩
 refine⟨ocs (oca 2 rfl) (ocn _),?_⟩
 replace hw:Tw.length=Tj.length+2*1+((bytesOf [102,108,97,103,32]).size+(y.name.size+((bytesOf [32,61,32]).size+(sq.size+((bytesOf [59]).size+(0))))))+1:=hw
 simp only[ByteArray.size_append,bytes_size,lc1,ln0]at hw
 refine To.z 8 ?_
 refine To.sub [(1,pv b1),(3,pv wb),(28, .slice F.Af F.flags.length F.qf),(29,nv F.flags.length),(30,nv ((kf+1)))] ⟨rfl,rfl,rfl,rfl,rfl,trivial⟩ ?_
 refine To.del2 ?_
 refine To.ag (F.flags.length-(kf+1)) (by omega) ⟨Aw,qw,Tw,kf+1,rfl,rfl,rfl,(by omega),(by omega),(by omega)⟩
 refine To.z 7 ?_
 refine To.one 4 rfl (ros encLk F.Al F.links) rfl (Fl.links_k) ?_
 refine To.z 8 ?_
 refine To.sub [(1,pv b1),(3,pv wb),(44, .slice F.Al F.links.length F.ql),(45,nv F.links.length),(46,nv 0)] ⟨rfl,rfl,rfl,rfl,rfl,trivial⟩ ?_
 refine To.del3 (To.up2 (To.up2 ?_))
 refine To.loop (fun mz ρ Γ=>∃(Aj:Option Addr) (qj:Nat) (Tj:List UInt8) (kl:Nat),ρ=[(1,pv b1),(3,pv wb),(44, .slice F.Al F.links.length F.ql),(45,nv F.links.length),(46,nv kl)]∧Γ=[box wb [pv wb, .slice Aj Tj.length qj,nv 1] 230,rows encBy 5 1 Aj qj Tj,ros encLk F.Al F.links,box b1 [.string F.name, .slice F.Af F.flags.length F.qf, .slice F.Al F.links.length F.ql, .slice F.Ac F.comps.length F.qc] 74,all (F.kids eX),glc,p10c]∧mz=F.links.length-kl∧(kl≤F.links.length)∧(0<Tj.length)∧(Tj.length≤1000+200*kl)) (F.links.length-0) ⟨Aj,qj,Tj,0,rfl,rfl,rfl,(Nat.zero_le _),(by omega),(by omega)⟩ ?_
 rintro mz _ _ ⟨Aj,qj,Tj,kl,rfl,rfl,rfl,hkl,h1,h2⟩
 refine To.z 6 ?_
 refine To.cp rfl (fun c47=>?_) (fun c47=>?_)
 obtain⟨y,hy⟩:∃z0,F.links[kl]?=some z0:=⟨F.links[kl]'(by omega),gge _⟩
 obtain⟨hy1,hy2,hy3,hy4⟩:=hX.link y (mog hy)
 have hys:=isNm_size hy1
 have hyd:=isNm_size hy2
 refine To.z 8 ?_
 refine To.al fun b7=>?_
 refine To.z 3 ?_
 refine To.flow [box b7 [.string y.src, .string y.dst, .int .i64 y.lat] 162] [⟨0,[],0⟩,⟨1,[],0⟩,⟨2,[],0⟩,⟨3,[],0⟩,⟨4,[],0⟩,⟨5,[],0⟩,⟨6,[],0⟩,⟨7,[],4⟩,⟨8,[7],2⟩,⟨9,[7,8],5⟩] mixed (by kernel_rfl) (ocs (oca 0 rfl) (ocn _)) ?_
 refine To.z 7 ?_
 refine Fw.callM rfl rfl rfl rfl rfl (Ent.fn rfl rfl ca54) (itoax_fn y.lat (by omega) (by omega)) rfl (ocs (oca 7 rfl) (ocn _)) ?_
 rintro _ _ ⟨sq,rfl,rfl,hsq⟩
 refine⟨rfl,?_⟩
 refine Fw.mk rfl rfl rfl rfl rfl (Mk.sN (us:=[.string (bytesOf [108,105,110,107,32]), .string y.src, .string (bytesOf [32,45,62,32]), .string y.dst, .string (bytesOf [32,108,97,116,101,110,99,121,32]), .string sq, .string (bytesOf [59])]) rfl s54 rfl rfl rfl rfl rfl rfl) ?_
 rintro _ _ ⟨b58,rfl,rfl⟩
 refine Fw.call [2,2,0] rfl rfl rfl rfl (Ent.fn rfl rfl ca107) rfl (line_fn 1 Aj qj Tj (some ⟨b58,0,none⟩) 7 [(bytesOf [108,105,110,107,32]),y.src,(bytesOf [32,45,62,32]),y.dst,(bytesOf [32,108,97,116,101,110,99,121,32]),sq,(bytesOf [59])] (by omega) (Nat.le_of_ble_eq_true rfl) (by show _+2*_+((bytesOf [108,105,110,107,32]).size+(y.src.size+((bytesOf [32,45,62,32]).size+(y.dst.size+((bytesOf [32,108,97,116,101,110,99,121,32]).size+(sq.size+((bytesOf [59]).size+(0))))))))+1≤_;simp only[ByteArray.size_append,bytes_size,lc1,ln0];omega)) ?_
 rintro _ _ ⟨Aw,qw,Tw,rfl,rfl,hw⟩
 refine⟨ocs (oca 2 rfl) (ocn _),?_⟩
 replace hw:Tw.length=Tj.length+2*1+((bytesOf [108,105,110,107,32]).size+(y.src.size+((bytesOf [32,45,62,32]).size+(y.dst.size+((bytesOf [32,108,97,116,101,110,99,121,32]).size+(sq.size+((bytesOf [59]).size+(0))))))))+1:=hw
 simp only[ByteArray.size_append,bytes_size,lc1,ln0]at hw
 refine To.z 8 ?_
 refine To.sub [(1,pv b1),(3,pv wb),(44, .slice F.Al F.links.length F.ql),(45,nv F.links.length),(46,nv ((kl+1)))] ⟨rfl,rfl,rfl,rfl,rfl,trivial⟩ ?_
 refine To.del2 ?_
 refine To.ag (F.links.length-(kl+1)) (by omega) ⟨Aw,qw,Tw,kl+1,rfl,rfl,rfl,(by omega),(by omega),(by omega)⟩
 refine To.z 7 ?_
 refine To.one 4 rfl (ros encC F.Ac F.comps) rfl (Fl.comps_k) ?_
 refine To.z 8 ?_
 refine To.sub [(1,pv b1),(3,pv wb),(62, .slice F.Ac F.comps.length F.qc),(63,nv F.comps.length),(64,nv 0)] ⟨rfl,rfl,rfl,rfl,rfl,trivial⟩ ?_
 refine To.del3 (To.up2 (To.up2 ?_))
 refine To.loop (fun mz ρ Γ=>∃(Aj:Option Addr) (qj:Nat) (Tj:List UInt8) (kc:Nat),ρ=[(1,pv b1),(3,pv wb),(62, .slice F.Ac F.comps.length F.qc),(63,nv F.comps.length),(64,nv kc)]∧Γ=[box wb [pv wb, .slice Aj Tj.length qj,nv 1] 230,rows encBy 5 1 Aj qj Tj,ros encC F.Ac F.comps,box b1 [.string F.name, .slice F.Af F.flags.length F.qf, .slice F.Al F.links.length F.ql, .slice F.Ac F.comps.length F.qc] 74,all (F.kids eX),glc,p10c]∧mz=F.comps.length-kc∧(kc≤F.comps.length)∧(0<Tj.length)∧(Tj.length≤4000+20000000*kc)) (F.comps.length-0) ⟨Aj,qj,Tj,0,rfl,rfl,rfl,(Nat.zero_le _),(by omega),(by omega)⟩ ?_
 rintro mz _ _ ⟨Aj,qj,Tj,kc,rfl,rfl,rfl,hkc,h1,h2⟩
 refine To.z 6 ?_
 refine To.cp rfl (fun c65=>?_) (fun c65=>?_)
 obtain⟨c,hc⟩:∃z0,F.comps[kc]?=some z0:=⟨F.comps[kc]'(by omega),gge _⟩
 have hcg:=hX.comp c (mog hc)
 have hcc:=hCap.2 c (mog hc)
 refine To.z 8 ?_
 refine To.al fun b9=>?_
 refine To.z 3 ?_
 refine To.part 5 rfl (c.kids eX) (Cm.lax eX c) (Fl.comp_k hc) ?_
 refine To.z 3 ?_
 refine To.cl [2,2,5,5,0] rfl rfl rfl (Ent.fn rfl rfl ca109) rfl (wcomp_fn wb c hcg hcc 1 Aj qj Tj (by omega) (by omega)) ?_
 rintro _ _ ⟨Aw,qw,Tw,rfl,rfl,hw⟩
 refine To.z 8 ?_
 refine To.sub [(1,pv b1),(3,pv wb),(62, .slice F.Ac F.comps.length F.qc),(63,nv F.comps.length),(64,nv ((kc+1)))] ⟨rfl,rfl,rfl,rfl,rfl,trivial⟩ ?_
 refine To.del4 (To.up6 (To.up6 (To.up6 (To.up4 (To.up4 ?_)))))
 refine To.ag (F.comps.length-(kc+1)) (by omega) ⟨Aw,qw,Tw,kc+1,rfl,rfl,rfl,(by omega),(by omega),(by omega)⟩
 refine To.z 11 ?_
 refine To.r (Rd.as (v':=nv 0) rfl (Rd.sub64 (m:=((1:Nat):Int)) (n:=1) rfl rfl rfl (by decide))) ?_
 refine To.z 8 ?_
 refine To.mk rfl rfl rfl (Mk.sN (us:=[.string (bytesOf [125])]) rfl s54 rfl rfl rfl rfl rfl rfl) ?_
 rintro _ _ ⟨b80,rfl,rfl⟩
 refine To.cl [1,1,0] rfl rfl rfl (Ent.fn rfl rfl ca107) rfl (line_fn 0 Aj qj Tj (some ⟨b80,0,none⟩) 1 [(bytesOf [125])] (by omega) (Nat.le_of_ble_eq_true rfl) (by show _+2*_+((bytesOf [125]).size+(0))+1≤_;simp only[ByteArray.size_append,bytes_size,lc1,ln0];omega)) ?_
 rintro _ _ ⟨Aw,qw,Tw,rfl,rfl,hw⟩
 replace hw:Tw.length=Tj.length+2*0+((bytesOf [125]).size+(0))+1:=hw
 simp only[ByteArray.size_append,bytes_size,lc1,ln0]at hw
 refine To.z 7 ?_
 refine To.cl [0,0] rfl rfl rfl (Ent.fn rfl rfl ca59) rfl ((wst_fn (ind:=0) wb _ Aw qw Tw (by omega) (fun h=>by rw[h]at hw;simp at hw)).bare) ?_
 rintro _ _ ⟨rfl,rfl⟩
 refine To.z 4 ?_
 refine To.del4 (To.del3 (To.del2 (To.del1 (To.del0 (To.end1 (.inl rfl) Tryz.results75 rfl ?_)))))
 exact⟨_,rfl,rfl,by rw[BA_size];omega⟩
end Go.Proofs.YtihgdnjkofpgiaaGreatDoor
