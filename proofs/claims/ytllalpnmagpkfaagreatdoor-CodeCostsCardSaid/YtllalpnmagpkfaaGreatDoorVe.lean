/- Merged out of V7, V8 by merge.py. Own text. -/
import Derived.Test.YtllalpnmagpkfaaGreatDoorVd
set_option maxHeartbeats 8000000
set_option maxRecDepth 100000
set_option linter.unusedVariables false
set_option linter.unusedSimpArgs false
namespace Go.Proofs.YtllalpnmagpkfaaGreatDoor
open Go.Proofs.Tryz
open Go.RowKit Go.Flow Go.Mem Go.Sep Go.In
theorem fhand_cut{B:OA}(v:Vs)(k:Nat)(s:ByteArray)(hk:k≤v.l.length)(h3:v.l.length≤3)(hn:(v.l.take k).find? (fun y:Hd=>decide (y.name=s))=none):
    Dz 127 [.slice B 1 1, .string s] [ro B [.slice v.A k v.q],all (v.kids eX)] (fun r Γ'=>r= .tuple #[.agg (encH zH).toArray, .bool false]∧Γ'=[]):=by
 have hl:(v.l.take k).length=k:=by rw[List.length_take];omega
 have h0:fdH [⟨v.A,v.q,v.l.take k⟩] s=none:=by unfold fdH;rw[List.flatMap_cons,List.flatMap_nil,List.append_nil];exact hn
 have hd:=fhand_fn B 1 [⟨v.A,v.q,v.l.take k⟩] s none (show 1≤12 by decide) (fun x hx=>by rw[List.mem_singleton.1 hx];show(v.l.take k).length≤3;omega) h0
 refine Does.via (fun C ρ K kk=>?_) hd
 have e:ro B [.slice v.A k v.q]=ros encVs B [(⟨v.A,v.q,v.l.take k⟩:Vs)]:=by show _=ro B [.slice v.A (v.l.take k).length v.q];rw[hl]
 rw[e]
 refine To.one 1 rfl (ros encH v.A v.l) rfl (List.mem_cons_self ..) (To.take k 0 rfl (To.part 3 rfl ((v.l.take k).flatMap (Hd.kids eX)) (Lax.flat fun h _=>h.lax eX) (fun c hc=>?_) ?_))
 · obtain⟨h,hh,hc⟩:=List.mem_flatMap.1 hc
   exact List.mem_cons_of_mem _ (List.mem_flatMap.2 ⟨h,List.mem_of_mem_take hh,hc⟩)
 refine To.perm (List.Perm.swap _ _ _) (To.allCons (To.up2 (To.drop (Γ:=[ros encVs B [(⟨v.A,v.q,v.l.take k⟩:Vs)],all _]) (Δ:=[_,_]) ?_)))
 have e2:[(⟨v.A,v.q,v.l.take k⟩:Vs)].flatMap (Vs.kids eX)=ros encH v.A (v.l.take k)::(v.l.take k).flatMap (Hd.kids eX):=by rw[List.flatMap_cons,List.flatMap_nil,List.append_nil];rfl
 rw[e2]at kk
 exact kk
theorem comp_fn(bc:Nat)(F:Fl)(hF:GoodX F)(hCap:F.Cap)(i:Nat)(x:Cm)(hx:F.comps[i]?=some x)(hcg:x.Good)(hT:TyC F i x)(w:ByteArray):
    Dz 68 [pv bc,nv i] [box bc (cF F [.string w, .string nE, .string nE, .int .i64 0]) 213,all (F.kids eX),p10c] (fun v Γ'=>∃w':ByteArray,v= .tuple #[]∧Γ'=[box bc (cF F [.string w', .string nE, .string nE, .int .i64 0]) 213]):=by
 have hFc:=hF.comps
 have hFf:=hF.flags
 have hxv:=hcg.vars
 have hxn:=hcg.vers2
 have hil:i<F.comps.length:=(List.getElem?_eq_some_iff.1 hx).1
 have hs1:=isNm_size hcg.nm
 have hcf:=hCap.1
 have hCc:=hCap.2 x (mog hx)
 have hCq:=hCc.1
 have hil2:∀n:Nat,n≤3→(Lib.itoa (((n+1:Nat):Nat):Int)).length≤20:=fun n hn=>itoa_len om om
 have htl:(F.comps.take i).length=i:=by rw[List.length_take];omega
 have hfc:=fcomp_fn F.Ac F.qc (F.comps.take i) x.name none om hT.new
 (try unfold vs at hfc);rw[htl]at hfc
 have hz1:(bytesOf [99,111,109,112,111,110,101,110,116,32]).size=10:=rfl
 have hz2:(bytesOf [118,97,114,105,97,98,108,101,32]).size=9:=rfl
 have hz3:(bytesOf [104,97,110,100,108,101,114,32]).size=8:=rfl
 have hz4:(bytesOf [46]).size=1:=rfl
 have hz5:(bytesOf [32]).size=1:=rfl
 refine Does.en func68 ntmps68 fun w0=>?_
 refine To.s (To.one 1 rfl (ros encC F.Ac F.comps) rfl (Fl.comps_k (k:=eX)) (To.z 9 ?_))
 refine To.al fun b4=>?_
 refine To.z 9 ?_
 refine To.r (Rd.addZ (a:=(bytesOf [99,111,109,112,111,110,101,110,116,32])) (b:=x.name) rfl rfl rfl (by first|omega|(simp only[ByteArray.size_append];omega))) ?_
 refine To.cl [2] rfl rfl rfl (Ent.fn rfl rfl ca120) rfl (at_fn bc F w ((bytesOf [99,111,109,112,111,110,101,110,116,32])++x.name)) ?_
 rintro _ _ ⟨rfl,rfl⟩
 refine To.z 7 ?_
 refine To.one 3 rfl (ros encVx x.Av x.vars) rfl (Fl.comp_k hx _ Cm.vars_k) (To.one 4 rfl (ros encFg F.Af F.flags) rfl (Fl.flags_k (k:=eX)) (To.one 5 rfl (ros encVs x.An x.vers) rfl (Fl.comp_k hx _ Cm.vers_k) (To.take i 5 rfl (To.flow [] [⟨0,[],0⟩,⟨1,[],0⟩,⟨2,[],0⟩,⟨3,[],0⟩,⟨5,[],0⟩,⟨7,[],0⟩,⟨4,[],1⟩,⟨6,[],0⟩,⟨8,[],1⟩,⟨9,[],3⟩,⟨10,[],0⟩,⟨11,[],0⟩,⟨12,[],0⟩,⟨13,[],2⟩,⟨14,[13],5⟩,⟨15,[],0⟩] mixed (by kernel_rfl) (ocn _) (To.z 7 ?_)))))
 refine Fw.f rfl (Rd.sliceHi (hi:=i) rfl s60 rfl rfl om) ?_
 refine To.z 1 ?_
 refine Fw.callQ rfl rfl rfl rfl (Ent.fn rfl rfl ca123) (hfc) rfl (ocs (oca 0 rfl) (ocn _)) ?_
 refine To.z 3 ?_
 refine Fw.mk rfl rfl rfl rfl rfl (Mk.alloc rfl z69) ?_
 rintro _ _ ⟨b5,rfl,rfl⟩
 refine Fw.up rfl rfl rfl (Up.storeS (i:=0) rfl rfl rfl r69 rfl rfl rfl (bta rfl)) (ocn _) ?_
 refine To.z 4 ?_
 refine To.flow [] [⟨0,[],0⟩,⟨1,[],0⟩,⟨2,[],0⟩,⟨3,[],0⟩,⟨4,[],0⟩,⟨5,[],0⟩,⟨6,[],0⟩,⟨7,[],0⟩,⟨9,[],0⟩,⟨14,[],0⟩,⟨8,[],1⟩,⟨10,[],1⟩,⟨11,[],3⟩,⟨12,[],0⟩,⟨13,[],0⟩,⟨15,[],1⟩,⟨16,[],5⟩] mixed (by kernel_rfl) (ocn _) (To.z 12 ?_)
 refine Fw.callQ rfl rfl rfl rfl (Ent.fn rfl rfl ca122) (fflag_fn F.Af F.qf F.flags x.name none om hT.nfl) rfl (ocs (oca 3 rfl) (ocn _)) ?_
 refine To.z 3 ?_
 refine Fw.call [5] rfl rfl rfl rfl (Ent.fn rfl rfl ca121) rfl (unless_fn bc F ((bytesOf [99,111,109,112,111,110,101,110,116,32])++x.name) x.name 5) ?_
 rintro _ _ ⟨rfl,rfl⟩
 refine⟨ocn _,?_⟩
 refine To.z 12 ?_
 refine To.del2 (To.del1 (To.up2 (To.up3 (To.up7 (To.up7 (To.up6 (To.up5 (To.loopS (fun mz ρ Γ=>∃(w1:ByteArray) (k:Nat),ρ=[(0,pv bc),(4,pv b4),(63,vs x.Av x.vars x.qv),(64,nv x.vars.length),(65,nv k)]∧Γ=[box bc (cF F [.string w1, .string nE, .string nE, .int .i64 0]) 213,box b4 (cX x []) 69,all (F.kids eX),p10c,ros encVx x.Av x.vars,ros encFg F.Af F.flags,ros encVs x.An x.vers,ros encC F.Ac F.comps]∧mz=x.vars.length-k∧(k≤x.vars.length)) (x.vars.length-0) ⟨⟨_,0,rfl,rfl,rfl,(Nat.zero_le _)⟩,sb⟩ ?_))))))))
 rintro mz _ _ ⟨w1,k,rfl,rfl,rfl,hk⟩
 refine To.z 6 ?_
 refine To.cp rfl (fun k66=>?_) (fun k66=>?_)
 obtain⟨y,hy⟩:=exg x.vars k om
 have htl2:(x.vars.take k).length=k:=by rw[List.length_take];omega
 have hs2:=isNm_size (hcg.var y (mog hy)).1
 have hfv:=fvar_fn x.Av x.qv (x.vars.take k) y.name none om (hT.var k y hy).1
 (try unfold vs at hfv);rw[htl2]at hfv
 refine To.z 9 ?_
 refine To.al fun b8=>?_
 refine To.z 10 ?_
 refine To.r (Rd.addZ (a:=(bytesOf [118,97,114,105,97,98,108,101,32])) (b:=x.name) rfl rfl rfl (by first|omega|(simp only[ByteArray.size_append];omega))) ?_
 refine To.r (Rd.addZ (a:=((bytesOf [118,97,114,105,97,98,108,101,32])++x.name)) (b:=(bytesOf [46])) rfl rfl rfl (by first|omega|(simp only[ByteArray.size_append];omega))) ?_
 refine To.z 2 ?_
 refine To.r (Rd.addZ (a:=(((bytesOf [118,97,114,105,97,98,108,101,32])++x.name)++(bytesOf [46]))) (b:=y.name) rfl rfl rfl (by first|omega|(simp only[ByteArray.size_append];omega))) ?_
 refine To.cl [1] rfl rfl rfl (Ent.fn rfl rfl ca120) rfl (at_fn bc F w1 ((((bytesOf [118,97,114,105,97,98,108,101,32])++x.name)++(bytesOf [46]))++y.name)) ?_
 rintro _ _ ⟨rfl,rfl⟩
 refine To.z 7 ?_
 refine To.take k 5 rfl (To.flow [] [⟨0,[],0⟩,⟨2,[],0⟩,⟨4,[],0⟩,⟨1,[],1⟩,⟨3,[],0⟩,⟨5,[],1⟩,⟨6,[],3⟩,⟨7,[],0⟩,⟨8,[],0⟩,⟨9,[],0⟩,⟨10,[],2⟩,⟨11,[10],5⟩,⟨12,[],0⟩] mixed (by kernel_rfl) (ocn _) (To.z 4 ?_))
 refine Fw.f rfl (Rd.sliceHi (hi:=k) rfl s66 rfl rfl om) ?_
 refine To.z 1 ?_
 refine Fw.callQ rfl rfl rfl rfl (Ent.fn rfl rfl ca126) (hfv) rfl (ocs (oca 0 rfl) (ocn _)) ?_
 refine To.z 3 ?_
 refine Fw.mk rfl rfl rfl rfl rfl (Mk.alloc rfl z72) ?_
 rintro _ _ ⟨b9,rfl,rfl⟩
 refine Fw.up rfl rfl rfl (Up.storeS (i:=0) rfl rfl rfl r72 rfl rfl rfl (bta rfl)) (ocn _) ?_
 refine To.z 3 ?_
 refine To.flow [] [⟨0,[],0⟩,⟨1,[],0⟩,⟨2,[],0⟩,⟨3,[],0⟩,⟨4,[],0⟩,⟨5,[],0⟩,⟨6,[],0⟩,⟨7,[],0⟩,⟨9,[],0⟩,⟨14,[],0⟩,⟨8,[],1⟩,⟨10,[],1⟩,⟨11,[],3⟩,⟨12,[],0⟩,⟨13,[],0⟩,⟨15,[],1⟩,⟨16,[],5⟩] mixed (by kernel_rfl) (ocn _) (To.z 12 ?_)
 refine Fw.callQ rfl rfl rfl rfl (Ent.fn rfl rfl ca122) (fflag_fn F.Af F.qf F.flags y.name none om (hT.var k y hy).2) rfl (ocs (oca 8 rfl) (ocn _)) ?_
 refine To.z 3 ?_
 refine Fw.call [2] rfl rfl rfl rfl (Ent.fn rfl rfl ca121) rfl (unless_fn bc F ((((bytesOf [118,97,114,105,97,98,108,101,32])++x.name)++(bytesOf [46]))++y.name) y.name 5) ?_
 rintro _ _ ⟨rfl,rfl⟩
 refine⟨ocn _,?_⟩
 refine To.z 8 ?_
 refine To.del3 (To.del2 (To.del1 (To.agS (x.vars.length-(k+1)) om ⟨⟨((((bytesOf [118,97,114,105,97,98,108,101,32])++x.name)++(bytesOf [46]))++y.name),k+1,rfl,rfl,rfl,om⟩,sb⟩)))
 refine To.z 14 ?_
 refine To.loopS (fun mz ρ Γ=>∃(w2:ByteArray) (n:Nat),ρ=[(0,pv bc),(4,pv b4),(109,vs x.An x.vers x.qn),(110,nv x.vers.length),(111,nv n)]∧Γ=[box bc (cF F [.string w2, .string nE, .string nE, .int .i64 0]) 213,box b4 (cX x []) 69,all (F.kids eX),p10c,ros encVx x.Av x.vars,ros encFg F.Af F.flags,ros encVs x.An x.vers,ros encC F.Ac F.comps]∧mz=x.vers.length-n∧(n≤x.vers.length)) (x.vers.length-0) ⟨⟨_,0,rfl,rfl,rfl,(Nat.zero_le _)⟩,sb⟩ ?_
 rintro mz _ _ ⟨w2,n,rfl,rfl,rfl,hn⟩
 refine To.z 6 ?_
 refine To.cp rfl (fun k112=>?_) (fun k112=>?_)
 obtain⟨v,hv⟩:=exg x.vers n om
 have hvm:=mog hv
 have hvg:=hcg.ver v hvm
 have hvl:=hvg.1
 have hcn:=hCc.2 v hvm
 have hvq:=hcn.1
 refine To.z 9 ?_
 refine To.al fun b12=>?_
 refine To.z 5 ?_
 refine To.one 3 rfl (ros encH v.A v.l) rfl (Fl.comp_k hx _ (Cm.ver_k hv _ Vs.l_k)) (To.z 8 ?_)
 refine To.up9 (To.up9 (To.up9 (To.up9 (To.up9 (To.up9 (To.up9 (To.up9 (To.loopS (fun mz ρ Γ=>∃(w3:ByteArray) (m:Nat),ρ=[(0,pv bc),(4,pv b4),(109,vs x.An x.vers x.qn),(110,nv x.vers.length),(111,nv n),(11,nv n),(12,pv b12),(117,vs v.A v.l v.q),(118,nv v.l.length),(119,nv m)]∧Γ=[box bc (cF F [.string w3, .string nE, .string nE, .int .i64 0]) 213,box b4 (cX x []) 69,all (F.kids eX),p10c,ros encVx x.Av x.vars,ros encFg F.Af F.flags,ros encVs x.An x.vers,ros encC F.Ac F.comps,ros encH v.A v.l,box b12 [vs v.A v.l v.q] 80]∧mz=v.l.length-m∧(m≤v.l.length)) (v.l.length-0) ⟨⟨_,0,rfl,rfl,rfl,(Nat.zero_le _)⟩,sb⟩ ?_))))))))
 rintro mz _ _ ⟨w3,m,rfl,rfl,rfl,hm⟩
 refine To.z 6 ?_
 refine To.cp rfl (fun k120=>?_) (fun k120=>?_)
 obtain⟨h,hh⟩:=exg v.l m om
 have hhm:=mog hh
 have hg:=hvg.2 h hhm
 have hs3:=isNm_size hg.nm
 obtain⟨hd1,hd2,hd3⟩:=hT.hd n v hv m h hh
 have hhq:=hcn.2 h hhm
 have hit:(BA (Lib.itoa (((n+1:Nat):Nat):Int))).size≤20:=by rw[BA_size];exact hil2 n om
 refine To.z 9 ?_
 refine To.al fun b14=>?_
 refine To.z 6 ?_
 refine To.flow [] [⟨0,[],0⟩,⟨1,[],0⟩,⟨5,[],0⟩,⟨9,[],0⟩,⟨10,[],0⟩,⟨11,[],3⟩,⟨2,[],1⟩,⟨3,[],0⟩,⟨4,[],0⟩,⟨6,[],1⟩,⟨7,[],0⟩,⟨8,[],0⟩,⟨12,[],0⟩,⟨13,[],5⟩,⟨14,[],0⟩] mixed (by kernel_rfl) (ocn _) (To.z 5 ?_)
 refine Fw.callQ rfl rfl rfl rfl (Ent.fn rfl rfl ca48) (itoa_fn (((n+1:Nat):Nat):Int) om om) rfl (ocs (oca 4 rfl) (ocn _)) ?_
 refine To.z 1 ?_
 refine Fw.f rfl (Rd.addZ (a:=(bytesOf [104,97,110,100,108,101,114,32])) (b:=x.name) rfl rfl rfl (by first|omega|(simp only[ByteArray.size_append];omega))) ?_
 refine Fw.f rfl (Rd.addZ (a:=((bytesOf [104,97,110,100,108,101,114,32])++x.name)) (b:=(bytesOf [46])) rfl rfl rfl (by first|omega|(simp only[ByteArray.size_append];omega))) ?_
 refine To.z 1 ?_
 refine Fw.f rfl (Rd.addZ (a:=(((bytesOf [104,97,110,100,108,101,114,32])++x.name)++(bytesOf [46]))) (b:=h.name) rfl rfl rfl (by first|omega|(simp only[ByteArray.size_append];omega))) ?_
 refine Fw.f rfl (Rd.addZ (a:=((((bytesOf [104,97,110,100,108,101,114,32])++x.name)++(bytesOf [46]))++h.name)) (b:=(bytesOf [32])) rfl rfl rfl (by first|omega|(simp only[ByteArray.size_append];omega))) ?_
 refine Fw.f rfl (Rd.addZ (a:=(((((bytesOf [104,97,110,100,108,101,114,32])++x.name)++(bytesOf [46]))++h.name)++(bytesOf [32]))) (b:=(BA (Lib.itoa (((n+1:Nat):Nat):Int)))) rfl rfl rfl (by first|omega|(simp only[ByteArray.size_append];omega))) ?_
 refine Fw.call [1] rfl rfl rfl rfl (Ent.fn rfl rfl ca120) rfl (at_fn bc F w3 ((((((bytesOf [104,97,110,100,108,101,114,32])++x.name)++(bytesOf [46]))++h.name)++(bytesOf [32]))++(BA (Lib.itoa (((n+1:Nat):Nat):Int))))) ?_
 rintro _ _ ⟨rfl,rfl⟩
 refine⟨ocn _,?_⟩
 refine To.z 7 ?_
 refine To.part 3 rfl (v.kids eX) (Vs.lax eX v) (fun z hz=>Fl.comp_k hx _ (Cm.ver_k hv _ hz)) (To.flow [] [⟨0,[],0⟩,⟨2,[],0⟩,⟨6,[],0⟩,⟨1,[],1⟩,⟨3,[],0⟩,⟨4,[],0⟩,⟨5,[],2⟩,⟨7,[],1⟩,⟨8,[5],4⟩,⟨9,[5,8],0⟩,⟨10,[5,8],0⟩,⟨11,[5,8],0⟩,⟨12,[],2⟩,⟨13,[5,8,12],5⟩,⟨14,[],0⟩] mixed (by kernel_rfl) (ocn _) (To.z 4 ?_))
 refine Fw.f rfl (Rd.sliceHi (hi:=m) rfl s78 rfl rfl om) ?_
 refine Fw.f rfl (Rd.build (vs:=[(0, .slice v.A m v.q)]) (cells:=[.slice v.A m v.q]) rfl rfl rfl (by kernel_rfl)) ?_
 refine Fw.mk rfl rfl rfl rfl rfl (Mk.sN (us:=[.slice v.A m v.q]) rfl s67 rfl rfl rfl rfl rfl rfl) ?_
 rintro _ _ ⟨b145,rfl,rfl⟩
 refine To.z 1 ?_
 refine Fw.callM rfl rfl rfl rfl rfl (Ent.fn rfl rfl ca127) (fhand_cut v m h.name om hvl hd1) (by show owns (v.kids eX)++[]=[];rw[(v.lax eX).owns];rfl) (ocs (oks_row 0 rfl) (ocs (oca 1 rfl) (ocn _))) ?_
 rintro _ _ ⟨rfl,rfl⟩
 refine⟨rfl,?_⟩
 refine To.z 3 ?_
 refine Fw.mk rfl rfl rfl rfl rfl (Mk.alloc rfl z77) ?_
 rintro _ _ ⟨b15,rfl,rfl⟩
 refine Fw.up rfl rfl rfl (Up.storeS (i:=0) rfl rfl rfl r77 rfl rfl rfl (bta rfl)) (ocn _) ?_
 refine To.z 10 ?_
 refine To.cl [3] rfl rfl rfl (Ent.fn rfl rfl ca121) rfl (unless_fn bc F ((((((bytesOf [104,97,110,100,108,101,114,32])++x.name)++(bytesOf [46]))++h.name)++(bytesOf [32]))++(BA (Lib.itoa (((n+1:Nat):Nat):Int)))) h.name 5) ?_
 rintro _ _ ⟨rfl,rfl⟩
 refine To.z 3 ?_
 have htl3:(x.vers.take n).length=n:=by rw[List.length_take];omega
 obtain⟨o,ho⟩:∃o,fdH (x.vers.take n) h.name=o:=⟨_,rfl⟩
 have hso:o.isSome=true→(o.getD zH).ps.length=h.ps.length:=fun e=>by
  obtain⟨h',rfl⟩:=Option.isSome_iff_exists.1 e
  exact hd2 h' ho
 have hcl:=fhand_fn x.An x.qn (x.vers.take n) h.name o om (fun y hy=>(hcg.ver y (List.mem_of_mem_take hy)).1) ho
 (try unfold vs at hcl);rw[htl3]at hcl
 refine To.take n 10 rfl ?_
 refine To.part 7 rfl ((x.vers.take n).flatMap (Vs.kids eX)) (Lax.flat fun h _=>Vs.lax eX h) (fun z hz=>by
     obtain⟨y,hy,hz⟩:=List.mem_flatMap.1 hz
     obtain⟨j,hj⟩:=List.getElem?_of_mem (List.mem_of_mem_take hy)
     exact Fl.comp_k hx _ (Cm.ver_k hj _ hz)) ?_
 refine To.flow [] [⟨0,[],0⟩,⟨2,[],0⟩,⟨4,[],0⟩,⟨1,[],1⟩,⟨3,[],0⟩,⟨5,[],1⟩,⟨6,[],4⟩,⟨7,[6],0⟩,⟨8,[6],0⟩,⟨9,[6],0⟩,⟨10,[],2⟩,⟨11,[6,10],5⟩,⟨12,[],0⟩] mixed (by kernel_rfl) (ocn _) (To.z 4 ?_)
 refine Fw.f rfl (Rd.sliceHi (hi:=n) rfl s67 rfl rfl om) ?_
 refine To.z 1 ?_
 refine Fw.callM rfl rfl rfl rfl rfl (Ent.fn rfl rfl ca127) (hcl) (by show owns ((x.vers.take n).flatMap (Vs.kids eX))++[]=[];rw[(Lax.flat (k:=Vs.kids eX) (l:=x.vers.take n) fun h _=>Vs.lax eX h).owns];rfl) (ocs (oca 1 rfl) (ocs (oca 0 rfl) (ocn _))) ?_
 rintro _ _ ⟨rfl,rfl⟩
 refine⟨rfl,?_⟩
 refine To.z 3 ?_
 refine Fw.mk rfl rfl rfl rfl rfl (Mk.alloc rfl z77) ?_
 rintro _ _ ⟨b17,rfl,rfl⟩
 refine Fw.up rfl rfl rfl (Up.storeS (i:=0) rfl rfl rfl r77 rfl rfl rfl (bta rfl)) (ocn _) ?_
 refine To.z 8 ?_
 refine To.rdB rfl rfl rfl (Rd.move rfl rfl) (fun g170=>?_) (fun g170=>?_)
 refine To.z 10 ?_
 refine To.cl [3] rfl rfl rfl (Ent.fn rfl rfl ca121) rfl (unless_fn bc F ((((((bytesOf [104,97,110,100,108,101,114,32])++x.name)++(bytesOf [46]))++h.name)++(bytesOf [32]))++(BA (Lib.itoa (((n+1:Nat):Nat):Int)))) h.name 10) ?_
 rintro _ _ ⟨rfl,rfl⟩
 refine To.n (To.sub [(0,pv bc),(4,pv b4),(109,vs x.An x.vers x.qn),(110,nv x.vers.length),(111,nv n),(11,nv n),(12,pv b12),(117,vs v.A v.l v.q),(118,nv v.l.length),(119,nv m),(120, .bool (decide (((m:Nat):Int)<((v.l.length:Nat):Int)))),(14,pv b14),(13,nv m),(138, .bool false),(16, .bool o.isSome),(17,pv b17)] sb (To.t (To.dup 10 rfl rfl (To.part 10 rfl (F.kids eX) (Fl.lax eX F) (fun c hc=>hc) (To.flow [] [⟨0,[],0⟩,⟨3,[],0⟩,⟨4,[],0⟩,⟨5,[],3⟩,⟨6,[],0⟩,⟨1,[],1⟩,⟨2,[],1⟩,⟨7,[],5⟩] mixed (by kernel_rfl) (ocn _) (To.z 3 ?_))))))
 refine Fw.callQ rfl rfl rfl rfl (Ent.fn rfl rfl ca48) (itoa_fn (((n+1:Nat):Nat):Int) om om) rfl (ocs (oca 1 rfl) (ocn _)) ?_
 refine Fw.f rfl (Rd.addZ (a:=(bytesOf [32])) (b:=(BA (Lib.itoa (((n+1:Nat):Nat):Int)))) rfl rfl rfl (by first|omega|(simp only[ByteArray.size_append];omega))) ?_
 refine To.z 2 ?_
 refine Fw.call [2,0,0] rfl rfl rfl rfl (Ent.fn rfl rfl ca128) rfl (tbody_fn bc F hF hCap i x hx hcg n v hv m h hh hg hd3 ⟨hF.flags,hcg.vars,hg.ps⟩ hhq ((((((bytesOf [104,97,110,100,108,101,114,32])++x.name)++(bytesOf [46]))++h.name)++(bytesOf [32]))++(BA (Lib.itoa (((n+1:Nat):Nat):Int)))) ((bytesOf [32])++(BA (Lib.itoa (((n+1:Nat):Nat):Int)))) (by simp only[ByteArray.size_append];omega)) ?_
 rintro _ _ ⟨w2,rfl,rfl⟩
 refine⟨ocn _,?_⟩
 refine To.z 8 ?_
 refine To.del7 (To.del6 (To.del5 (To.del4 (To.del3 (To.del2 (To.del1 (To.agS (v.l.length-(m+1)) om ⟨⟨w2,m+1,rfl,rfl,rfl,om⟩,sb⟩)))))))
 refine To.z 6 ?_
 refine To.r (Rd.as (v':= .bool true) (congrArg Value.bool (decide_eq_true (by have:=hso (by simpa using g170);omega))) (Rd.eql rfl rfl rfl)) ?_
 refine To.z 3 ?_
 refine To.cl [3] rfl rfl rfl (Ent.fn rfl rfl ca121) rfl (unless_fn bc F ((((((bytesOf [104,97,110,100,108,101,114,32])++x.name)++(bytesOf [46]))++h.name)++(bytesOf [32]))++(BA (Lib.itoa (((n+1:Nat):Nat):Int)))) h.name 10) ?_
 rintro _ _ ⟨rfl,rfl⟩
 refine To.n (To.sub [(0,pv bc),(4,pv b4),(109,vs x.An x.vers x.qn),(110,nv x.vers.length),(111,nv n),(11,nv n),(12,pv b12),(117,vs v.A v.l v.q),(118,nv v.l.length),(119,nv m),(120, .bool (decide (((m:Nat):Int)<((v.l.length:Nat):Int)))),(14,pv b14),(13,nv m),(138, .bool false),(16, .bool o.isSome),(17,pv b17)] sb (To.t (To.dup 10 rfl rfl (To.part 10 rfl (F.kids eX) (Fl.lax eX F) (fun c hc=>hc) (To.flow [] [⟨0,[],0⟩,⟨3,[],0⟩,⟨4,[],0⟩,⟨5,[],3⟩,⟨6,[],0⟩,⟨1,[],1⟩,⟨2,[],1⟩,⟨7,[],5⟩] mixed (by kernel_rfl) (ocn _) (To.z 3 ?_))))))
 refine Fw.callQ rfl rfl rfl rfl (Ent.fn rfl rfl ca48) (itoa_fn (((n+1:Nat):Nat):Int) om om) rfl (ocs (oca 1 rfl) (ocn _)) ?_
 refine Fw.f rfl (Rd.addZ (a:=(bytesOf [32])) (b:=(BA (Lib.itoa (((n+1:Nat):Nat):Int)))) rfl rfl rfl (by first|omega|(simp only[ByteArray.size_append];omega))) ?_
 refine To.z 2 ?_
 refine Fw.call [2,0,0] rfl rfl rfl rfl (Ent.fn rfl rfl ca128) rfl (tbody_fn bc F hF hCap i x hx hcg n v hv m h hh hg hd3 ⟨hF.flags,hcg.vars,hg.ps⟩ hhq ((((((bytesOf [104,97,110,100,108,101,114,32])++x.name)++(bytesOf [46]))++h.name)++(bytesOf [32]))++(BA (Lib.itoa (((n+1:Nat):Nat):Int)))) ((bytesOf [32])++(BA (Lib.itoa (((n+1:Nat):Nat):Int)))) (by simp only[ByteArray.size_append];omega)) ?_
 rintro _ _ ⟨w2,rfl,rfl⟩
 refine⟨ocn _,?_⟩
 refine To.z 8 ?_
 refine To.del7 (To.del6 (To.del5 (To.del4 (To.del3 (To.del2 (To.del1 (To.agS (v.l.length-(m+1)) om ⟨⟨w2,m+1,rfl,rfl,rfl,om⟩,sb⟩)))))))
 refine To.z 11 ?_
 refine To.del9 (To.del8 (To.agS (x.vers.length-(n+1)) om ⟨⟨w3,n+1,rfl,rfl,rfl,om⟩,sb⟩))
 refine To.z 4 ?_
 refine To.del7 (To.del6 (To.del5 (To.del4 (To.del3 (To.del2 (To.del1 (To.end0 (.inr rfl) results68 ?_)))))))
 exact⟨_,rfl,rfl⟩
theorem tcheck_fn(F:Fl)(hF:GoodX F)(hCap:F.Cap)(hT:TyF F):
    Dz 25 [.agg (cF F []).toArray] [all (F.kids eX),glc,p10c] (fun v Γ'=>v= .tuple #[.agg #[.string nE, .string nE, .int .i64 0], .int .i64 0]∧Γ'=[]):=by
 have hFc:=hF.comps
 refine Does.en func25 ntmps25 fun w0=>?_
 refine To.s (To.g (To.bo fun b1=>?_))
 refine To.al fun b2=>?_
 refine To.z 6 ?_
 refine To.r (Rd.build (vs:=[(0, .agg (cF F []).toArray),(1, .string (bytesOf [102,108,101,101,116]))]) (cells:=(cF F [.string (bytesOf [102,108,101,101,116]), .string bE, .string bE, .int .i64 0])) rfl rfl rfl (by kernel_rfl)) ?_
 refine To.bo fun b8=>?_
 refine To.z 4 ?_
 refine To.flow [] [⟨0,[],0⟩,⟨3,[],0⟩,⟨1,[],1⟩,⟨2,[],4⟩,⟨4,[],1⟩,⟨5,[2],5⟩] mixed (by kernel_rfl) (ocn _) (To.z 3 ?_)
 refine Fw.callM rfl rfl rfl rfl rfl (Ent.fn rfl rfl ca24) (qcheck_fn F hF) (by show owns (F.kids eX)++(owns gl++[])=[];rw[(Fl.lax eX F).owns];rfl) (ocs (oca 3 rfl) (ocs (oca 4 rfl) (ocn _))) ?_
 rintro _ _ ⟨rfl,rfl⟩
 refine⟨rfl,?_⟩
 refine To.z 1 ?_
 refine Fw.call [0] rfl rfl rfl rfl (Ent.fn rfl rfl ca65) rfl (report_fn b8 F (bytesOf [102,108,101,101,116]) F.name) ?_
 rintro _ _ ⟨rfl,rfl⟩
 refine⟨ocn _,?_⟩
 refine To.z 3 ?_
 refine To.part 3 rfl (F.kids eX) (Fl.lax eX F) (fun c hc=>hc) (To.z 2 ?_)
 refine To.cl [1,0] rfl rfl rfl (Ent.fn rfl rfl ca66) rfl (flags_fn b8 F hF hCap hT (bytesOf [102,108,101,101,116])) ?_
 rintro _ _ ⟨w2,rfl,rfl⟩
 refine To.z 3 ?_
 refine To.part 3 rfl (F.kids eX) (Fl.lax eX F) (fun c hc=>hc) (To.z 2 ?_)
 refine To.cl [1,0] rfl rfl rfl (Ent.fn rfl rfl ca67) rfl (links_fn b8 F hF hCap hT w2) ?_
 rintro _ _ ⟨w2_2,rfl,rfl⟩
 refine To.z 12 ?_
 refine To.del4 (To.del2 (To.up3 (To.up3 (To.up2 (To.loopS (fun mz ρ Γ=>∃(ww:ByteArray) (k:Nat),ρ=[(2,pv b2),(3, .int .i64 0),(4,pv b8),(21,nv F.comps.length),(22,nv k)]∧Γ=[box b8 (cF F [.string ww, .string nE, .string nE, .int .i64 0]) 213,all (F.kids eX),p10c,box b2 [.string bE, .string bE, .int .i64 0] 93]∧mz=F.comps.length-k∧(k≤F.comps.length)) (F.comps.length-0) ⟨⟨_,0,rfl,rfl,rfl,(Nat.zero_le _)⟩,sb⟩ ?_)))))
 rintro mz _ _ ⟨ww,k,rfl,rfl,rfl,hk⟩
 refine To.z 6 ?_
 refine To.cp rfl (fun k23=>?_) (fun k23=>?_)
 obtain⟨x,hx⟩:∃x,F.comps[k]?=some x:=⟨_,gge om⟩
 refine To.z 10 ?_
 refine To.dup 2 rfl rfl (To.part 2 rfl (F.kids eX) (Fl.lax eX F) (fun c hc=>hc) (To.z 3 ?_))
 refine To.cl [2,0,0] rfl rfl rfl (Ent.fn rfl rfl ca68) rfl (comp_fn b8 F hF hCap k x hx (hF.comp x (mog hx)) (hT.comp k x hx) ww) ?_
 rintro _ _ ⟨w2_3,rfl,rfl⟩
 refine To.z 8 ?_
 refine To.agS (F.comps.length-(k+1)) om ⟨⟨w2_3,k+1,rfl,rfl,rfl,om⟩,sb⟩
 refine To.z 6 ?_
 refine To.flow [box b8 (cF F [.string ww, .string nE, .string nE, .int .i64 0]) 213] [⟨0,[],0⟩,⟨1,[],0⟩,⟨2,[],0⟩,⟨3,[],0⟩,⟨4,[],0⟩,⟨5,[],0⟩,⟨6,[],0⟩,⟨7,[],0⟩,⟨8,[],0⟩,⟨9,[],5⟩,⟨10,[],0⟩] mixed (by kernel_rfl) (ocs (oca 0 rfl) (ocn _)) (To.z 3 ?_)
 refine Fw.f rfl (Rd.lS (i:=0) (us:=[.string nE, .string nE, .int .i64 0]) rfl rfl r93 rfl (box_gives (n:=3) rfl) rfl) ?_
 refine To.z 5 ?_
 refine Fw.up rfl rfl rfl (Up.storeS (i:=3) rfl rfl rfl r93 rfl rfl rfl (bta rfl)) (ocs (oca 0 rfl) (ocn _)) ?_
 refine To.z 4 ?_
 refine To.endCT [] rfl (.inl rfl) results25 rfl (i:=3) rfl r93 rfl rfl ?_
 exact⟨rfl,rfl⟩
end Go.Proofs.YtllalpnmagpkfaaGreatDoor
