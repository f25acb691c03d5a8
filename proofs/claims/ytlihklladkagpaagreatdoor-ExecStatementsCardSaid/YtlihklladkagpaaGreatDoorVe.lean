/- Own text. -/
import Derived.Test.YtlihklladkagpaaGreatDoorVd
set_option maxHeartbeats 8000000
set_option maxRecDepth 100000
set_option linter.unusedVariables false
set_option linter.unusedSimpArgs false
namespace Go.Proofs.YtlihklladkagpaaGreatDoor
open Go.Proofs.Tryz
open Go.RowKit Go.Flow Go.Mem Go.Sep Go.In
theorem GN{B:OA}(v:Vs)(k:Nat)(s:ByteArray)(hk:k≤v.l.length)(h3:v.l.length≤3)(hn:(v.l.take k).find? (fun y:Hd=>decide (y.name=s))=none):
    Dz 148 [.slice B 1 1, .string s] [ro B [.slice v.A k v.q],all (v.kids eX)] (fun r Γ'=>r= .tuple #[.agg (Me zH).toArray, .bool false]∧Γ'=[]):=by
 have hl:(v.l.take k).length=k:=by rw[aEe];omega
 have h0:fdH [⟨v.A,v.q,v.l.take k⟩] s=none:=by unfold fdH;rw[aFf,List.flatMap_nil,aEz];exact hn
 have hd:=kC B 1 [⟨v.A,v.q,v.l.take k⟩] s none (show 1≤12 by decide) (fun x hx=>by rw[aEr.1 hx];show(v.l.take k).length≤3;omega) h0
 refine MQ (fun C ρ K kk=>?_) hd
 have e:ro B [.slice v.A k v.q]=ros Ik B [(⟨v.A,v.q,v.l.take k⟩:Vs)]:=by show _=ro B [.slice v.A (v.l.take k).length v.q];rw[hl]
 rw[e]
 refine To.one 1 rfl (ros Me v.A v.l) rfl (aEd ..) (To.take k 0 rfl (Db 3 rfl ((v.l.take k).flatMap (Hd.kids eX)) (Hm fun h _=>h.lax eX) (fun c hc=>?_) ?_))
 · obtain⟨h,hh,hc⟩:=aEy.1 hc
   exact aEb _ (aEy.2 ⟨h,aFy hh,hc⟩)
 refine To.perm (aFc _ _ _) (Dn (Jj (To.drop (Γ:=[ros Ik B [(⟨v.A,v.q,v.l.take k⟩:Vs)],all _]) (Δ:=[_,_]) ?_)))
 have e2:[(⟨v.A,v.q,v.l.take k⟩:Vs)].flatMap (Vs.kids eX)=ros Me v.A (v.l.take k)::(v.l.take k).flatMap (Hd.kids eX):=by rw[aFf,List.flatMap_nil,aEz];rfl
 rw[e2]at kk
 exact kk
theorem TQ(bc:Nat)(F:Fl)(hF:Ol F)(hCap:F.Cap)(i:Nat)(x:Cm)(hx:F.comps[i]?=some x)(hcg:x.Good)(hT:TyC F i x)(w:ByteArray):
    Dz 89 [pv bc,nv i] [box bc (cF F [.string w, .string nE, .string nE,iv 0]) 235,all (F.kids eX),p10c] (fun v Γ'=>∃w':ByteArray,v= .tuple #[]∧Γ'=[box bc (cF F [.string w', .string nE, .string nE,iv 0]) 235]):=by
 have hFc:=hF.comps
 have hFf:=hF.flags
 have hxv:=hcg.vars
 have hxn:=hcg.vers2
 have hil:i<F.comps.length:=(aEc.1 hx).1
 have hs1:=Om hcg.nm
 have hcf:=hCap.1
 have hCc:=hCap.2 x (mog hx)
 have hCq:=hCc.1
 have hil2:∀n:Nat,n≤3→(Lib.itoa (((n+1:Nat):Nat):Int)).length≤20:=fun n hn=>itoa_len om om
 have htl:(F.comps.take i).length=i:=by rw[aEe];omega
 have hfc:=uJ F.Ac F.qc (F.comps.take i) x.name none om hT.new
 (try unfold vs at hfc);rw[htl]at hfc
 have hz1:(aLy [99,111,109,112,111,110,101,110,116,32]).size=10:=rfl
 have hz2:(aLy [118,97,114,105,97,98,108,101,32]).size=9:=rfl
 have hz3:(aLy [104,97,110,100,108,101,114,32]).size=8:=rfl
 have hz4:(aLy [46]).size=1:=rfl
 have hz5:(aLy [32]).size=1:=rfl
 refine Am func89 ntmps89 fun w0=>?_
 refine Js (To.one 1 rfl (ros Jl F.Ac F.comps) rfl (Jc (k:=eX)) (Jz 9 ?_))
 refine Jal fun b4=>?_
 refine Jz 9 ?_
 refine Jr (Io (a:=(aLy [99,111,109,112,111,110,101,110,116,32])) (b:=x.name) rfl rfl rfl (by first|omega|(simp only[aFa];omega))) ?_
 refine Jcf [2] (nD bc F w ((aLy [99,111,109,112,111,110,101,110,116,32])++x.name)) ?_
 rintro _ _ ⟨rfl,rfl⟩
 refine Jz 7 ?_
 refine To.one 3 rfl (ros Iy x.Av x.vars) rfl (Fj hx _ Rj) (To.one 4 rfl (ros Gx F.Af F.flags) rfl (Qh (k:=eX)) (To.one 5 rfl (ros Ik x.An x.vers) rfl (Fj hx _ Lm) (To.take i 5 rfl (Jfw [] [0,1,2,3,5,7,104,6,108,309,10,11,12,213,14514,15] (ocn _) ?_))))
 refine Jz 7 ?_
 refine Fw.f rfl (Eo (hi:=i) rfl aAe rfl rfl om) ?_
 refine Jz 1 ?_
 refine Fw.qf (hfc) (ocs (oca 0 rfl) (ocn _)) ?_
 refine Jz 3 ?_
 refine Fw.mk rfl rfl rfl rfl rfl (Mk.alloc rfl aAi) ?_
 rintro _ _ ⟨b5,rfl,rfl⟩
 refine Fw.up rfl rfl rfl (Bl (i:=0) rfl rfl rfl JR rfl rfl rfl (bta rfl)) (ocn _) ?_
 refine Jz 4 ?_
 refine Jfw [] [0,1,2,3,4,5,6,7,9,14,108,110,311,12,13,115,516] (ocn _) ?_
 refine Jz 12 ?_
 refine Fw.qf (Tx F.Af F.qf F.flags x.name none om hT.nfl) (ocs (oca 3 rfl) (ocn _)) ?_
 refine Jz 3 ?_
 refine Da [5] (Ia bc F ((aLy [99,111,109,112,111,110,101,110,116,32])++x.name) x.name 5) ?_
 rintro _ _ ⟨rfl,rfl⟩
 refine⟨ocn _,?_⟩
 refine Jz 12 ?_
 refine Cw (fun s g mz ρ Γ=>∃(w1:ByteArray) (k:Nat),ρ=[s 0,s 4,s 63,s 64,(65,nv k)]∧Γ=[box bc (cF F [.string w1, .string nE, .string nE,iv 0]) 235,g 6,g 8,p10c,g 5,g 4,g 3,g 7]∧mz=x.vars.length-k∧(k≤x.vars.length)) ⟨⟨_,0,rfl,rfl,rfl,om⟩,sb⟩ ?_
 rintro mz _ _ ⟨w1,k,rfl,rfl,rfl,hk⟩
 refine Jz 6 ?_
 refine Jcp rfl ?_ ?_<;>intro k66
 obtain⟨y,hy⟩:=exg x.vars k om
 have htl2:(x.vars.take k).length=k:=by rw[aEe];omega
 have hs2:=Om (hcg.var y (mog hy)).1
 have hfv:=fJ x.Av x.qv (x.vars.take k) y.name none om (hT.var k y hy).1
 (try unfold vs at hfv);rw[htl2]at hfv
 refine Jz 9 ?_
 refine Jal fun b8=>?_
 refine Jz 10 ?_
 refine Jr (Io (a:=(aLy [118,97,114,105,97,98,108,101,32])) (b:=x.name) rfl rfl rfl (by first|omega|(simp only[aFa];omega))) ?_
 refine Jr (Io (a:=((aLy [118,97,114,105,97,98,108,101,32])++x.name)) (b:=(aLy [46])) rfl rfl rfl (by first|omega|(simp only[aFa];omega))) ?_
 refine Jz 2 ?_
 refine Jr (Io (a:=(((aLy [118,97,114,105,97,98,108,101,32])++x.name)++(aLy [46]))) (b:=y.name) rfl rfl rfl (by first|omega|(simp only[aFa];omega))) ?_
 refine Jcf [1] (nD bc F w1 ((((aLy [118,97,114,105,97,98,108,101,32])++x.name)++(aLy [46]))++y.name)) ?_
 rintro _ _ ⟨rfl,rfl⟩
 refine Jz 7 ?_
 refine To.take k 5 rfl (Jfw [] [0,2,4,101,3,105,306,7,8,9,210,11511,12] (ocn _) ?_)
 refine Jz 4 ?_
 refine Fw.f rfl (Eo (hi:=k) rfl aAg rfl rfl om) ?_
 refine Jz 1 ?_
 refine Fw.qf (hfv) (ocs (oca 0 rfl) (ocn _)) ?_
 refine Jz 3 ?_
 refine Fw.mk rfl rfl rfl rfl rfl (Mk.alloc rfl aDd) ?_
 rintro _ _ ⟨b9,rfl,rfl⟩
 refine Fw.up rfl rfl rfl (Bl (i:=0) rfl rfl rfl QK rfl rfl rfl (bta rfl)) (ocn _) ?_
 refine Jz 3 ?_
 refine Jfw [] [0,1,2,3,4,5,6,7,9,14,108,110,311,12,13,115,516] (ocn _) ?_
 refine Jz 12 ?_
 refine Fw.qf (Tx F.Af F.qf F.flags y.name none om (hT.var k y hy).2) (ocs (oca 8 rfl) (ocn _)) ?_
 refine Jz 3 ?_
 refine Da [2] (Ia bc F ((((aLy [118,97,114,105,97,98,108,101,32])++x.name)++(aLy [46]))++y.name) y.name 5) ?_
 rintro _ _ ⟨rfl,rfl⟩
 refine⟨ocn _,?_⟩
 refine Jz 8 ?_
 refine Cg ⟨⟨((((aLy [118,97,114,105,97,98,108,101,32])++x.name)++(aLy [46]))++y.name),k+1,rfl,rfl,rfl,om⟩,sb⟩
 refine Jz 14 ?_
 refine Lf (fun s g mz ρ Γ=>∃(w2:ByteArray) (n:Nat),ρ=[s 0,s 4,s 109,s 110,(111,nv n)]∧Γ=[box bc (cF F [.string w2, .string nE, .string nE,iv 0]) 235,g 1,g 2,p10c,g 4,g 5,g 6,g 7]∧mz=x.vers.length-n∧(n≤x.vers.length)) ⟨⟨_,0,rfl,rfl,rfl,om⟩,sb⟩ ?_
 rintro mz _ _ ⟨w2,n,rfl,rfl,rfl,hn⟩
 refine Jz 6 ?_
 refine Jcp rfl ?_ ?_<;>intro k112
 obtain⟨v,hv⟩:=exg x.vers n om
 have hvm:=mog hv
 have hvg:=hcg.ver v hvm
 have hvl:=hvg.1
 have hcn:=hCc.2 v hvm
 have hvq:=hcn.1
 refine Jz 9 ?_
 refine Jal fun b12=>?_
 refine Jz 5 ?_
 refine To.one 3 rfl (ros Me v.A v.l) rfl (Fj hx _ (Ky hv _ Wl)) (Jz 8 ?_)
 refine Cw (fun s g mz ρ Γ=>∃(w3:ByteArray) (m:Nat),ρ=[s 0,s 4,s 109,s 110,s 111,s 11,s 12,s 117,s 118,(119,nv m)]∧Γ=[box bc (cF F [.string w3, .string nE, .string nE,iv 0]) 235,g 3,g 4,p10c,g 6,g 7,g 8,g 9,g 0,g 1]∧mz=v.l.length-m∧(m≤v.l.length)) ⟨⟨_,0,rfl,rfl,rfl,om⟩,sb⟩ ?_
 rintro mz _ _ ⟨w3,m,rfl,rfl,rfl,hm⟩
 refine Jz 6 ?_
 refine Jcp rfl ?_ ?_<;>intro k120
 obtain⟨h,hh⟩:=exg v.l m om
 have hhm:=mog hh
 have hg:=hvg.2 h hhm
 have hs3:=Om hg.nm
 obtain⟨hd1,hd2,hd3⟩:=hT.hd n v hv m h hh
 have hhq:=hcn.2 h hhm
 have hit:(BA (Lib.itoa (((n+1:Nat):Nat):Int))).size≤20:=by rw[BA_size];exact hil2 n om
 refine Jz 9 ?_
 refine Jal fun b14=>?_
 refine Jz 6 ?_
 refine Jfw [] [0,1,5,9,10,311,102,3,4,106,7,8,12,513,14] (ocn _) ?_
 refine Jz 5 ?_
 refine Fw.qf (itoa_fn (((n+1:Nat):Nat):Int) om om) (ocs (oca 4 rfl) (ocn _)) ?_
 refine Jz 1 ?_
 refine Fw.f rfl (Io (a:=(aLy [104,97,110,100,108,101,114,32])) (b:=x.name) rfl rfl rfl (by first|omega|(simp only[aFa];omega))) ?_
 refine Fw.f rfl (Io (a:=((aLy [104,97,110,100,108,101,114,32])++x.name)) (b:=(aLy [46])) rfl rfl rfl (by first|omega|(simp only[aFa];omega))) ?_
 refine Jz 1 ?_
 refine Fw.f rfl (Io (a:=(((aLy [104,97,110,100,108,101,114,32])++x.name)++(aLy [46]))) (b:=h.name) rfl rfl rfl (by first|omega|(simp only[aFa];omega))) ?_
 refine Fw.f rfl (Io (a:=((((aLy [104,97,110,100,108,101,114,32])++x.name)++(aLy [46]))++h.name)) (b:=(aLy [32])) rfl rfl rfl (by first|omega|(simp only[aFa];omega))) ?_
 refine Fw.f rfl (Io (a:=(((((aLy [104,97,110,100,108,101,114,32])++x.name)++(aLy [46]))++h.name)++(aLy [32]))) (b:=(BA (Lib.itoa (((n+1:Nat):Nat):Int)))) rfl rfl rfl (by first|omega|(simp only[aFa];omega))) ?_
 refine Da [1] (nD bc F w3 ((((((aLy [104,97,110,100,108,101,114,32])++x.name)++(aLy [46]))++h.name)++(aLy [32]))++(BA (Lib.itoa (((n+1:Nat):Nat):Int))))) ?_
 rintro _ _ ⟨rfl,rfl⟩
 refine⟨ocn _,?_⟩
 refine Jz 7 ?_
 refine Db 3 rfl (v.kids eX) (Vs.lax eX v) (fun z hz=>Fj hx _ (Ky hv _ hz)) (Pp [] [⟨0,[],0⟩,⟨2,[],0⟩,⟨6,[],0⟩,⟨1,[],1⟩,⟨3,[],0⟩,⟨4,[],0⟩,⟨5,[],2⟩,⟨7,[],1⟩,⟨8,[5],4⟩,⟨9,[5,8],0⟩,⟨10,[5,8],0⟩,⟨11,[5,8],0⟩,⟨12,[],2⟩,⟨13,[5,8,12],5⟩,⟨14,[],0⟩] mixed.h (by kernel_rfl) (ocn _) (Jz 4 ?_))
 refine Fw.f rfl (Eo (hi:=m) rfl WS rfl rfl om) ?_
 refine Fw.f rfl (.bd [.slice v.A m v.q]) ?_
 refine Es [.slice v.A m v.q] fun b145=>?_
 refine Jz 1 ?_
 refine Gj rfl rfl rfl rfl rfl .fc (GN v m h.name om hvl hd1) (by show owns (v.kids eX)++[]=[];rw[(v.lax eX).owns];rfl) (ocs (Ht 0 rfl) (ocs (oca 1 rfl) (ocn _))) ?_
 rintro _ _ ⟨rfl,rfl⟩
 refine⟨rfl,?_⟩
 refine Jz 3 ?_
 refine Fw.mk rfl rfl rfl rfl rfl (Mk.alloc rfl aAq) ?_
 rintro _ _ ⟨b15,rfl,rfl⟩
 refine Fw.up rfl rfl rfl (Bl (i:=0) rfl rfl rfl QL rfl rfl rfl (bta rfl)) (ocn _) ?_
 refine Jz 10 ?_
 refine Jcf [3] (Ia bc F ((((((aLy [104,97,110,100,108,101,114,32])++x.name)++(aLy [46]))++h.name)++(aLy [32]))++(BA (Lib.itoa (((n+1:Nat):Nat):Int)))) h.name 5) ?_
 rintro _ _ ⟨rfl,rfl⟩
 refine Jz 3 ?_
 have htl3:(x.vers.take n).length=n:=by rw[aEe];omega
 obtain⟨o,ho⟩:∃o,fdH (x.vers.take n) h.name=o:=⟨_,rfl⟩
 have hso:o.isSome=true→(o.getD zH).ps.length=h.ps.length:=fun e=>by
  obtain⟨h',rfl⟩:=Option.isSome_iff_exists.1 e
  exact hd2 h' ho
 have hcl:=kC x.An x.qn (x.vers.take n) h.name o om (fun y hy=>(hcg.ver y (aFy hy)).1) ho
 (try unfold vs at hcl);rw[htl3]at hcl
 refine To.take n 10 rfl ?_
 refine Db 7 rfl ((x.vers.take n).flatMap (Vs.kids eX)) (Hm fun h _=>Vs.lax eX h) (fun z hz=>by
     obtain⟨y,hy,hz⟩:=aEy.1 hz
     obtain⟨j,hj⟩:=aFt (aFy hy)
     exact Fj hx _ (Ky hj _ hz)) ?_
 refine Pp [] [⟨0,[],0⟩,⟨2,[],0⟩,⟨4,[],0⟩,⟨1,[],1⟩,⟨3,[],0⟩,⟨5,[],1⟩,⟨6,[],4⟩,⟨7,[6],0⟩,⟨8,[6],0⟩,⟨9,[6],0⟩,⟨10,[],2⟩,⟨11,[6,10],5⟩,⟨12,[],0⟩] mixed.h (by kernel_rfl) (ocn _) (Jz 4 ?_)
 refine Fw.f rfl (Eo (hi:=n) rfl aAh rfl rfl om) ?_
 refine Jz 1 ?_
 refine Gj rfl rfl rfl rfl rfl .fc (hcl) (by show owns ((x.vers.take n).flatMap (Vs.kids eX))++[]=[];rw[(Hm (k:=Vs.kids eX) (l:=x.vers.take n) fun h _=>Vs.lax eX h).owns];rfl) (ocs (oca 1 rfl) (ocs (oca 0 rfl) (ocn _))) ?_
 rintro _ _ ⟨rfl,rfl⟩
 refine⟨rfl,?_⟩
 refine Jz 3 ?_
 refine Fw.mk rfl rfl rfl rfl rfl (Mk.alloc rfl aAq) ?_
 rintro _ _ ⟨b17,rfl,rfl⟩
 refine Fw.up rfl rfl rfl (Bl (i:=0) rfl rfl rfl QL rfl rfl rfl (bta rfl)) (ocn _) ?_
 refine Jz 8 ?_
 refine JgB ?_ ?_<;>intro g170
 refine Jz 10 ?_
 refine Jcf [3] (Ia bc F ((((((aLy [104,97,110,100,108,101,114,32])++x.name)++(aLy [46]))++h.name)++(aLy [32]))++(BA (Lib.itoa (((n+1:Nat):Nat):Int)))) h.name 10) ?_
 rintro _ _ ⟨rfl,rfl⟩
 refine Jn (Ot [(0,pv bc),(4,pv b4),(109,vs x.An x.vers x.qn),(110,nv x.vers.length),(111,nv n),(11,nv n),(12,pv b12),(117,vs v.A v.l v.q),(118,nv v.l.length),(119,nv m),(120, .bool (decide (((m:Nat):Int)<((v.l.length:Nat):Int)))),(14,pv b14),(13,nv m),(138, .bool false),(16, .bool o.isSome),(17,pv b17)] sb (Jt (Px 10 rfl rfl (Db 10 rfl (F.kids eX) (Fl.lax eX F) (fun c hc=>hc) (Jfw [] [0,3,4,305,6,101,102,507] (ocn _) ?_)))))
 refine Jz 3 ?_
 refine Fw.qf (itoa_fn (((n+1:Nat):Nat):Int) om om) (ocs (oca 1 rfl) (ocn _)) ?_
 refine Fw.f rfl (Io (a:=(aLy [32])) (b:=(BA (Lib.itoa (((n+1:Nat):Nat):Int)))) rfl rfl rfl (by first|omega|(simp only[aFa];omega))) ?_
 refine Jz 2 ?_
 refine Da [2,0,0] (uP bc F hF hCap i x hx hcg n v hv m h hh hg hd3 ⟨hF.flags,hcg.vars,hg.ps⟩ hhq ((((((aLy [104,97,110,100,108,101,114,32])++x.name)++(aLy [46]))++h.name)++(aLy [32]))++(BA (Lib.itoa (((n+1:Nat):Nat):Int)))) ((aLy [32])++(BA (Lib.itoa (((n+1:Nat):Nat):Int)))) (by simp only[aFa];omega)) ?_
 rintro _ _ ⟨w2,rfl,rfl⟩
 refine⟨ocn _,?_⟩
 refine Jz 8 ?_
 refine Cg ⟨⟨w2,m+1,rfl,rfl,rfl,om⟩,sb⟩
 refine Jz 6 ?_
 refine Jr (Cr (v':= .bool true) (congrArg Value.bool (aEk (by have:=hso (by simpa using g170);omega))) (Rd.eql rfl rfl rfl)) ?_
 refine Jz 3 ?_
 refine Jcf [3] (Ia bc F ((((((aLy [104,97,110,100,108,101,114,32])++x.name)++(aLy [46]))++h.name)++(aLy [32]))++(BA (Lib.itoa (((n+1:Nat):Nat):Int)))) h.name 10) ?_
 rintro _ _ ⟨rfl,rfl⟩
 refine Jn (Ot [(0,pv bc),(4,pv b4),(109,vs x.An x.vers x.qn),(110,nv x.vers.length),(111,nv n),(11,nv n),(12,pv b12),(117,vs v.A v.l v.q),(118,nv v.l.length),(119,nv m),(120, .bool (decide (((m:Nat):Int)<((v.l.length:Nat):Int)))),(14,pv b14),(13,nv m),(138, .bool false),(16, .bool o.isSome),(17,pv b17)] sb (Jt (Px 10 rfl rfl (Db 10 rfl (F.kids eX) (Fl.lax eX F) (fun c hc=>hc) (Jfw [] [0,3,4,305,6,101,102,507] (ocn _) ?_)))))
 refine Jz 3 ?_
 refine Fw.qf (itoa_fn (((n+1:Nat):Nat):Int) om om) (ocs (oca 1 rfl) (ocn _)) ?_
 refine Fw.f rfl (Io (a:=(aLy [32])) (b:=(BA (Lib.itoa (((n+1:Nat):Nat):Int)))) rfl rfl rfl (by first|omega|(simp only[aFa];omega))) ?_
 refine Jz 2 ?_
 refine Da [2,0,0] (uP bc F hF hCap i x hx hcg n v hv m h hh hg hd3 ⟨hF.flags,hcg.vars,hg.ps⟩ hhq ((((((aLy [104,97,110,100,108,101,114,32])++x.name)++(aLy [46]))++h.name)++(aLy [32]))++(BA (Lib.itoa (((n+1:Nat):Nat):Int)))) ((aLy [32])++(BA (Lib.itoa (((n+1:Nat):Nat):Int)))) (by simp only[aFa];omega)) ?_
 rintro _ _ ⟨w2,rfl,rfl⟩
 refine⟨ocn _,?_⟩
 refine Jz 8 ?_
 refine Cg ⟨⟨w2,m+1,rfl,rfl,rfl,om⟩,sb⟩
 refine Jz 11 ?_
 refine Cg ⟨⟨w3,n+1,rfl,rfl,rfl,om⟩,sb⟩
 refine Jz 4 ?_
 refine Xp (Lj (Iu (Er (Dl (Cu (Df (Co (.inr rfl) results89 ?_)))))))
 exact⟨_,rfl,rfl⟩
theorem GQ(F:Fl)(hF:Ol F)(hCap:F.Cap)(hT:TyF F):
    Dz 53 [.agg (cF F []).toArray] [all (F.kids eX),glc,p10c] (fun v Γ'=>v= .tuple #[.agg #[.string nE, .string nE,iv 0],iv 0]∧Γ'=[]):=by
 have hFc:=hF.comps
 refine Am func53 ntmps53 fun w0=>?_
 refine Js (To.g (Jbo fun b1=>?_))
 refine Jal fun b2=>?_
 refine Jz 6 ?_
 refine Jr (.bd (cF F [.string (aLy [102,108,101,101,116]), .string bE, .string bE,iv 0])) ?_
 refine Jbo fun b8=>?_
 refine Jz 4 ?_
 refine Jfw [] [0,3,101,402,104,3505] (ocn _) ?_
 refine Jz 3 ?_
 refine Gj rfl rfl rfl rfl rfl .fc (nA F hF) (by show owns (F.kids eX)++(owns gl++[])=[];rw[(Fl.lax eX F).owns];rfl) (ocs (oca 3 rfl) (ocs (oca 4 rfl) (ocn _))) ?_
 rintro _ _ ⟨rfl,rfl⟩
 refine⟨rfl,?_⟩
 refine Jz 1 ?_
 refine Da [0] (bV b8 F (aLy [102,108,101,101,116]) F.name) ?_
 rintro _ _ ⟨rfl,rfl⟩
 refine⟨ocn _,?_⟩
 refine Jz 3 ?_
 refine Db 3 rfl (F.kids eX) (Fl.lax eX F) (fun c hc=>hc) (Jz 2 ?_)
 refine Jcf [1,0] (MR b8 F hF hCap hT (aLy [102,108,101,101,116])) ?_
 rintro _ _ ⟨w2,rfl,rfl⟩
 refine Jz 3 ?_
 refine Db 3 rfl (F.kids eX) (Fl.lax eX F) (fun c hc=>hc) (Jz 2 ?_)
 refine Jcf [1,0] (MS b8 F hF hCap hT w2) ?_
 rintro _ _ ⟨w2_2,rfl,rfl⟩
 refine Jz 12 ?_
 refine Cw (fun s g mz ρ Γ=>∃(ww:ByteArray) (k:Nat),ρ=[s 2,s 3,s 4,s 21,(22,nv k)]∧Γ=[box b8 (cF F [.string ww, .string nE, .string nE,iv 0]) 235,g 3,p10c,g 1]∧mz=F.comps.length-k∧(k≤F.comps.length)) ⟨⟨_,0,rfl,rfl,rfl,om⟩,sb⟩ ?_
 rintro mz _ _ ⟨ww,k,rfl,rfl,rfl,hk⟩
 refine Jz 6 ?_
 refine Jcp rfl ?_ ?_<;>intro k23
 obtain⟨x,hx⟩:∃x,F.comps[k]?=some x:=⟨_,gge om⟩
 refine Jz 10 ?_
 refine Px 2 rfl rfl (Db 2 rfl (F.kids eX) (Fl.lax eX F) (fun c hc=>hc) (Jz 3 ?_))
 refine Jcf [2,0,0] (TQ b8 F hF hCap k x hx (hF.comp x (mog hx)) (hT.comp k x hx) ww) ?_
 rintro _ _ ⟨w2_3,rfl,rfl⟩
 refine Jz 8 ?_
 refine Hu ⟨⟨w2_3,k+1,rfl,rfl,rfl,om⟩,sb⟩
 refine Jz 6 ?_
 refine Jfw [box b8 (cF F [.string ww, .string nE, .string nE,iv 0]) 235] [0,1,2,3,4,5,6,7,8,509,10] (ocs (oca 0 rfl) (ocn _)) ?_
 refine Jz 3 ?_
 refine Fw.f rfl (Ij (i:=0) (us:=[.string nE, .string nE,iv 0]) rfl rfl WR rfl (Fh (n:=3) rfl) rfl) ?_
 refine Jz 5 ?_
 refine Fw.up rfl rfl rfl (Bl (i:=3) rfl rfl rfl WR rfl rfl rfl (bta rfl)) (ocs (oca 0 rfl) (ocn _)) ?_
 refine Jz 4 ?_
 refine Lp [] rfl (.inl rfl) results53 rfl (i:=3) rfl WR rfl rfl ?_
 exact⟨rfl,rfl⟩
end Go.Proofs.YtlihklladkagpaaGreatDoor
