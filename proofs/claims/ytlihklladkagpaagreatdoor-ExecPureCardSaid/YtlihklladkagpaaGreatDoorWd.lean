/- Own text. -/
import Derived.Test.YtlihklladkagpaaGreatDoorWc
set_option maxHeartbeats 8000000
set_option maxRecDepth 100000
set_option linter.unusedVariables false
set_option linter.unusedSimpArgs false
namespace Go.Proofs.YtlihklladkagpaaGreatDoor
open Go.Proofs.Tryz
open Go.RowKit Go.Flow Go.Mem Go.Sep Go.In
structure Stl where
 own:Nat
 A1:OA
 n1:Nat
 q1:Nat
 A2:OA
 n2:Nat
 q2:Nat
 A3:OA
 n3:Nat
 q3:Nat
 A4:OA
 n4:Nat
 q4:Nat
 A5:OA
 n5:Nat
 q5:Nat
def hkids(F:Fl)(Ah:OA)(hs:List HN):List Chunk:=ros encHN Ah hs::ros encC F.Ac F.comps::hs.map (fun h=>ros encZ h.A h.l)
theorem hkids_lax(F:Fl)(Ah:OA)(hs:List HN):Lax (hkids F Ah hs):=Lax.cons rfl (Lax.cons rfl (by rw[map_flat];exact Lax.flat fun h _=>ros_lax))
theorem hkids_hn{F:Fl}{Ah:OA}{hs:List HN}{i:Nat}{h:HN}(hh:hs[i]?=some h):ros encZ h.A h.l∈hkids F Ah hs:=List.mem_cons_of_mem _ (List.mem_cons_of_mem _ (List.mem_map.2 ⟨h,mog hh,rfl⟩))
theorem hkids_hs{F:Fl}{Ah:OA}{hs:List HN}:ros encHN Ah hs∈hkids F Ah hs:=List.mem_cons_self ..
theorem varN_snoc{l:List Vr}{k:Nat}{y:Vr}(h:l[k]?=some y)(tab:Bool):varN (l.take (k+1)) tab=varN (l.take k) tab++(if decide (y.ty=3)==tab then [y.name]else []):=by
 rw[take_of_get h];unfold varN
 rw[List.filter_append,List.map_append]
 congr 1
 cases e:decide (y.ty=3)==tab
 ·rw[List.filter_cons_of_neg (by simpa using e)];rfl
 ·rw[List.filter_cons_of_pos (by simpa using e)];rfl
theorem varN_le(l:List Vr)(tab:Bool):(varN l tab).length≤l.length:=by unfold varN;rw[List.length_map];exact List.length_filter_le ..
theorem fndH_snoc(s:ByteArray)(o:Option Hd){l:List Hd}{m:Nat}{y:Hd}(h:l[m]?=some y):fndH s o (l.take (m+1))=if y.name=s then some y else fndH s o (l.take m):=by
 rw[take_of_get h];unfold fndH;rw[List.foldl_append];rfl
theorem fndV_snoc(s:ByteArray)(o:Option Hd){l:List Vs}{j:Nat}{v:Vs}(h:l[j]?=some v):fndV s o (l.take (j+1))=fndH s (fndV s o (l.take j)) v.l:=by
 rw[take_of_get h];unfold fndV;rw[List.foldl_append];rfl
def UAt(F:Fl)(c:Cm)(u:PU)(b:Bool):Option Hd→Prop
 |none=>u=zPU∧b=false
 |some h=>b=true∧∃A q,u=puOf F c h A q
structure UInv(F:Fl)(c:Cm)(names:List ByteArray)(o:ByteArray→Option Hd)(U:List PU)(B:List Bool):Prop where
 u:U.length=names.length
 b:B.length=names.length
 at_:∀(k:Nat) (s:ByteArray),names[k]?=some s→∃u b,U[k]?=some u∧B[k]?=some b∧UAt F c u b (o s)
section
variable{F:Fl}{c:Cm}{names:List ByteArray}{o o':ByteArray→Option Hd}{U:List PU}{B:List Bool}
theorem UInv.init:UInv F c names (fun _=>none) (List.replicate names.length zPU) (List.replicate names.length false):=⟨List.length_replicate ..,List.length_replicate ..,fun k s h=>by
 have hk:=(List.getElem?_eq_some_iff.1 h).1
 exact⟨zPU,false,by rw[List.getElem?_replicate,if_pos hk],by rw[List.getElem?_replicate,if_pos hk],rfl,rfl⟩⟩
theorem UInv.congr(h:UInv F c names o U B)(e:∀s,o' s=o s):UInv F c names o' U B:=by
 obtain rfl:o'=o:=funext e
 exact h
theorem UInv.step{nn m:Nat}{y:Hd}{A:OA}{q:Nat}(h:UInv F c names o U B)(hn:names=nms 104 nn)(hnn:nn≤3)(hy:y.name=nm 104 m)(hm:m<nn)(e:∀s,o' s=if y.name=s then some y else o s):UInv F c names o' (U.set m (puOf F c y A q)) (B.set m true):=by
 have hln:names.length=nn:=by rw[hn,nms_len]
 refine⟨by rw[List.length_set];exact h.u,by rw[List.length_set];exact h.b,fun k s hk=>?_⟩
 have hkl:=(List.getElem?_eq_some_iff.1 hk).1
 have hs:s=nm 104 k:=by rw[hn,nms_get om]at hk;exact(Option.some.inj hk).symm
 have hu:=h.u
 have hb:=h.b
 by_cases e1:m=k
 · subst e1
   refine⟨puOf F c y A q,true,List.getElem?_set_self om,List.getElem?_set_self om,?_⟩
   rw[e,if_pos (by rw[hy,hs])]
   exact⟨rfl,A,q,rfl⟩
 · obtain⟨u,b,h1,h2,h3⟩:=h.at_ k s hk
   refine⟨u,b,by rw[List.getElem?_set_ne e1];exact h1,by rw[List.getElem?_set_ne e1];exact h2,?_⟩
   rw[e,if_neg (fun e2=>?_)]
   ·exact h3
   · rw[hy,hs]at e2
     exact e1 (nm_inj (by decide) (by decide) om om e2).2
end
def UsInv(F:Fl)(c:Cm)(names:List ByteArray)(us:List PV)(fs:List PB):Prop:=∀(i:Nat) (v:PV) (b:PB),us[i]?=some v→fs[i]?=some b→UInv F c names (fun s=>fndV s none (c.vers.take (i+1))) v.l b.l
theorem UsInv.push{F:Fl}{c:Cm}{names:List ByteArray}{us:List PV}{fs:List PB}{j:Nat}{v:PV}{b:PB}(h:UsInv F c names us fs)(hu:us.length=j)(hf:fs.length=j)(hv:UInv F c names (fun s=>fndV s none (c.vers.take (j+1))) v.l b.l):UsInv F c names (us++[v]) (fs++[b]):=fun i v' b' h1 h2=>by
 by_cases e:i<j
 · rw[List.getElem?_append_left om]at h1 h2
   exact h i v' b' h1 h2
 · have hl:=(List.getElem?_eq_some_iff.1 h1).1
   rw[lap]at hl
   have hl:i<us.length+1:=hl
   obtain rfl:i=j:=om
   rw[List.getElem?_append_right om]at h1 h2
   rw[hu,Nat.sub_self]at h1
   rw[hf,Nat.sub_self]at h2
   obtain rfl:v=v':=by simpa using h1
   obtain rfl:b=b':=by simpa using h2
   exact hv
structure PPOk(F:Fl)(c:Cm)(p:PP):Prop where
 names:p.names=hnames (c.vers.map Vs.pure)
 ul:p.us.length=c.vers.length
 fl:p.fs.length=c.vers.length
 inv:UsInv F c p.names p.us p.fs
structure CmW(c:Cm)(nn:Nat):Prop where
 hn:hnames (c.vers.map Vs.pure)=nms 104 nn
 n3:nn≤3
 each:∀v∈c.vers,∀(m:Nat) (y:Hd),v.l[m]?=some y→y.name=nm 104 m∧m<nn
theorem cmW{F:Fl}(h:GoodF F.pure){ci:Nat}{c:Cm}(hc:F.comps[ci]?=some c):∃nn,CmW c nn:=by
 obtain⟨ct,ar,ok⟩:=h.okC (pure_comp hc)
 have har:=ok.ok.each ar (mog ok.arr)
 refine⟨ar.length,ok.hn,har.2.1,fun v hv m y hy=>?_⟩
 have gv:=ok.vers v.pure (List.mem_map.2 ⟨v,hv,rfl⟩)
 have gh:=gv.2.2 m y.pure (by show(v.l.map Hd.pure)[m]?=_;rw[List.getElem?_map,hy];rfl)
 have hpl:v.pure.length=v.l.length:=List.length_map ..
 exact⟨gh.name,by have h2:=gv.2.1;have h3:m<v.l.length:=(List.getElem?_eq_some_iff.1 hy).1;omega⟩
theorem kUs_set{U:List PU}{m:Nat}{u:PU}:∀c∈kUs (U.set m u),c∈ros Ins.cells u.A u.l::kUs U:=fun c hc=>by
 obtain⟨u',hu,hc⟩:=List.mem_flatMap.1 hc
 obtain rfl:=List.mem_singleton.1 hc
 rcases List.mem_or_eq_of_mem_set hu with h|rfl
 ·exact List.mem_cons_of_mem _ (List.mem_flatMap.2 ⟨u',h,List.mem_cons_self ..⟩)
 ·exact List.mem_cons_self ..
section
variable{C:Cx}{ρ:Slots}{Γ:List Chunk}{K:Act→World→Prop}
theorem JzerosU:∀(n:Nat),To C ρ (all (kUs (List.replicate n zPU))::Γ) K→To C ρ Γ K
 |0,k=>JallNil k
 |n+1,k=>JzerosU n (JnilRow (enc:=Ins.cells) (e:=0) (size:=4) (JlayRow (JallCons k)))
end
def ClR{α:Type}(enc:α→List Value)(t:TypeId)(size:Nat)(l:List α):Value→List Chunk→Prop:=fun v Γ'=>∃(B:OA) (p:Nat),v=vs B l p∧Γ'=[rows enc t size B p l]
def kPB(b:PB):List Chunk:=[ros encBo b.A b.l]
theorem ccomp_fn(F:Fl)(hF:GoodF F.pure)(hF0:GoodX F)(ci:Nat)(c:Cm)(hc:F.comps[ci]?=some c)(hcg:c.Good)(hT:TyC F ci c)(nn:Nat)(hW:CmW c nn)(Ah:OA)(qh:Nat)(hs:List HN)(hn:HN)(hhn:hs[ci]?=some hn)(hnl:hn.l=nms 104 nn)(hhs:hs.map HN.l=F.comps.map fun c=>hnames (c.vers.map Vs.pure))(hh12:∀h∈hs,h.l.length≤12)(cb:Nat)(z:Stl):
    Dz 55 [pv cb,nv ci] [box cb (cF F [vs Ah hs qh,nv z.own, .slice z.A1 z.n1 z.q1, .slice z.A2 z.n2 z.q2, .slice z.A3 z.n3 z.q3, .slice z.A4 z.n4 z.q4, .slice z.A5 z.n5 z.q5]) 171,all (hkids F Ah hs),all (F.kids eX),tabC] (fun v Γ'=>∃(p:PP) (z':Stl),v= .agg (encPP p).toArray∧Γ'=[box cb (cF F [vs Ah hs qh,nv z'.own, .slice z'.A1 z'.n1 z'.q1, .slice z'.A2 z'.n2 z'.q2, .slice z'.A3 z'.n3 z'.q3, .slice z'.A4 z'.n4 z'.q4, .slice z'.A5 z'.n5 z'.q5]) 171,all p.kids]∧PPOk F c p):=by
 have hFf:=hF0.flags
 have hcv:=hcg.vars
 have hcn:=hcg.vers2
 refine Does.en func55 ntmps55 fun w0=>?_
 refine Js (To.g (Jal fun b4=>?_))
 refine Jz 3 ?_
 refine To.one 3 rfl (ros encC F.Ac F.comps) rfl (Fl.comps_k (k:=eX)) (Jz 9 ?_)
 refine Jal fun b5=>?_
 refine Jz 26 ?_
 refine To.one 5 rfl (ros encFg F.Af F.flags) rfl (Fl.flags_k (k:=eX)) (Jz 11 ?_)
 refine JnilRow (enc:=encZ) (e:=9) (size:=1) (To.loP (fun s g mz ρ Γ=>∃(Az:OA) (qz:Nat) (fl:List ByteArray) (j:Nat),ρ=[s 0,s 1,s 4,s 5,s 43,s 44,(45,nv j)]∧Γ=[box cb (cF F [vs Ah hs qh,nv ci, .slice none 0 0, .slice none 0 0,vs Az fl qz, .slice z.A4 z.n4 z.q4, .slice z.A5 z.n5 z.q5]) 171,g 4,g 2,g 6,g 7,tabC,g 1,rows encZ 9 1 Az qz fl]∧mz=F.flags.length-j∧(j≤F.flags.length)∧(fl=(F.flags.take j).map Fg.name)) ⟨⟨none,0,([]:List ByteArray),0,rfl,rfl,rfl,om,rfl⟩,sb⟩ ?_)
 rintro mz _ _ ⟨Az,qz,fl,j,rfl,rfl,rfl,hj,hfl⟩
 have hfll:fl.length=j:=by rw[hfl,List.length_map,List.length_take];omega
 refine Jz 6 ?_
 refine Jcp rfl ?_ ?_<;>intro k46
 obtain⟨y,hy⟩:=exg F.flags j om
 refine Jz 8 ?_
 refine Jal fun b7=>?_
 refine Jz 3 ?_
 refine Jfw [] [0,1,2,3,5,104,106,207,8508,9,10,511] (ocn _) ?_
 refine Jz 7 ?_
 refine Fw.sn [.string y.name] fun b56=>?_
 refine Fw.ge rfl rfl rfl rfl (Ge.append1 encZ_ok (i:=9) (j:=0) (el:=y.name) rfl s37 rfl rfl rfl rfl rfl om om) ?_
 rintro _ _ ⟨A57,q57,rfl,rfl⟩
 refine⟨ocn _,?_⟩
 refine Jz 2 ?_
 refine Fw.up rfl rfl rfl (Up.store (i:=2) rfl rfl rfl c37 rfl rfl (bt1 rfl)) (ocn _) ?_
 refine Jz 8 ?_
 refine To.agP ⟨⟨A57,q57,(fl++[y.name]),j+1,rfl,rfl,rfl,om,(by rw[take_of_get hy,List.map_append,hfl];rfl)⟩,sb⟩
 refine Jz 7 ?_
 refine To.one 4 rfl (ros encVx c.Av c.vars) rfl (Fl.comp_k hc _ Cm.vars_k) (Jz 8 ?_)
 refine JnilRow (enc:=encZ) (e:=9) (size:=1) (JnilRow (enc:=encZ) (e:=9) (size:=1) (To.loP (fun s g mz ρ Γ=>∃(Av:OA) (qv:Nat) (vn:List ByteArray) (At:OA) (qt:Nat) (tn:List ByteArray) (k:Nat),ρ=[s 0,s 1,s 4,s 5,(62,vs c.Av c.vars c.qv),s 63,(64,nv k)]∧Γ=[box cb (cF F [vs Ah hs qh,nv ci,vs Av vn qv,vs At tn qt,vs Az fl qz, .slice z.A4 z.n4 z.q4, .slice z.A5 z.n5 z.q5]) 171,g 4,g 5,g 6,g 7,tabC,ros encVx c.Av c.vars,g 10,rows encZ 9 1 Av qv vn,rows encZ 9 1 At qt tn]∧mz=c.vars.length-k∧(k≤c.vars.length)∧(vn=varN (c.vars.take k) false)∧(tn=varN (c.vars.take k) true)) ⟨⟨none,0,([]:List ByteArray),none,0,([]:List ByteArray),0,rfl,rfl,rfl,om,rfl,rfl⟩,sb⟩ ?_))
 rintro mz _ _ ⟨Av,qv,vn,At,qt,tn,k,rfl,rfl,rfl,hk,hvn,htn⟩
 have hvl:=varN_le (c.vars.take k) false
 have htl:=varN_le (c.vars.take k) true
 rw[←hvn,List.length_take]at hvl
 rw[←htn,List.length_take]at htl
 refine Jz 6 ?_
 refine Jcp rfl ?_ ?_<;>intro k65
 obtain⟨y,hy⟩:=exg c.vars k om
 refine Jz 8 ?_
 refine Jal fun b9=>?_
 refine Jz 10 ?_
 refine Jcp rfl ?_ ?_<;>intro k70
 refine Jfw [] [0,1,2,3,5,104,106,207,8508,9,10,511] (ocn _) ?_
 refine Jz 7 ?_
 refine Fw.sn [.string y.name] fun b78=>?_
 refine Fw.ge rfl rfl rfl rfl (Ge.append1 encZ_ok (i:=11) (j:=0) (el:=y.name) rfl s37 rfl rfl rfl rfl rfl om om) ?_
 rintro _ _ ⟨A79,q79,rfl,rfl⟩
 refine⟨ocn _,?_⟩
 refine Jz 2 ?_
 refine Fw.up rfl rfl rfl (Up.store (i:=2) rfl rfl rfl c37 rfl rfl (bt1 rfl)) (ocn _) ?_
 refine Jz 8 ?_
 refine To.agP ⟨⟨Av,qv,vn,A79,q79,(tn++[y.name]),k+1,rfl,rfl,rfl,om,(by rw[varN_snoc hy,←hvn,show(decide (y.ty=3)==false)=false from by rw[decide_eq_true om];rfl];exact(List.append_nil _).symm),(by rw[varN_snoc hy,←htn,show(decide (y.ty=3)==true)=true from by rw[decide_eq_true om];rfl];rfl)⟩,sb⟩
 refine Jfw [] [0,1,2,3,5,104,106,207,8508,9,10,511] (ocn _) ?_
 refine Jz 7 ?_
 refine Fw.sn [.string y.name] fun b89=>?_
 refine Fw.ge rfl rfl rfl rfl (Ge.append1 encZ_ok (i:=10) (j:=0) (el:=y.name) rfl s37 rfl rfl rfl rfl rfl om om) ?_
 rintro _ _ ⟨A90,q90,rfl,rfl⟩
 refine⟨ocn _,?_⟩
 refine Jz 2 ?_
 refine Fw.up rfl rfl rfl (Up.store (i:=2) rfl rfl rfl c37 rfl rfl (bt1 rfl)) (ocn _) ?_
 refine Jz 8 ?_
 refine To.agP ⟨⟨A90,q90,(vn++[y.name]),At,qt,tn,k+1,rfl,rfl,rfl,om,(by rw[varN_snoc hy,←hvn,show(decide (y.ty=3)==false)=true from by rw[decide_eq_false om];rfl];rfl),(by rw[varN_snoc hy,←htn,show(decide (y.ty=3)==true)=false from by rw[decide_eq_false om];rfl];exact(List.append_nil _).symm)⟩,sb⟩
 refine Jz 6 ?_
 refine To.one 3 rfl (ros encHN Ah hs) rfl (hkids_hs) (Jz 8 ?_)
 refine Jr (.bd [vs hn.A hn.l hn.q, .slice none 0 0, .slice none 0 0]) ?_
 refine Jal fun b10=>?_
 refine Jz 4 ?_
 have hflE:fl=F.flags.map Fg.name:=by rw[hfl,List.take_of_length_le om]
 have hvnE:vn=varN c.vars false:=by rw[hvn,List.take_of_length_le om]
 have htnE:tn=varN c.vars true:=by rw[htn,List.take_of_length_le om]
 refine Jpart 5 rfl (hkids F Ah hs) (hkids_lax F Ah hs) (fun z hz=>hz) (Jup10 (JlayRow (JallCons (Jup11 (JlayRow (JallCons (Jup10 (JlayRow (JallCons (JnilRow (enc:=encZ) (e:=9) (size:=1) (JlayRow (JallCons ?_))))))))))))
 have hCp:CpOk F ci c (⟨Ah,qh,hs,ci,Av,qv,vn,At,qt,tn,Az,qz,fl,none,0,[]⟩:Cp):=⟨hhs,rfl,hvnE,htnE,hflE⟩
 have hhl:=congrArg List.length hhs
 rw[List.length_map,List.length_map]at hhl
 have hFc:=hF0.comps
 have hCl:Cp.Low F (⟨Ah,qh,hs,ci,Av,qv,vn,At,qt,tn,Az,qz,fl,none,0,[]⟩:Cp):=⟨Nat.zero_le _,by show vn.length≤12;omega,by show tn.length≤12;omega,by show fl.length≤12;omega,by omega,hhl,(List.getElem?_eq_some_iff.1 hhn).1,hh12⟩
 have hnl3:hn.l.length≤3:=by rw[hnl,nms_len];exact hW.n3
 refine Jflow [] [⟨0,[],0⟩,⟨4,[],0⟩,⟨1,[],1⟩,⟨2,[],0⟩,⟨3,[],2⟩,⟨8,[3],0⟩,⟨5,[],1⟩,⟨6,[],0⟩,⟨7,[],2⟩,⟨9,[3,7],0⟩] mixed.h (by kernel_rfl) (ocn _) (Jz 4 ?_)
 refine Fw.mk rfl rfl rfl rfl rfl (Mk.makeRowsN (enc:=encPU) (z:=zPU) (n:=hn.l.length) rfl (by decide) rfl s197 rfl rfl om (by simp only[maxLen];omega)) ?_
 rintro _ _ ⟨b105,rfl,rfl⟩
 refine Jz 3 ?_
 refine Fw.mk rfl rfl rfl rfl rfl (Mk.makeRows (enc:=encBo) (z:=false) (n:=hn.l.length) rfl rfl s61 rfl rfl om (by simp only[maxLen];omega)) ?_
 rintro _ _ ⟨b109,rfl,rfl⟩
 refine Jz 5 ?_
 refine To.one 9 rfl (ros encVs c.An c.vers) rfl (Fl.comp_k hc _ Cm.vers_k) (Jz 8 ?_)
 refine JnilRow (enc:=encPV) (e:=197) (size:=1) (JnilRow (enc:=encPB) (e:=61) (size:=1) (JallNil (JallNil (JzerosU hn.l.length (To.loP (fun u g mz ρ Γ=>∃(Ax:OA) (nx:Nat) (qx:Nat) (Ay:OA) (ny:Nat) (qy:Nat) (U:List PU) (B:List Bool) (us:List PV) (Au:OA) (qu:Nat) (fs:List PB) (Ag:OA) (qg:Nat) (j:Nat),ρ=[u 0,u 1,u 4,u 5,u 10,(11,vs (some ⟨b105,0,none⟩) U hn.l.length),(12,vs (some ⟨b109,0,none⟩) B hn.l.length),u 111,u 112,(113,nv j)]∧Γ=[box cb (cF F [vs Ah hs qh,nv ci,vs Av vn qv,vs At tn qt,vs Az fl qz, .slice Ax nx qx, .slice Ay ny qy]) 171,g 8,g 12,g 13,g 14,g 15,tabC,g 5,box b10 [vs hn.A hn.l hn.q,vs Au us qu,vs Ag fs qg] 183,rows encPU 43 3 (some ⟨b105,0,none⟩) hn.l.length U,rows encBo 4 1 (some ⟨b109,0,none⟩) hn.l.length B,all (kUs U),rows encPV 197 1 Au qu us,rows encPB 61 1 Ag qg fs,all (us.flatMap PV.kids),all (fs.flatMap kPB)]∧mz=c.vers.length-j∧(j≤c.vers.length)∧(us.length=j)∧(fs.length=j)∧(UInv F c hn.l (fun s=>fndV s none (c.vers.take j)) U B)∧(UsInv F c hn.l us fs)) ⟨⟨_,_,_,_,_,_,(List.replicate hn.l.length zPU),(List.replicate hn.l.length false),([]:List PV),none,0,([]:List PB),none,0,0,rfl,rfl,rfl,om,rfl,rfl,UInv.init,(fun i v b h=>by simp at h)⟩,sb⟩ ?_)))))
 rintro mz _ _ ⟨Ax,nx,qx,Ay,ny,qy,U,B,us,Au,qu,fs,Ag,qg,j,rfl,rfl,rfl,hj,hus,hfs,hI,hUs⟩
 have hUl:=hI.u
 have hBl:=hI.b
 refine Jz 6 ?_
 refine Jcp rfl ?_ ?_<;>intro k114
 obtain⟨v,hv⟩:=exg c.vers j om
 have hvm:=mog hv
 have hvg:=hcg.ver v hvm
 have hvl:=hvg.1
 refine Jz 8 ?_
 refine Jal fun b14=>?_
 refine Jz 5 ?_
 refine To.one 6 rfl (ros encH v.A v.l) rfl (Fl.comp_k hc _ (Cm.ver_k hv _ Vs.l_k)) (Jz 8 ?_)
 refine To.loP (fun u g mz ρ Γ=>∃(Ax:OA) (nx:Nat) (qx:Nat) (Ay:OA) (ny:Nat) (qy:Nat) (U:List PU) (B:List Bool) (m:Nat),ρ=[u 0,u 1,u 4,u 5,u 10,(11,vs (some ⟨b105,0,none⟩) U hn.l.length),(12,vs (some ⟨b109,0,none⟩) B hn.l.length),u 111,u 112,u 118,u 119,(120,nv m),u 113]∧Γ=[box cb (cF F [vs Ah hs qh,nv ci,vs Av vn qv,vs At tn qt,vs Az fl qz, .slice Ax nx qx, .slice Ay ny qy]) 171,g 3,g 4,g 5,g 6,g 7,tabC,g 9,g 10,rows encPU 43 3 (some ⟨b105,0,none⟩) hn.l.length U,rows encBo 4 1 (some ⟨b109,0,none⟩) hn.l.length B,all (kUs U),g 14,g 15,g 16,g 17,g 0]∧mz=v.l.length-m∧(m≤v.l.length)∧(UInv F c hn.l (fun s=>fndH s (fndV s none (c.vers.take j)) (v.l.take m)) U B)) ⟨⟨Ax,nx,qx,Ay,ny,qy,U,B,0,rfl,rfl,rfl,om,hI⟩,sb⟩ ?_
 rintro mz _ _ ⟨Ax,nx,qx,Ay,ny,qy,U,B,m,rfl,rfl,rfl,hm,hI3⟩
 have hUl:=hI3.u
 have hBl:=hI3.b
 refine Jz 6 ?_
 refine Jcp rfl ?_ ?_<;>intro k121
 obtain⟨y,hy⟩:=exg v.l m om
 have hym:=mog hy
 obtain⟨hy1,hy2⟩:=hW.each v hvm m y hy
 have hyg:=hvg.2 y hym
 obtain⟨hd1,hd2,hd3⟩:=hT.hd j v hv m y hy
 have hG:=code_ok hF hc hCp hvm hym
 have hnn:hn.l.length=nn:=by rw[hnl,nms_len]
 obtain⟨u0,b0,hu0,hb0,-⟩:=hI3.at_ m y.name (by rw[hnl,hy1];exact nms_get hy2)
 refine Jz 8 ?_
 refine Jal fun b16=>?_
 refine Jz 4 ?_
 refine To.one 5 rfl (ros encZ hn.A hn.l) rfl (hkids_hn hhn) (Jz 5 ?_)
 refine Jvf (index_fn hn.A hn.q hn.l y.name (some m) om (by rw[hnl,hy1,nms_ix (by decide) (by have:=hW.n3;omega) hy2 0,Nat.zero_add])) rfl (ocs (oca 0 rfl) (ocn _)) ?_
 refine Jz 3 ?_
 refine Jpart 7 rfl (y.kids eX) (Hd.lax eX y) (fun z hz=>Fl.comp_k hc _ (Cm.ver_k hv _ (Vs.hd_k hy _ hz))) (Jdup 9 rfl rfl (Jz 7 ?_))
 refine Jcf [4,4,1,0] (cunit_fn F c (⟨Ah,qh,hs,ci,Av,qv,vn,At,qt,tn,Az,qz,fl,none,0,[]⟩:Cp) hCl cb y hyg.ps hd3 hG Ax Ay nx qx ny qy) ?_
 rintro _ _ ⟨Ak,qk,rfl,rfl⟩
 refine Jz 1 ?_
 refine To.u (Up.storeS (i:=12) (us:=encPU (puOf F c y Ak qk)) rfl rfl rfl r43 (encPU_ok.len _) rfl rfl (rows_takes encPU_ok (by decide) om)) ?_
 refine Jz 1 ?_
 refine To.u (Up.store (i:=13) rfl rfl rfl c4 rfl rfl (rows_takes encBo_ok (y:=true) (by decide) om)) ?_
 refine Jz 3 ?_
 refine Jup14 (Jup2 (JlayRow (JallCons (Jpart 0 rfl (kUs (U.set m (puOf F c y Ak qk))) (kUs_lax _) kUs_set (Jz 5 ?_)))))
 refine Jsub [(0,pv cb),(1,nv ci),(4,pv b4),(5,pv b5),(10,pv b10),(11, .slice (some ⟨b105,0,none⟩) (U.set m (puOf F c y Ak qk)).length hn.l.length),(12, .slice (some ⟨b109,0,none⟩) (B.set m true).length hn.l.length),(111,vs c.An c.vers c.qn),(112,nv c.vers.length),(118,vs v.A v.l v.q),(119,nv v.l.length),(120,nv ((m+1))),(113,nv j)] ⟨rfl,rfl,rfl,rfl,rfl,(congrArg (fun n=>some (Value.slice (some ⟨b105,0,none⟩) n hn.l.length)) List.length_set.symm),(congrArg (fun n=>some (Value.slice (some ⟨b109,0,none⟩) n hn.l.length)) List.length_set.symm),rfl,rfl,rfl,rfl,rfl,rfl,trivial⟩ (Jdel5 (Jdel4 (Jdel1 (Jup11 (Jup11 (Jup11 (Jup11 (Jup11 (Jup11 (Jup11 (Jup11 (Jup11 (Jup11 (Jup11 (Jag (v.l.length-(m+1)) om ⟨y.Ap,y.ps.length,y.qp,Ak,((codeR F c y).length),qk,(U.set m (puOf F c y Ak qk)),(B.set m true),m+1,rfl,rfl,rfl,om,(hI3.step hnl hW.n3 hy1 hy2 (fun s=>fndH_snoc s _ hy))⟩)))))))))))))))
 refine Jz 5 ?_
 have hI2:UInv F c hn.l (fun s=>fndV s none (c.vers.take (j+1))) U B:=hI3.congr (fun s=>by rw[fndV_snoc s none hv,show v.l.take m=v.l from List.take_of_length_le om])
 refine JregionT (tel [(3,(ClR encPU 43 3 U)),(9,(ClR encBo 4 1 B))]) mixed.h (JsplitT 7 5 rfl (by kernel_rfl) ?_ ?_)
 refine JflowT [] [⟨0,[],0⟩,⟨2,[],0⟩,⟨6,[],0⟩,⟨8,[],0⟩,⟨3,[],4⟩,⟨1,[],1⟩,⟨4,[3],2⟩,⟨5,[3,4],5⟩,⟨9,[],4⟩,⟨7,[],1⟩,⟨12,[],0⟩,⟨10,[9],2⟩,⟨11,[9,10],5⟩,⟨13,[],5⟩,⟨14,[],0⟩,⟨15,[],5⟩] (by kernel_rfl) rfl (ocn _) (Jz 4 ?_)
 refine Fw.tf (cloneU_fn (some ⟨b105,0,none⟩) hn.l.length U om) (ocs (oks_row 9 rfl) (ocn _)) (fun _ _ h=>by obtain⟨_,_,_,rfl⟩:=h;rfl) ?_
 rintro _ _ ⟨Bu,pu,rfl,rfl⟩
 refine Jz 1 ?_
 refine Fw.sn [vs Bu U pu] fun b143=>?_
 refine Fw.ge rfl rfl rfl rfl (Ge.append1 encPV_ok (i:=14) (j:=0) (el:=(⟨Bu,pu,U⟩:PV)) rfl s180 rfl rfl rfl rfl rfl om om) ?_
 rintro _ _ ⟨A144,q144,rfl,rfl⟩
 refine⟨ocn _,?_⟩
 refine Fw.tf (cloneB_fn (some ⟨b109,0,none⟩) hn.l.length B om) (ocs (oks_row 12 rfl) (ocn _)) (fun _ _ h=>by obtain⟨_,_,_,rfl⟩:=h;rfl) ?_
 rintro _ _ ⟨Bb,pb,rfl,rfl⟩
 refine Jz 2 ?_
 refine Fw.sn [vs Bb B pb] fun b149=>?_
 refine Fw.ge rfl rfl rfl rfl (Ge.append1 encPB_ok (i:=17) (j:=0) (el:=(⟨Bb,pb,B⟩:PB)) rfl s181 rfl rfl rfl rfl rfl om om) ?_
 rintro _ _ ⟨A150,q150,rfl,rfl⟩
 refine⟨ocn _,?_⟩
 refine Fw.up rfl rfl rfl (Up.store (i:=12) rfl rfl rfl c180 rfl rfl (bt1 rfl)) (ocn _) ?_
 refine Jz 1 ?_
 refine Fw.up rfl rfl rfl (Up.store (i:=12) rfl rfl rfl c181 rfl rfl (bt1 rfl)) (ocn _) ?_
 refine Jz 3 ?_
 refine Jpart 15 rfl (kUs U) (kUs_lax _) (fun z hz=>hz) (Jup19 (Jup1 (Jup5 (JlayRow (JallCons (Jpush (f:=PV.kids) us (⟨Bu,pu,U⟩:PV) (Jup18 (Jup3 (JlayRow (JallSolo (Jpush (f:=kPB) fs (⟨Bb,pb,B⟩:PB) (Jz 5 ?_))))))))))))
 refine To.agP ⟨⟨Ax,nx,qx,Ay,ny,qy,U,B,(us++[(⟨Bu,pu,U⟩:PV)]),A144,q144,(fs++[(⟨Bb,pb,B⟩:PB)]),A150,q150,j+1,rfl,rfl,rfl,om,(by rw[lap,hus];rfl),(by rw[lap,hfs];rfl),hI2,(UsInv.push hUs hus hfs hI2)⟩,sb⟩
 refine JflowT [] [⟨0,[],0⟩,⟨2,[],0⟩,⟨6,[],0⟩,⟨8,[],0⟩,⟨3,[],4⟩,⟨1,[],1⟩,⟨4,[3],2⟩,⟨7,[],1⟩,⟨5,[3,4],5⟩,⟨12,[],0⟩,⟨9,[],4⟩,⟨10,[9],2⟩,⟨11,[9,10],5⟩,⟨13,[],5⟩,⟨14,[],0⟩,⟨15,[],5⟩] (by kernel_rfl) rfl (ocn _) (Jz 4 ?_)
 refine Fw.tf (cloneU_fn (some ⟨b105,0,none⟩) hn.l.length U om) (ocs (oks_row 9 rfl) (ocn _)) (fun _ _ h=>by obtain⟨_,_,_,rfl⟩:=h;rfl) ?_
 rintro _ _ ⟨Bu,pu,rfl,rfl⟩
 refine Jz 1 ?_
 refine Fw.sn [vs Bu U pu] fun b143=>?_
 refine Jz 1 ?_
 refine Fw.ge rfl rfl rfl rfl (Ge.append1 encPV_ok (i:=14) (j:=0) (el:=(⟨Bu,pu,U⟩:PV)) rfl s180 rfl rfl rfl rfl rfl om om) ?_
 rintro _ _ ⟨A144,q144,rfl,rfl⟩
 refine⟨ocn _,?_⟩
 refine Jz 1 ?_
 refine Fw.tf (cloneB_fn (some ⟨b109,0,none⟩) hn.l.length B om) (ocs (oks_row 12 rfl) (ocn _)) (fun _ _ h=>by obtain⟨_,_,_,rfl⟩:=h;rfl) ?_
 rintro _ _ ⟨Bb,pb,rfl,rfl⟩
 refine Fw.sn [vs Bb B pb] fun b149=>?_
 refine Fw.ge rfl rfl rfl rfl (Ge.append1 encPB_ok (i:=17) (j:=0) (el:=(⟨Bb,pb,B⟩:PB)) rfl s181 rfl rfl rfl rfl rfl om om) ?_
 rintro _ _ ⟨A150,q150,rfl,rfl⟩
 refine⟨ocn _,?_⟩
 refine Fw.up rfl rfl rfl (Up.store (i:=12) rfl rfl rfl c180 rfl rfl (bt1 rfl)) (ocn _) ?_
 refine Jz 1 ?_
 refine Fw.up rfl rfl rfl (Up.store (i:=12) rfl rfl rfl c181 rfl rfl (bt1 rfl)) (ocn _) ?_
 refine Jz 3 ?_
 refine Jpart 15 rfl (kUs U) (kUs_lax _) (fun z hz=>hz) (Jup19 (Jup1 (Jup5 (JlayRow (JallCons (Jpush (f:=PV.kids) us (⟨Bu,pu,U⟩:PV) (Jup18 (Jup3 (JlayRow (JallSolo (Jpush (f:=kPB) fs (⟨Bb,pb,B⟩:PB) (Jz 5 ?_))))))))))))
 refine To.agP ⟨⟨Ax,nx,qx,Ay,ny,qy,U,B,(us++[(⟨Bu,pu,U⟩:PV)]),A144,q144,(fs++[(⟨Bb,pb,B⟩:PB)]),A150,q150,j+1,rfl,rfl,rfl,om,(by rw[lap,hus];rfl),(by rw[lap,hfs];rfl),hI2,(UsInv.push hUs hus hfs hI2)⟩,sb⟩
 refine Jz 12 ?_
 refine Jup15 (Jup15 (JallApp (Jup14 (JlayRow (JallCons (Jup13 (JlayRow (JallCons (To.one 5 rfl (ros encZ hn.A hn.l) rfl (hkids_hn hhn) (Jup1 (Jup1 (JallCons (To.ec [1,0] results55 ?_)))))))))))))
 exact⟨(⟨hn.A,hn.q,hn.l,Au,qu,us,Ag,qg,fs⟩:PP),(⟨ci,Av,vn.length,qv,At,tn.length,qt,Az,fl.length,qz,Ax,nx,qx,Ay,ny,qy⟩:Stl),rfl,rfl,⟨hnl.trans hW.hn.symm,by show us.length=_;omega,by show fs.length=_;omega,hUs⟩⟩
end Go.Proofs.YtlihklladkagpaaGreatDoor
