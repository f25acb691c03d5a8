/- Own text. -/
import Derived.Test.YtlihklladkagpaaGreatDoorQa
set_option maxHeartbeats 8000000
set_option maxRecDepth 100000
set_option linter.unusedVariables false
set_option linter.unusedSimpArgs false
namespace Go.Sep
open Go.RowKit Go.Flow Go.Mem
theorem Mk.appendNil{P:Program}{o:Oper}{ρ:Slots}{Γ:List Chunk}{x y:Operand}{α:Type}{enc:α→List Value}{size:Nat}(E:Enc enc size){t e:TypeId}{bytes:Nat}{zs:List Value}{B:OA}{cb:Nat}{m:List α}(ho:o.op= .call {callee:= .builtin .append,args:=#[x,y],argTypes:=#[t,t]})(ht:SliceTy P t e size bytes zs)
    (hx:ev ρ x=some (.slice none 0 0)) (hy:ev ρ y=some (vs B m cb)) (hs:∀w,oks Γ w→Src w B (m.flatMap enc)) (h63:m.length≤9223372036854775807) (hby:m.length*bytes≤140737488355328):
    Mk P o ρ Γ (fun v N=>∃A' cap',v=vs A' m cap'∧N=[rows enc e size A' cap' m]):=by
 rcases Nat.eq_zero_or_pos m.length with h0|h0
 · have hm:m=[]:=List.eq_nil_of_length_eq_zero h0
   subst hm
   intro a w ha hG
   have hrd:=Rd.append0 (P:=P) (Γ:=Γ) ho ht hx hy h0 (Nat.le_refl 0) a w ha hG
   refine⟨.slice none 0 0,[rows enc e size none 0 ([]:List α)],w,hrd,⟨none,0,rfl,rfl⟩,⟨⟨fun c hc=>?_,by simp[owns,rows,row,blks],by simp[reads,rows,row]⟩,Keeps.refl _ _,fun g hg=>by simp[owns,rows,row,blks]at hg,by simp[reads,rows,row]⟩⟩
   rw[List.mem_singleton.1 hc]
   exact World.ownsRow_nil w 0 e size
 ·exact Mk.appendNew E ho ht hx hy hs h0 h63 hby
end Go.Sep
namespace Go.Proofs.YtlihklladkagpaaGreatDoor
open Go.RowKit Go.Flow Go.Mem Go.Sep Go.In
section
variable{C:Cx}{ρ:Slots}{Γ:List Chunk}{K:Act→World→Prop}
theorem Jpush{α:Type}{f:α→List Chunk}(O:List α)(x:α)(k:To C ρ (all ((O++[x]).flatMap f)::Γ) K):To C ρ (all (f x)::all (O.flatMap f)::Γ) K:=by
 refine To.perm (List.Perm.swap _ _ _) (JallApp ?_)
 rw[List.flatMap_append,show[x].flatMap f=f x from List.append_nil _]at k
 exact k
theorem To.hdK(k:Encs)(h:Hd){ty:TypeId}(kk:To C ρ (all (h.kids k)::Γ) K):To C ρ (rows encZ ty 1 h.Ap h.qp h.ps::all (lsG k.f k.g h.Ab h.body)::Γ) K:=JlayRow (JallCons kk)
theorem To.vsK(k:Encs)(v:Vs){ty:TypeId}(kk:To C ρ (all (v.kids k)::Γ) K):To C ρ (rows encH ty 3 v.A v.q v.l::all (v.l.flatMap (Hd.kids k))::Γ) K:=JlayRow (JallCons kk)
theorem To.cmK(k:Encs)(c:Cm){t1 t2:TypeId}{z:Nat}(kk:To C ρ (all (c.kids k)::Γ) K):To C ρ (rows k.v t1 z c.Av c.qv c.vars::rows encVs t2 1 c.An c.qn c.vers::all (c.vers.flatMap (Vs.kids k))::Γ) K:=by
 refine JlayRow (To.perm (Γ':=rows encVs t2 1 c.An c.qn c.vers::all (c.vers.flatMap (Vs.kids k))::ros k.v c.Av c.vars::Γ) ?_ (JlayRow (JallCons ?_)))
 ·exact(List.perm_middle (l₁:=[_,_])).symm
 exact To.perm (List.Perm.swap _ _ _) (JallCons kk)
theorem To.flK(k:Encs)(f:Fl){t1 t2 t3:TypeId}(kk:To C ρ (all (f.kids k)::Γ) K):To C ρ (rows encFg t1 2 f.Af f.qf f.flags::rows encLk t2 3 f.Al f.ql f.links::rows encC t3 3 f.Ac f.qc f.comps::all (f.comps.flatMap (Cm.kids k))::Γ) K:=by
 refine JlayRow (To.perm (Γ':=rows encLk t2 3 f.Al f.ql f.links::rows encC t3 3 f.Ac f.qc f.comps::all (f.comps.flatMap (Cm.kids k))::ros encFg f.Af f.flags::Γ) ?_ (JlayRow ?_))
 ·exact(List.perm_middle (l₁:=[_,_,_])).symm
 refine To.perm (Γ':=rows encC t3 3 f.Ac f.qc f.comps::all (f.comps.flatMap (Cm.kids k))::ros encLk f.Al f.links::ros encFg f.Af f.flags::Γ) ?_ (JlayRow (JallCons (To.perm (List.Perm.swap _ _ _) (JallCons ?_))))
 ·exact(List.perm_middle (l₁:=[_,_])).symm
 exact To.perm (List.Perm.swap _ _ _) (JallCons kk)
end
theorem Jcap{C:Cx}{ρ:Slots}{Γ:List Chunk}{K:Act→World→Prop}{α:Type}{enc:α→List Value}{e:TypeId}{size cap:Nat}{A:OA}{l:List α}(i:Nat)(hi:Γ[i]?=some (rows enc e size A cap l))(k:l.length≤cap→To C ρ Γ K):To C ρ Γ K:=Jknow (fun w hw=>by
 obtain⟨A',c',h,_,h2,_⟩:=own_form (hw.each _ (mog hi))
 injection h with _ _ h
 rw[h];exact h2) k
def Vs.Cap(v:Vs):Prop:=v.l.length≤v.q∧∀h∈v.l,h.ps.length≤h.qp
def Cm.Cap(c:Cm):Prop:=(c.vars.length≤c.qv∧c.vers.length≤c.qn)∧∀v∈c.vers,v.Cap
def Fl.Cap(F:Fl):Prop:=(F.flags.length≤F.qf∧F.links.length≤F.ql∧F.comps.length≤F.qc)∧∀c∈F.comps,c.Cap
theorem app_all{α:Type}{p:α→Prop}{l:List α}{x:α}(h:∀y∈l,p y)(hx:p x):∀y∈l++[x],p y:=fun y hy=>(List.mem_append.1 hy).elim (h y) fun hy=>by rw[List.mem_singleton.1 hy];exact hx
section
variable{k:Encs}{F:Fl}{c:Cm}{v:Vs}{h:Hd}{i:Nat}
theorem Fl.flags_k:ros encFg F.Af F.flags∈F.kids k:=List.mem_cons_self ..
theorem Fl.links_k:ros encLk F.Al F.links∈F.kids k:=List.mem_cons_of_mem _ (List.mem_cons_self ..)
theorem Fl.comps_k:ros encC F.Ac F.comps∈F.kids k:=List.mem_cons_of_mem _ (List.mem_cons_of_mem _ (List.mem_cons_self ..))
theorem Fl.comp_k(hc:F.comps[i]?=some c):∀z∈c.kids k,z∈F.kids k:=fun z hz=>List.mem_cons_of_mem _ (List.mem_cons_of_mem _ (List.mem_cons_of_mem _ (List.mem_flatMap.2 ⟨c,mog hc,hz⟩)))
theorem Cm.vars_k:ros k.v c.Av c.vars∈c.kids k:=List.mem_cons_self ..
theorem Cm.vers_k:ros encVs c.An c.vers∈c.kids k:=List.mem_cons_of_mem _ (List.mem_cons_self ..)
theorem Cm.ver_k(hv:c.vers[i]?=some v):∀z∈v.kids k,z∈c.kids k:=fun z hz=>List.mem_cons_of_mem _ (List.mem_cons_of_mem _ (List.mem_flatMap.2 ⟨v,mog hv,hz⟩))
theorem Vs.l_k:ros encH v.A v.l∈v.kids k:=List.mem_cons_self ..
theorem Vs.hd_k(hh:v.l[i]?=some h):∀z∈h.kids k,z∈v.kids k:=fun z hz=>List.mem_cons_of_mem _ (List.mem_flatMap.2 ⟨h,mog hh,hz⟩)
theorem Hd.ps_k:ros encZ h.Ap h.ps∈h.kids k:=List.mem_cons_self ..
theorem Hd.body_k:∀z∈lsG k.f k.g h.Ab h.body,z∈h.kids k:=fun z hz=>List.mem_cons_of_mem _ hz
end
structure LowF(F:Fl):Prop where
 flags:F.flags.length≤2
 links:F.links.length≤9
 comps:F.comps.length≤3
 vars:∀c∈F.comps,c.vars.length≤5∧∀v∈c.vars,v.ty≤3
 vers:∀c∈F.comps,c.vers.length≤2∧∀v∈c.vers,v.l.length≤3∧∀h∈v.l,h.ps.length≤2∧h.body.length≤12∧PS.lowL (St.pL h.body)
theorem qsyntax_fn(F:Fl)(hF:LowF F):
    Does Tryz.prog 27 [.agg (cF F []).toArray] [all (F.kids eR)] (fun v Γ'=>∃F':Fl,v= .agg F'.cells.toArray∧Γ'=[all (F'.kids eX)]∧F'.Cap∧F'.pure=F.pure):=by
 have hfl:=hF.flags
 have hlk:=hF.links
 have hcm:=hF.comps
 refine Does.en Tryz.func27 Tryz.ntmps27 fun w0=>?_
 refine Js (To.g (Jbo fun b1=>?_))
 refine Jal fun b2=>?_
 refine Jz 6 ?_
 refine Jr (.bd [.string F.name, .slice none 0 0, .slice none 0 0, .slice none 0 0]) ?_
 refine Jal fun b3=>?_
 refine Jz 5 ?_
 refine To.one 3 rfl (ros encFg F.Af F.flags) rfl (Fl.flags_k) (Jz 8 ?_)
 refine JnilRow (encFg) 185 2 (To.loP (fun s g mz ρ Γ=>∃(Af:OA) (qf:Nat) (Fs:List Fg) (kf:Nat),ρ=[s 1,s 2,s 3,(22,vs F.Af F.flags F.qf),s 23,(24,nv kf)]∧Γ=[g 4,g 3,box b3 [.string F.name,vs Af Fs qf, .slice none 0 0, .slice none 0 0] 108,ros encFg F.Af F.flags,g 5,rows encFg 185 2 Af qf Fs]∧mz=F.flags.length-kf∧(kf≤F.flags.length)∧(Fs=F.flags.take kf)) ⟨⟨none,0,([]:List Fg),0,rfl,rfl,rfl,om,rfl⟩,sb⟩ ?_)
 rintro mz _ _ ⟨Af,qf,Fs,kf,rfl,rfl,rfl,hkf,hFs⟩
 have hFl:Fs.length≤2:=by rw[hFs,List.length_take];omega
 refine Jz 6 ?_
 refine Jcp rfl ?_ ?_<;>intro c25
 obtain⟨y,hy⟩:=exg F.flags kf om
 refine Jz 8 ?_
 refine Jal fun b5=>?_
 refine Jz 10 ?_
 refine Jr (.bd [.string y.name, .bool y.init]) ?_
 refine To.sn [.string y.name, .bool y.init] fun b35=>?_
 refine Jge rfl rfl rfl (Ge.append1 encFg_ok (i:=7) (j:=0) (el:=y) rfl s104 rfl rfl rfl rfl rfl om om) ?_
 rintro _ _ ⟨A36,q36,rfl,rfl⟩
 refine Jz 10 ?_
 refine To.agP ⟨⟨A36,q36,(Fs++[y]),kf+1,rfl,rfl,rfl,om,(by rw[take_of_get hy,←hFs])⟩,sb⟩
 refine Jz 7 ?_
 refine To.one 4 rfl (ros encLk F.Al F.links) rfl (Fl.links_k) (Jz 8 ?_)
 refine JnilRow (encLk) 186 3 (To.loP (fun s g mz ρ Γ=>∃(Al:OA) (ql:Nat) (Ls:List Lk) (kl:Nat),ρ=[s 1,s 2,s 3,(40,vs F.Al F.links F.ql),s 41,(42,nv kl)]∧Γ=[g 2,g 3,box b3 [.string F.name,vs Af Fs qf,vs Al Ls ql, .slice none 0 0] 108,g 7,ros encLk F.Al F.links,g 6,rows encLk 186 3 Al ql Ls]∧mz=F.links.length-kl∧(kl≤F.links.length)∧(Ls=F.links.take kl)) ⟨⟨none,0,([]:List Lk),0,rfl,rfl,rfl,om,rfl⟩,sb⟩ ?_)
 rintro mz _ _ ⟨Al,ql,Ls,kl,rfl,rfl,rfl,hkl,hLs⟩
 have hLl:Ls.length≤9:=by rw[hLs,List.length_take];omega
 refine Jz 6 ?_
 refine Jcp rfl ?_ ?_<;>intro c43
 obtain⟨y,hy⟩:=exg F.links kl om
 refine Jz 8 ?_
 refine Jal fun b7=>?_
 refine Jz 12 ?_
 refine Jr (.bd [.string y.src, .string y.dst, .int .i64 y.lat]) ?_
 refine To.sn [.string y.src, .string y.dst, .int .i64 y.lat] fun b55=>?_
 refine Jge rfl rfl rfl (Ge.append1 encLk_ok (i:=8) (j:=0) (el:=y) rfl s105 rfl rfl rfl rfl rfl om om) ?_
 rintro _ _ ⟨A56,q56,rfl,rfl⟩
 refine Jz 10 ?_
 refine To.agP ⟨⟨A56,q56,(Ls++[y]),kl+1,rfl,rfl,rfl,om,(by rw[take_of_get hy,←hLs])⟩,sb⟩
 refine Jz 7 ?_
 refine To.one 5 rfl (ros encC F.Ac F.comps) rfl (Fl.comps_k) (Jz 8 ?_)
 refine JnilRow (encC) 175 3 (JallNil (To.loP (fun s g mz ρ Γ=>∃(Ac:OA) (qc:Nat) (O:List Cm) (k:Nat),ρ=[s 2,s 3,(60,vs F.Ac F.comps F.qc),s 61,(62,nv k)]∧Γ=[g 4,box b3 [.string F.name,vs Af Fs qf,vs Al Ls ql,vs Ac O qc] 108,g 6,g 9,ros encC F.Ac F.comps,g 8,rows encC 175 3 Ac qc O,all (List.flatMap (Cm.kids eX) O)]∧mz=F.comps.length-k∧(k≤F.comps.length)∧(O.map Cm.pure=(F.comps.take k).map Cm.pure)∧(∀x∈O,x.Cap)) ⟨⟨none,0,([]:List Cm),0,rfl,rfl,rfl,om,rfl,(fun _ h=>nomatch h)⟩,sb⟩ ?_))
 rintro mz _ _ ⟨Ac,qc,O,k,rfl,rfl,rfl,hk,hO,hOc⟩
 have hOl:O.length≤3:=by have h:=congrArg List.length hO;rw[List.length_map,List.length_map,List.length_take]at h;omega
 refine Jz 6 ?_
 refine Jcp rfl ?_ ?_<;>intro c63
 obtain⟨c,hc⟩:=exg F.comps k om
 obtain⟨hcv,hcy⟩:=hF.vars c (mog hc)
 obtain⟨hcw,hcz⟩:=hF.vers c (mog hc)
 refine Jz 8 ?_
 refine Jal fun b9=>?_
 refine Jz 7 ?_
 refine Jr (.bd [.string c.name, .slice none 0 0, .slice none 0 0]) ?_
 refine Jal fun b10=>?_
 refine Jz 5 ?_
 refine Jpart 7 rfl (c.kids eR) (Cm.lax eR c) (Fl.comp_k hc) (To.one 0 rfl (ros encVr c.Av c.vars) rfl (Cm.vars_k) (Jz 8 ?_))
 refine JnilRow (encVx) 189 3 (To.loP (fun s g mz ρ Γ=>∃(Av:OA) (qv:Nat) (V:List Vr) (j:Nat),ρ=[s 2,s 3,s 60,s 61,s 62,s 9,s 10,(70,vs c.Av c.vars c.qv),s 71,(72,nv j)]∧Γ=[g 5,g 6,g 7,g 8,g 9,g 10,g 11,g 12,g 4,box b10 [.string c.name,vs Av V qv, .slice none 0 0] 175,ros encVr c.Av c.vars,g 2,rows encVx 189 3 Av qv V]∧mz=c.vars.length-j∧(j≤c.vars.length)∧(V=c.vars.take j)) ⟨⟨none,0,([]:List Vr),0,rfl,rfl,rfl,om,rfl⟩,sb⟩ ?_)
 rintro mz _ _ ⟨Av,qv,V,j,rfl,rfl,rfl,hj,hV⟩
 have hVl:V.length≤5:=by rw[hV,List.length_take];omega
 refine Jz 6 ?_
 refine Jcp rfl ?_ ?_<;>intro c73
 obtain⟨y,hy⟩:=exg c.vars j om
 have hy3:=hcy y (mog hy)
 refine Jz 8 ?_
 refine Jal fun b12=>?_
 refine Jz 10 ?_
 refine Jr (Rd.conv rfl rfl Tryz.underlying3 Tryz.underlying187 (IntWalk.u8_in _ om)) ?_
 refine Jz 2 ?_
 refine Jr (.bd [.string y.name, .int .u8 ((y.ty:Nat):Int), .int .i64 y.init]) ?_
 refine To.sn [.string y.name, .int .u8 ((y.ty:Nat):Int), .int .i64 y.init] fun b86=>?_
 refine Jge rfl rfl rfl (Ge.append1 encVx_ok (i:=14) (j:=0) (el:=y) rfl s172 rfl rfl rfl rfl rfl om om) ?_
 rintro _ _ ⟨A87,q87,rfl,rfl⟩
 refine Jz 10 ?_
 refine To.agP ⟨⟨A87,q87,(V++[y]),j+1,rfl,rfl,rfl,om,(by rw[take_of_get hy,←hV])⟩,sb⟩
 refine Jz 7 ?_
 refine To.one 11 rfl (ros encVs c.An c.vers) rfl (Cm.vers_k) (Jz 8 ?_)
 refine JnilRow (encVs) 192 1 (JallNil (To.loP (fun s g mz ρ Γ=>∃(Aw:OA) (qw:Nat) (W:List Vs) (jw:Nat),ρ=[s 2,s 3,s 60,s 61,s 62,s 10,s 91,s 92,(93,nv jw)]∧Γ=[g 3,g 4,g 5,g 6,g 7,g 8,g 9,g 10,box b10 [.string c.name,vs Av V qv,vs Aw W qw] 175,g 15,g 2,g 14,rows encVs 192 1 Aw qw W,all (List.flatMap (Vs.kids eX) W)]∧mz=c.vers.length-jw∧(jw≤c.vers.length)∧(W.map Vs.pure=(c.vers.take jw).map Vs.pure)∧(∀x∈W,x.Cap)) ⟨⟨none,0,([]:List Vs),0,rfl,rfl,rfl,om,rfl,(fun _ h=>nomatch h)⟩,sb⟩ ?_))
 rintro mz _ _ ⟨Aw,qw,W,jw,rfl,rfl,rfl,hjw,hW,hWc⟩
 have hWl:W.length≤2:=by have h:=congrArg List.length hW;rw[List.length_map,List.length_map,List.length_take]at h;omega
 refine Jz 6 ?_
 refine Jcp rfl ?_ ?_<;>intro c94
 obtain⟨v,hv⟩:=exg c.vers jw om
 obtain⟨hvl,hvh⟩:=hcz v (mog hv)
 refine Jz 13 ?_
 refine Jal fun b15=>?_
 refine Jz 4 ?_
 refine Jpart 12 rfl (v.kids eR) (Vs.lax eR v) (Cm.ver_k hv) (To.one 0 rfl (ros encH v.A v.l) rfl (Vs.l_k) (Jz 7 ?_))
 refine JnilRow (encH) 196 3 (JallNil (To.loP (fun s g mz ρ Γ=>∃(Ah:OA) (qh:Nat) (H:List Hd) (i:Nat),ρ=[s 2,s 3,s 60,s 61,s 62,s 10,s 91,s 92,s 93,s 15,s 97,s 98,(99,nv i)]∧Γ=[g 5,g 6,g 7,g 8,g 9,g 10,g 11,g 12,g 13,g 14,g 15,g 16,g 17,g 18,box b15 [vs Ah H qh] 192,g 2,g 3,rows encH 196 3 Ah qh H,all (List.flatMap (Hd.kids eX) H)]∧mz=v.l.length-i∧(i≤v.l.length)∧(H.map Hd.pure=(v.l.take i).map Hd.pure)∧(∀x∈H,x.ps.length≤x.qp)) ⟨⟨none,0,([]:List Hd),0,rfl,rfl,rfl,om,rfl,(fun _ h=>nomatch h)⟩,sb⟩ ?_))
 rintro mz _ _ ⟨Ah,qh,H,i,rfl,rfl,rfl,hi,hH,hHc⟩
 have hHl:H.length≤3:=by have h0:=congrArg List.length hH;rw[List.length_map,List.length_map,List.length_take]at h0;omega
 refine Jz 6 ?_
 refine Jcp rfl ?_ ?_<;>intro c100
 obtain⟨h,hh⟩:=exg v.l i om
 obtain⟨hhp,hhb,hhl⟩:=hvh h (mog hh)
 refine Jz 3 ?_
 refine JmeetC (T:=(OA)×(Nat)×(OA)×(Nat)×(List St)×(OA)×(Nat)) (fun t=>([(2,pv b2),(3,pv b3),(60,vs F.Ac F.comps F.qc),(61,nv F.comps.length),(62,nv k),(10,pv b10),(91,vs c.An c.vers c.qn),(92,nv c.vers.length),(93,nv jw),(15,pv b15),(97,vs v.A v.l v.q),(98,nv v.l.length),(99,nv i)],[box b2 [.string bE, .slice none 0 0, .slice none 0 0, .slice none 0 0] 108,box b3 [.string F.name,vs Af Fs qf,vs Al Ls ql,vs Ac O qc] 108,rows encFg 185 2 Af qf Fs,rows encLk 186 3 Al ql Ls,ros encC F.Ac F.comps,all (F.kids eR),rows encC 175 3 Ac qc O,all (List.flatMap (Cm.kids eX) O),box b10 [.string c.name,vs Av V qv,vs Aw W qw] 175,rows encVx 189 3 Av qv V,ros encVs c.An c.vers,all (c.kids eR),rows encVs 192 1 Aw qw W,all (List.flatMap (Vs.kids eX) W),box b15 [vs (t.2.2.2.2.2.1) (H++[(⟨h.name,(t.1),(t.2.1),h.ps,(t.2.2.1),(t.2.2.2.1),(t.2.2.2.2.1)⟩:Hd)]) (t.2.2.2.2.2.2)] 192,ros encH v.A v.l,all (v.kids eR),rows encZ 9 1 (t.1) (t.2.1) h.ps,all (lsG encX encT (t.2.2.1) (t.2.2.2.2.1)),rows encH 196 3 (t.2.2.2.2.2.1) (t.2.2.2.2.2.2) (H++[(⟨h.name,(t.1),(t.2.1),h.ps,(t.2.2.1),(t.2.2.2.1),(t.2.2.2.2.1)⟩:Hd)]),all (List.flatMap (Hd.kids eX) H)])) (fun t=>(St.pL (t.2.2.2.2.1)=St.pL h.body)) ?_ ?_
 refine Jz 5 ?_
 refine Jal fun b17=>?_
 refine Jz 3 ?_
 refine Jpart 17 rfl (h.kids eR) (Hd.lax eR h) (Vs.hd_k hh) (Jpart 0 rfl (lsG encE encS h.Ab h.body) (lsG_lax _ _ _ _) (Hd.body_k (k:=eR)) (To.one 1 rfl (ros encZ h.Ap h.ps) rfl (Hd.ps_k) (JregionT (telJ (tel []) (telC [(9,[all (lsG encE encS h.Ab h.body)],(QBodyR h.body))])) mixed.h (JsplitT 1 9 rfl (by kernel_rfl) ?_ ?_))))
 refine To.fT [box b17 [.string h.name,vs h.Ap h.ps h.qp,vs h.Ab h.body h.qb] 40] [0,2,3,4,5,7,8,206,7509,10,101,211,12512,13,514] (ocs (oca 3 rfl) (ocn _)) ?_
 refine Jz 7 ?_
 refine Fw.mk rfl rfl rfl rfl rfl (Mk.appendNil encZ_ok (m:=h.ps) rfl s37 rfl rfl (oca (c:=ros encZ h.Ap h.ps) 0 rfl) om om) ?_
 rintro _ _ ⟨Ap2,qp2,rfl,rfl⟩
 refine Fw.turnT [2] rfl rfl rfl rfl .fc rfl (qbody_fn h.body h.Ab h.qb hhb hhl) rfl ?_
 rintro _ _ ⟨Ab2,qb2,hb2,rfl,rfl,hbp⟩
 refine⟨ocs (oca 4 rfl) (ocn _),?_⟩
 refine Fw.f rfl (.bd [.string h.name,vs Ap2 h.ps qp2,vs Ab2 hb2 qb2]) ?_
 refine Jz 1 ?_
 refine Fw.sn [.string h.name,vs Ap2 h.ps qp2,vs Ab2 hb2 qb2] fun b114=>?_
 refine Fw.ge rfl rfl rfl rfl (Ge.append1 encH_ok (i:=23) (j:=0) (el:=(⟨h.name,Ap2,qp2,h.ps,Ab2,qb2,hb2⟩:Hd)) rfl s190 rfl rfl rfl rfl rfl om om) ?_
 rintro _ _ ⟨A115,q115,rfl,rfl⟩
 refine⟨ocs (oca 5 rfl) (ocn _),?_⟩
 refine Jz 1 ?_
 refine Fw.up rfl rfl rfl (Up.store (i:=20) rfl rfl rfl c190 rfl rfl (bta rfl)) (ocs (oca 5 rfl) (ocn _)) ?_
 refine Jz 3 ?_
 refine To.hP (Ap2,qp2,Ab2,qb2,hb2,A115,q115) hbp
 refine To.fT [box b17 [.string h.name,vs h.Ap h.ps h.qp,vs h.Ab h.body h.qb] 40] [0,2,3,4,5,7,8,101,206,7509,10,211,12512,13,514] (ocs (oca 3 rfl) (ocn _)) ?_
 refine Jz 8 ?_
 refine Fw.mk rfl rfl rfl rfl rfl (Mk.appendNil encZ_ok (m:=h.ps) rfl s37 rfl rfl (oca (c:=ros encZ h.Ap h.ps) 0 rfl) om om) ?_
 rintro _ _ ⟨Ap2,qp2,rfl,rfl⟩
 refine Fw.turnT [2] rfl rfl rfl rfl .fc rfl (qbody_fn h.body h.Ab h.qb hhb hhl) rfl ?_
 rintro _ _ ⟨Ab2,qb2,hb2,rfl,rfl,hbp⟩
 refine⟨ocs (oca 4 rfl) (ocn _),?_⟩
 refine Fw.f rfl (.bd [.string h.name,vs Ap2 h.ps qp2,vs Ab2 hb2 qb2]) ?_
 refine Fw.sn [.string h.name,vs Ap2 h.ps qp2,vs Ab2 hb2 qb2] fun b114=>?_
 refine Fw.ge rfl rfl rfl rfl (Ge.append1 encH_ok (i:=23) (j:=0) (el:=(⟨h.name,Ap2,qp2,h.ps,Ab2,qb2,hb2⟩:Hd)) rfl s190 rfl rfl rfl rfl rfl om om) ?_
 rintro _ _ ⟨A115,q115,rfl,rfl⟩
 refine⟨ocs (oca 5 rfl) (ocn _),?_⟩
 refine Jz 1 ?_
 refine Fw.up rfl rfl rfl (Up.store (i:=20) rfl rfl rfl c190 rfl rfl (bta rfl)) (ocs (oca 5 rfl) (ocn _)) ?_
 refine Jz 3 ?_
 refine To.hP (Ap2,qp2,Ab2,qb2,hb2,A115,q115) hbp
 rintro⟨Ap2,qp2,Ab2,qb2,hb2,Ah2,qh2⟩ hbp
 replace hbp:St.pL hb2=St.pL h.body:=hbp
 dsimp only
 refine Jcap 17 rfl (fun hzc=>?_)
 refine Jup18 (Jup18 (To.hdK eX (⟨h.name,Ap2,qp2,h.ps,Ab2,qb2,hb2⟩:Hd) (Jup19 (Jup1 (Jpush H (⟨h.name,Ap2,qp2,h.ps,Ab2,qb2,hb2⟩:Hd) (Jz 5 ?_))))))
 refine To.agP ⟨⟨Ah2,qh2,(H++[(⟨h.name,Ap2,qp2,h.ps,Ab2,qb2,hb2⟩:Hd)]),i+1,rfl,rfl,rfl,om,(by rw[List.map_append,hH,take_of_get hh,List.map_append];show _++[(⟨h.name,h.ps,St.pL hb2⟩:PH)]=_++[Hd.pure h];rw[hbp];rfl),(app_all hHc hzc)⟩,sb⟩
 refine Jz 9 ?_
 refine To.sn [vs Ah H qh] fun b121=>?_
 refine Jge rfl rfl rfl (Ge.append1 encVs_ok (i:=13) (j:=0) (el:=(⟨Ah,qh,H⟩:Vs)) rfl s173 rfl rfl rfl rfl rfl om om) ?_
 rintro _ _ ⟨A122,q122,rfl,rfl⟩
 refine Jz 5 ?_
 refine Jcap 18 rfl (fun hhc=>?_)
 refine Jup19 (Jup19 (To.vsK eX (⟨Ah,qh,H⟩:Vs) (Jup15 (Jup1 (Jpush W (⟨Ah,qh,H⟩:Vs) (Jz 5 ?_))))))
 refine To.agP ⟨⟨A122,q122,(W++[(⟨Ah,qh,H⟩:Vs)]),jw+1,rfl,rfl,rfl,om,(by rw[List.map_append,hW,take_of_get hv,List.map_append];show _++[H.map Hd.pure]=_++[v.l.map Hd.pure];rw[hH,List.take_of_length_le (l:=v.l) om]),(app_all hWc ⟨hhc,hHc⟩)⟩,sb⟩
 refine Jz 9 ?_
 refine To.sn [.string c.name,vs Av V qv,vs Aw W qw] fun b128=>?_
 refine Jge rfl rfl rfl (Ge.append1 encC_ok (i:=7) (j:=0) (el:=(⟨c.name,Av,qv,V,Aw,qw,W⟩:Cm)) rfl s106 rfl rfl rfl rfl rfl om om) ?_
 rintro _ _ ⟨A129,q129,rfl,rfl⟩
 refine Jz 5 ?_
 refine Jcap 10 rfl (fun hvc=>?_)
 refine Jcap 13 rfl (fun hwc=>?_)
 refine Jup14 (Jup14 (Jup12 (To.cmK eX (⟨c.name,Av,qv,V,Aw,qw,W⟩:Cm) (Jup9 (Jup1 (Jpush O (⟨c.name,Av,qv,V,Aw,qw,W⟩:Cm) (Jz 5 ?_)))))))
 refine To.agP ⟨⟨A129,q129,(O++[(⟨c.name,Av,qv,V,Aw,qw,W⟩:Cm)]),k+1,rfl,rfl,rfl,om,(by rw[List.map_append,hO,take_of_get hc,List.map_append];show _++[(⟨c.name,V,W.map Vs.pure⟩:PC)]=_++[Cm.pure c];rw[hV,hW,List.take_of_length_le (l:=c.vars) om,List.take_of_length_le (l:=c.vers) om];rfl),(app_all hOc ⟨⟨hvc,hwc⟩,hWc⟩)⟩,sb⟩
 refine Jz 12 ?_
 refine Jcap 2 rfl (fun hfc=>?_)
 refine Jcap 3 rfl (fun hlc=>?_)
 refine Jcap 6 rfl (fun hcc=>?_)
 refine Jup7 (Jup7 (Jup5 (Jup5 (To.flK eX (⟨F.name,Af,qf,Fs,Al,ql,Ls,Ac,qc,O⟩:Fl) (To.ec [0] Tryz.results27 ?_)))))
 exact⟨(⟨F.name,Af,qf,Fs,Al,ql,Ls,Ac,qc,O⟩:Fl),rfl,rfl,⟨⟨hfc,hlc,hcc⟩,hOc⟩,by show(⟨F.name,Fs,Ls,O.map Cm.pure⟩:PF)=⟨F.name,F.flags,F.links,F.comps.map Cm.pure⟩;rw[hFs,hLs,hO,List.take_of_length_le (l:=F.flags) om,List.take_of_length_le (l:=F.links) om,List.take_of_length_le (l:=F.comps) om]⟩
end Go.Proofs.YtlihklladkagpaaGreatDoor
