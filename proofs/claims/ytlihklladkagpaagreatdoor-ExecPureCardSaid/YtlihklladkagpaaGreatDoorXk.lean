/- Own text. -/
import Derived.Test.YtlihklladkagpaaGreatDoorXh
set_option linter.unusedVariables false
set_option linter.unusedSimpArgs false
set_option maxHeartbeats 2000000
set_option maxRecDepth 100000
namespace Go.Proofs.YtlihklladkagpaaGreatDoor
open Go.Proofs.Tryz
open Go.RowKit Go.Flow Go.Mem Go.Sep
def Ef.rcells(e:Ef):List Value:=[.int .i64 e.k, .int .i64 e.to, .int .i64 e.h, .int .i64 e.d, .int .i64 e.key, .int .i64 e.v, .bool e.f,vs e.A e.args e.q]
instance encRe:Enc Ef.rcells 8:=⟨fun _=>rfl,fun e u hu=>by
 simp only[Ef.rcells,List.mem_cons,List.not_mem_nil,or_false]at hu
 rcases hu with rfl|rfl|rfl|rfl|rfl|rfl|rfl|rfl<;>rfl⟩
structure Okr(s:Sm)(d:Dv):Prop where
 tabs:∀t∈d.tabs,Good t
 disk:Good d.disk
 fail:s.fail.length≤1000000
 effs:d.effs.length≤2000000
 sends:0≤d.sends∧d.sends≤8
 disks:0≤d.disks∧d.disks≤2000000
 dsk:0≤s.dsk∧s.dsk≤1000000000
open Go.Sep
def rs(d:Dv):List Int×List (List (Int×Int))×List (Int×Int)×List EfV×Int:=(d.vars,d.tabs,d.disk,d.effs,d.cost)
def RStep(s:Sm)(x:Ins)(d:Dv)(a nx:Int)(e:Dv):Prop:=
 (((x.op:Nat):Int)=34∧e={d with fault:=true})∨
 (((x.op:Nat):Int)≠34∧(stepV s x {d with next:=a+1}).fault=true∧e.fault=true∧rs e=rs (stopV (stepV s x {d with next:=a+1})))∨
 (((x.op:Nat):Int)≠34∧(stepV s x {d with next:=a+1}).fault=false∧{e with next:=nx}=stepV s x {d with next:=a+1})
theorem RStep.good{s:Sm}{x:Ins}{d e:Dv}{a nx:Int}(h34:((x.op:Nat):Int)≠34)(hf:d.fault=false)(h:{e with next:=nx}=stepV s x {d with next:=a+1})(he:e.fault=d.fault):RStep s x d a nx e:=by
 refine .inr (.inr ⟨h34,?_,h⟩)
 rw[←h];exact he.trans hf
open Go.RowKit Go.Flow Go.Mem Go.Sep
open Go.Sep
theorem Fit.at_{s:Sm}{x:Ins}{d:Dv}{n:Int}(h:Fit s x {d with next:=n}):Fit s x d:=⟨h.var,h.par,h.flag,h.tab,h.sends,h.ops,h.pops,h.height,h.cost⟩
def sameM(s t:Sm):Prop:=s.code=t.code∧s.args=t.args∧s.now=t.now∧s.flags=t.flags∧s.dsk=t.dsk∧∀y,y∈s.fail↔y∈t.fail
theorem stepV_sameM{s t:Sm}(h:sameM s t)(x:Ins)(d:Dv):stepV s x d=stepV t x d:=by
 obtain⟨h1,h2,h3,h4,h5,h6⟩:=h
 have e:decide (s.dsk+d.disks∈s.fail)=decide (t.dsk+d.disks∈t.fail):=by rw[h5];exact decide_eq_decide.2 (h6 _)
 have e2:diskV s x d=diskV t x d:=by unfold diskV;rw[e]
 unfold stepV
 rw[h1,h2,h3,h4,e2]
theorem Fit.sameM{s t:Sm}(h:sameM s t){x:Ins}{d:Dv}(f:Fit t x d):Fit s x d:=⟨f.var,by rw[h.2.1];exact f.par,by rw[h.2.2.2.1];exact f.flag,f.tab,f.sends,f.ops,f.pops,f.height,f.cost⟩
theorem RStep.sameM{s t:Sm}(h:sameM s t){x:Ins}{d e:Dv}{a nx:Int}(r:RStep s x d a nx e):RStep t x d a nx e:=by
 unfold RStep at*
 rwa[stepV_sameM h]at r
def RJ(s:Sm)(I:Nat→Dv→Prop)(v0:Dv)(k:Nat)(z:Int)(d:Dv):Prop:=
 (d.fault=false∧0≤z∧runV s 1048576 v0=runV s (1048576-k) {d with next:=z}∧I k {d with next:=z})∨(d.fault=true∧rs (runV s 1048576 v0)=rs d)
theorem stepV_34{s:Sm}{x:Ins}{d:Dv}(h:((x.op:Nat):Int)=34):stepV s x d={d with next:=s.code.length}:=by
 unfold stepV
 rw[if_neg om,if_neg om,if_neg om,if_neg om,if_neg om,if_neg om,if_neg om,if_neg om,if_neg om,if_neg om,if_neg om,if_neg om,if_pos h]
theorem RJ.step{s:Sm}{I:Nat→Dv→Prop}(hR:Runs2 s I){v0 d e:Dv}{k a:Nat}{nx:Int}{x:Ins}(h:RJ s I v0 k a d)(hf:d.fault=false)(hk:k<1048576)(hx:s.code[a]?=some x)(hs:RStep s x d a nx e):RJ s I v0 (k+1) nx e:=by
 rcases h with⟨_,h0,hv,hI⟩|⟨h1,_⟩
 · have hlt:({d with next:=((a:Nat):Int)}:Dv).next<s.code.length:=by
     have:=(List.getElem?_eq_some_iff.1 hx).1
     show((a:Nat):Int)<_
     omega
   have hx2:s.code[({d with next:=((a:Nat):Int)}:Dv).next.toNat]?=some x:=by show s.code[((a:Nat):Int).toNat]?=some x;rw[Int.toNat_natCast];exact hx
   have e1:=runV_step hlt hx2 (1048576-(k+1))
   rw[show 1048576-(k+1)+1=1048576-k by omega,←hv]at e1
   have e2:(stepV s x {({d with next:=((a:Nat):Int)}:Dv)with next:=({d with next:=((a:Nat):Int)}:Dv).next+1})=stepV s x {d with next:=a+1}:=rfl
   rw[e2]at e1
   rcases hs with⟨h34,he⟩|⟨h34,h5,h6,h7⟩|⟨h34,h5,h6⟩
   · rw[stepV_34 h34,if_neg (by rw[hf];decide)]at e1
     have e3:runV s (1048576-(k+1)) {d with next:=((s.code.length:Nat):Int)}={d with next:=((s.code.length:Nat):Int)}:=runV_end (by show¬((s.code.length:Nat):Int)<((s.code.length:Nat):Int);omega) _
     exact .inr ⟨by rw[he],by rw[e1];exact(congrArg rs e3).trans (by rw[he];rfl)⟩
   · rw[if_pos h5]at e1
     exact .inr ⟨h6,by rw[e1,h7]⟩
   · rw[if_neg (by rw[h5];decide),←h6]at e1
     have hI2:=hR.step k _ x hI hk hx2 h5
     have hI3:I (k+1) {e with next:=nx}:=by rw[h6];exact hI2
     refine .inl ⟨?_,hR.next _ _ hI3,e1,hI3⟩
     have:=congrArg Dv.fault h6
     exact this.trans h5
 ·rw[hf]at h1;cases h1
theorem RJ.over{s:Sm}{I:Nat→Dv→Prop}{v0 d:Dv}{k:Nat}{z:Int}(h:RJ s I v0 k z d)(hf:d.fault=true∨¬z<s.code.length):rs (runV s 1048576 v0)=rs d:=by
 rcases h with⟨h0,_,hv,_⟩|⟨_,h⟩
 · rcases hf with hf|hf
   ·rw[h0]at hf;cases hf
   ·rw[hv,runV_end hf];rfl
 ·exact h
theorem RJ.fit{s t:Sm}{I:Nat→Dv→Prop}(hR:Runs2 t I)(hst:sameM s t){v0 d:Dv}{k a:Nat}{x:Ins}(h:RJ t I v0 k a d)(hf:d.fault=false)(hx:t.code[a]?=some x)(hfl:s.fail.length≤1000000):Fit s x d∧Okr s d:=by
 rcases h with⟨_,h0,hv,hI⟩|⟨h1,_⟩
 · have hx2:t.code[({d with next:=((a:Nat):Int)}:Dv).next.toNat]?=some x:=by show t.code[((a:Nat):Int).toNat]?=some x;rw[Int.toNat_natCast];exact hx
   obtain⟨f,o⟩:=hR.fit k _ x hI hx2
   exact⟨Fit.at_ (n:=((a:Nat):Int)) (Fit.at_ (f.sameM hst)),⟨o.tabs,o.disk,hfl,o.effs,o.sends,o.disks,by rw[hst.2.2.2.2.1];exact o.dsk⟩⟩
 ·rw[hf]at h1;cases h1
theorem RJ.effs{s:Sm}{I:Nat→Dv→Prop}(hR:Runs2 s I){v0 d:Dv}{k:Nat}{z:Int}(h:RJ s I v0 k z d)(hf:d.fault=false):d.effs.length≤2000000:=by
 rcases h with⟨_,_,_,hI⟩|⟨h1,_⟩
 · have:=hR.effs _ _ hI
   exact this
 ·rw[hf]at h1;cases h1
open Go.RowKit Go.Flow Go.Mem Go.Sep
theorem tall_fn(A:OA)(n ca:Nat):
    Dz 79 [.agg #[.slice A n ca]] [] (fun v Γ'=>∃b,v= .func (.func 126) #[] #[pv b]∧Γ'=[ro (some ⟨b,0,none⟩) [.slice A n ca]]):=by
 refine Does.en func79 ntmps79 fun w0=>?_
 refine Js (To.g (Jbo fun b1=>?_))
 refine Jz 5 ?_
 refine Jr (Rd.makeFunc rfl rfl rfl) ?_
 refine Jz 4 ?_
 refine JlayBox (Je1 results79 ?_)
 exact⟨_,rfl,rfl⟩
theorem titer_fn(A:OA)(ca:Nat)(l:List (Int×Int))(hl:l.length≤1000000)(b1 lp:Nat)(J:Nat→Chunk→Prop)(X:Chunk→Prop)(c:Chunk)
    (hY:∀(k:Nat) (c:Chunk) (x:Int×Int),J k c→l[k]?=some x→RoundDoes prog lp [.int .i64 x.1, .int .i64 x.2] [c] (fun v Γ'=>∃c',Γ'=[c']∧((v= .bool true∧J (k+1) c')∨(v= .bool false∧X c')))) (h0:J 0 c):
    Dz 126 [.func (.yield lp) #[] #[],pv b1] [ro (some ⟨b1,0,none⟩) [vs A l ca],ros encEn A l,c] (fun _ Γ'=>∃c',Γ'=[c']∧(J l.length c'∨X c')):=by
 refine Does.enterR func126 rfl ntmps126 rfl (fun w0=>?_)
 refine ToR.seq (ToR.reg (ToR.rd rfl rfl rfl (Rd.field rfl rfl fl54_0) (ToR.rd rfl rfl rfl (Rd.ld (i:=0) rfl rfl c52 rfl (ro_gives (A:=some ⟨b1,0,none⟩) (o:=0) (k:=1) rfl)) (ToR.rd rfl rfl rfl (Rd.len rfl rfl underlying52) (ToR.rd rfl rfl rfl (Rd.move rfl rfl) (ToR.nil (Jt ?_)))))))
 refine ToR.block (Jsub [(0, .func (.yield lp) #[] #[]),(6,vs A l ca),(7,nv l.length),(8,nv 0)] sb (ToR.loop (fun mz ρ Γ=>∃(i:Nat) (c:Chunk),ρ=[(0, .func (.yield lp) #[] #[]),(6,vs A l ca),(7,nv l.length),(8,nv i)]∧Γ=[ro (some ⟨b1,0,none⟩) [vs A l ca],ros encEn A l,c]∧mz=l.length-i∧(i≤l.length)∧(J i c)) (l.length-0) ⟨0,c,rfl,rfl,rfl,(Nat.zero_le _),h0⟩ ?_))
 rintro mz _ _ ⟨i,c,rfl,rfl,rfl,hi,hJ⟩
 refine ToR.seq (ToR.reg (ToR.rd rfl rfl rfl (Rd.lss rfl rfl rfl) (ToR.nil (Jt (ToR.seq (ToR.condP rfl (fun k9=>?_) (fun k9=>?_)))))))
 obtain⟨x,hx⟩:=exg l i om
 refine ToR.skip (Jt (ToR.seq (ToR.block (ToR.seq (ToR.reg (ToR.rd rfl rfl rfl (Rd.ixo encEn_ok (i:=1) (j:=i) rfl rfl rfl s52 rfl hx) (ToR.rd rfl rfl rfl (Rd.lS (i:=1) rfl rfl r142 rfl (rsg encEn_ok hx) (encEn_ok.len _)) ?_)))))))
 refine ToR.alloc rfl rfl rfl rfl z142 (fun b4=>?_)
 refine ToR.up rfl rfl (Up.storeS (i:=0) rfl rfl rfl r142 rfl rfl rfl (bta rfl)) (ToR.nil (Jt (ToR.seq (ToR.reg (ToR.rd rfl rfl rfl (Rd.move rfl rfl) (ToR.rd rfl rfl rfl (Rd.field rfl rfl fl142_0) (ToR.rd rfl rfl rfl (Rd.ld (i:=0) rfl rfl c2 rfl (bg1 rfl)) ?_)))))))
 refine ToR.rd rfl rfl rfl (Rd.field rfl rfl fl142_1) (ToR.rd rfl rfl rfl (Rd.ld (i:=0) rfl rfl c2 rfl (bg1 rfl)) (ToR.round [3] rfl rfl rfl (EntY.of rfl rfl rfl) rfl (hY i c x hJ hx) ?_))
 rintro _ _ ⟨c',rfl,(⟨rfl,hJ'⟩|⟨rfl,hX⟩)⟩
 refine ToR.rd rfl rfl rfl (Rd.not rfl rfl) (ToR.nil (Jt (ToR.condF rfl (ToR.skip (Jz 2 ?_)))))
 refine ToR.reg (ToR.rd rfl rfl rfl (Rd.inc rfl rfl rfl om) (ToR.rd rfl rfl rfl (Rd.move rfl rfl) (ToR.nil (Jt (Jdel1 (Jup2 (Jup2 (JagS (l.length-(i+1)) om ⟨⟨i+1,c',rfl,rfl,rfl,om,hJ'⟩,sb⟩))))))))
 refine ToR.rd rfl rfl rfl (Rd.not rfl rfl) (ToR.nil (Jt (ToR.condT rfl (ToR.ret (Jz 4 ?_)))))
 refine Jdel3 (Jdel2 (Jdel1 (Jend0 (.inl rfl) results126 ?_)))
 exact⟨c',rfl, .inr hX⟩
 refine ToR.exit (Jz 3 ?_)
 refine Jdel1 (Jdel0 (Jend0 (.inr rfl) results126 ?_))
 refine⟨c,rfl, .inl ?_⟩
 rw[show l.length=i by omega];exact hJ
theorem sameTable_fn(A B:OA)(ca cb:Nat)(l m:List (Int×Int))(hl:l.length≤1000000):
    Dz 44 [.agg #[vs A l ca],vs B m cb] [ros encEn A l,ros encEn B m] (fun v _=>v= .bool (decide (l=m))):=by
 refine Does.enterM func44 rfl ntmps44 rfl (fun w0=>?_)
 refine Js (To.g (Jbo fun b2=>?_))
 refine Jbo fun b3=>?_
 refine Jal fun b4=>?_
 refine Jz 4 ?_
 refine Jal fun b5=>?_
 refine Jz 7 ?_
 refine Jcf [] (tall_fn A l.length ca) ?_
 rintro _ _ ⟨bt,rfl,rfl⟩
 refine Jz 3 ?_
 refine Jsub [(3,pv b3),(4,pv b4),(5,pv b5),(9, .func (.func 126) #[] #[pv bt])] sb (Jdel4 (Jup2 (Jup4 (Jup2 (Jas [ro (some ⟨bt,0,none⟩) [vs A l ca],ros encEn A l,box b4 [.bool false] 4,box b5 [nv 0] 3,box b3 [vs B m cb] 58,ros encEn B m] rfl (To.rangeFuncA (Γa:=[ro (some ⟨bt,0,none⟩) [vs A l ca],ros encEn A l]) (Γc:=[box b4 [.bool false] 4,box b5 [nv 0] 3,box b3 [vs B m cb] 58,ros encEn B m]) (fun Γ2=>(l.take l.length=m.take l.length∧l.length≤m.length)∧Γ2=[box b4 [.bool false] 4,box b5 [nv l.length] 3,box b3 [vs B m cb] 58,ros encEn B m]) (fun Γ2=>l≠m∧∃k:Nat,Γ2=[box b4 [.bool false] 4,box b5 [nv k] 3,box b3 [vs B m cb] 58,ros encEn B m]) rfl (kc.h 126 rfl) (fun lp L hLp hLa hLb hLt=>?_) ?_ ?_))))))
 refine(titer_fn A ca l hl bt lp (fun k c=>(l.take k=m.take k∧k≤m.length)∧c=all (recd lp L .ready none::[box b4 [.bool false] 4,box b5 [nv k] 3,box b3 [vs B m cb] 58,ros encEn B m])) (fun c=>l≠m∧∃k:Nat,c=all (recd lp L .done (some .ret)::[box b4 [.bool false] 4,box b5 [nv k] 3,box b3 [vs B m cb] 58,ros encEn B m])) _ ?_ ⟨⟨rfl,Nat.zero_le _⟩,rfl⟩).mono ?_
 rintro k _ x ⟨⟨hI,hkm⟩,rfl⟩ hx
 have hkl:=(List.getElem?_eq_some_iff.1 hx).1
 refine RoundDoes.of2 (Γe:=[]) hLp hLa hLb hLt rfl rfl (fun w1=>?_)
 refine Jas [recd lp L .ready none,box b4 [.bool false] 4,box b5 [nv k] 3,box b3 [vs B m cb] 58,ros encEn B m] rfl (ToR.seq (ToR.reg (ToR.rd rfl rfl rfl (Rd.assign rfl rfl) (ToR.nil (Jt (ToR.reg (ToR.rd rfl rfl rfl (Rd.assign rfl rfl) ?_)))))))
 refine ToR.nil (Jt (To.begins (ToR.block (ToR.seq (ToR.seq (ToR.reg (ToR.rd rfl rfl rfl (Rd.ld (i:=2) rfl rfl c3 rfl (bg1 rfl)) (ToR.rd rfl rfl rfl (Rd.ld (i:=3) rfl rfl c58 rfl (bg1 rfl)) ?_))))))))
 refine ToR.rd rfl rfl rfl (Rd.len rfl rfl underlying58) (ToR.rd rfl rfl rfl (Rd.geq rfl rfl rfl) (ToR.rdP rfl rfl rfl (Rd.move rfl rfl) (fun g16=>?_) (fun g16=>?_)))
 refine ToR.sk rfl rfl rfl (ToR.sk rfl rfl rfl (ToR.sk rfl rfl rfl (ToR.sk rfl rfl rfl (ToR.sk rfl rfl rfl (ToR.sk rfl rfl rfl (ToR.sk rfl rfl rfl (ToR.sk rfl rfl rfl ?_)))))))
 refine ToR.rd rfl rfl rfl (Rd.pickT rfl rfl rfl) (ToR.nil (Jt (ToR.condT rfl (ToR.seq (ToR.reg (ToR.up rfl rfl (Up.store (i:=1) rfl rfl rfl c4 rfl rfl (bta rfl)) (ToR.nil ?_)))))))
 refine Jt (ToR.ret (Jz 2 ?_))
 exact JroundR (⟨_,rfl, .inr ⟨rfl,fun e=>by rw[e]at hkl;omega,k,rfl⟩⟩)
 obtain⟨y,hy⟩:=exg m k om
 refine ToR.rd rfl rfl rfl (Rd.ld (i:=3) rfl rfl c58 rfl (bg1 rfl)) (ToR.rd rfl rfl rfl (Rd.ld (i:=2) rfl rfl c3 rfl (bg1 rfl)) (ToR.rd rfl rfl rfl (Rd.ixo encEn_ok (i:=4) (j:=k) rfl rfl rfl s58 rfl hy) (ToR.rd rfl rfl rfl (Rd.lS (i:=4) rfl rfl r92 rfl (rsg encEn_ok hy) (encEn_ok.len _)) (ToR.rd rfl rfl rfl (Rd.move rfl rfl) (ToR.rd rfl rfl rfl (Rd.move rfl rfl) (ToR.rd rfl rfl rfl (.bd [.int .i64 x.1, .int .i64 x.2]) (ToR.rd rfl rfl rfl (Rd.neqA2 (p:=y) (q:=x) arrPr rfl rfl rfl) ?_)))))))
 refine ToR.rd rfl rfl rfl (Rd.pickF rfl rfl rfl) (ToR.nil (Jt (ToR.condP rfl (fun k25=>?_) (fun k25=>?_))))
 refine ToR.seq (ToR.reg (ToR.up rfl rfl (Up.store (i:=1) rfl rfl rfl c4 rfl rfl (bta rfl)) (ToR.nil (Jt (ToR.ret (Jz 2 ?_))))))
 exact JroundR (⟨_,rfl, .inr ⟨rfl,fun e=>k25 (by rw[e,hy]at hx;exact Option.some.inj hx),k,rfl⟩⟩)
 refine ToR.skip (Jt (ToR.reg (ToR.rd rfl rfl rfl (Rd.ld (i:=2) rfl rfl c3 rfl (bg1 rfl)) (ToR.rd rfl rfl rfl (Rd.inc rfl rfl rfl om) (ToR.up rfl rfl (Up.store (i:=2) rfl rfl rfl c3 rfl rfl (bta rfl)) (ToR.nil (Jbn (To.roundN ?_))))))))
 exact⟨_,rfl, .inl ⟨rfl,⟨by rw[take_of_get hx,take_of_get hy,hI,show x=y from(Decidable.of_not_not k25).symm],by omega⟩,rfl⟩⟩
 rintro v Γ' ⟨c',rfl,(⟨hJ,rfl⟩|⟨hX,k,rfl⟩)⟩
 ·exact⟨_, .inl ⟨rfl,hJ,rfl⟩⟩
 ·exact⟨_, .inr ⟨rfl,hX,k,rfl⟩⟩
 rintro D _ ⟨⟨hI,hlm⟩,rfl⟩
 refine Jas [dfr D,box b4 [.bool false] 4,box b5 [nv l.length] 3,box b3 [vs B m cb] 58,ros encEn B m] rfl (Jz 12 ?_)
 refine JendM (.inl rfl) results44 rfl (i:=0) rfl c4 rfl rfl (congrArg Value.bool (decide_eq_decide.2 ⟨fun h=>?_,fun h=>by rw[h]⟩))
 have h2:l.length=m.length:=om
 rw[List.take_length,h2,List.take_length]at hI
 exact hI
 rintro D _ ⟨hne,k,rfl⟩
 refine Jas [dfr D,box b4 [.bool false] 4,box b5 [nv k] 3,box b3 [vs B m cb] 58,ros encEn B m] rfl (Jz 2 ?_)
 exact JendM (.inl rfl) results44 rfl (i:=0) rfl c4 rfl rfl (congrArg Value.bool (decide_eq_false hne).symm)
def Sx.small2(s:Sx):Prop:=s.vars.length≤1000000∧s.tabs.length≤1000000∧(∀x∈s.tabs,x.l.length≤1000000)∧s.dk.l.length≤1000000
theorem sameState_fn(a b:Sx)(ha:a.small2):
    Dz 21 [.agg #[vs a.Av a.vars a.qv,vs a.At a.tabs a.qt,vs a.dk.A a.dk.l a.dk.q], .agg #[vs b.Av b.vars b.qv,vs b.At b.tabs b.qt,vs b.dk.A b.dk.l b.dk.q]] [ros encI a.Av a.vars,ros Tb.cells a.At a.tabs,rosS encEn (a.tabs.map Tb.ar),ros encEn a.dk.A a.dk.l,ros encI b.Av b.vars,ros Tb.cells b.At b.tabs,rosS encEn (b.tabs.map Tb.ar),ros encEn b.dk.A b.dk.l] (fun v _=>v= .bool (decide (a.val=b.val))):=by
 have hmx:∀{k:List Tb} {i:Nat} {x:Tb},k[i]?=some x→(k.map Tb.l)[i]?=some x.l:=fun h=>by rw[List.getElem?_map,h];rfl
 obtain⟨ha1,ha2,ha3,ha4⟩:=id ha
 refine Does.en func21 ntmps21 fun w0=>?_
 refine Js (To.g (Jbo fun b2=>?_))
 refine Jbo fun b3=>?_
 refine Jz 10 ?_
 refine Jvf (sameArgs_fn a.Av b.Av a.qv b.qv a.vars b.vars (by have:=ha.1;omega)) rfl (ocs (oca 2 rfl) (ocs (oca 6 rfl) (ocn _))) ?_
 refine Jnt ?_
 refine JgB ?_ ?_<;>intro g12
 refine Jz 26 ?_
 refine Je1 results21 ?_
 refine congrArg Value.bool (decide_eq_false (fun e=>?_)).symm
 simp only[Sx.val,Prod.mk.injEq]at e
 obtain⟨e1,e2,e3⟩:=e
 have e4:a.tabs.length=b.tabs.length:=by simpa using congrArg List.length e2
 first|omega|simp_all
 refine Jz 8 ?_
 refine JgP ?_ ?_<;>intro g21
 refine Jz 17 ?_
 refine Je1 results21 ?_
 refine congrArg Value.bool (decide_eq_false (fun e=>?_)).symm
 simp only[Sx.val,Prod.mk.injEq]at e
 obtain⟨e1,e2,e3⟩:=e
 have e4:a.tabs.length=b.tabs.length:=by simpa using congrArg List.length e2
 first|omega|simp_all
 refine Jz 1 ?_
 refine Jr (Rd.lS (i:=1) (us:=[vs a.dk.A a.dk.l a.dk.q]) rfl rfl r54 rfl (box_gives (n:=1) rfl) rfl) ?_
 refine Jz 2 ?_
 refine Jvf (sameTable_fn a.dk.A b.dk.A a.dk.q b.dk.q a.dk.l b.dk.l ha.2.2.2) rfl (ocs (oca 5 rfl) (ocs (oca 9 rfl) (ocn _))) ?_
 refine Jz 4 ?_
 refine Jcond rfl ?_ ?_<;>intro k28
 refine Jz 7 ?_
 refine Je1 results21 ?_
 refine congrArg Value.bool (decide_eq_false (fun e=>?_)).symm
 simp only[Sx.val,Prod.mk.injEq]at e
 obtain⟨e1,e2,e3⟩:=e
 have e4:a.tabs.length=b.tabs.length:=by simpa using congrArg List.length e2
 first|omega|simp_all
 refine Jz 4 ?_
 have hv:a.vars=b.vars:=by simpa using g12
 have hlen:a.tabs.length=b.tabs.length:=om
 have hd:a.dk.l=b.dk.l:=by simpa using k28
 refine Jz 8 ?_
 refine Jup1 (JloopS (fun mz ρ Γ=>∃(i:Nat),ρ=[(2,pv b2),(3,pv b3),(31,nv a.tabs.length),(32,nv i)]∧Γ=[box b2 [vs a.Av a.vars a.qv,vs a.At a.tabs a.qt,vs a.dk.A a.dk.l a.dk.q] 56,box b3 [vs b.Av b.vars b.qv,vs b.At b.tabs b.qt,vs b.dk.A b.dk.l b.dk.q] 60,ros encI a.Av a.vars,ros Tb.cells a.At a.tabs,rosS encEn (a.tabs.map Tb.ar),ros encEn a.dk.A a.dk.l,ros encI b.Av b.vars,ros Tb.cells b.At b.tabs,rosS encEn (b.tabs.map Tb.ar),ros encEn b.dk.A b.dk.l]∧mz=a.tabs.length-i∧(i≤a.tabs.length)∧((a.tabs.map Tb.l).take i=(b.tabs.map Tb.l).take i)) (a.tabs.length-0) ⟨⟨0,rfl,rfl,rfl,(Nat.zero_le _),rfl⟩,sb⟩ ?_)
 rintro mz _ _ ⟨i,rfl,rfl,rfl,hi,hI⟩
 refine Jz 6 ?_
 refine Jcp rfl ?_ ?_<;>intro k33
 obtain⟨x,hx⟩:=exg a.tabs i om
 obtain⟨y,hy⟩:=exg b.tabs i om
 refine Jz 11 ?_
 refine Jfw [] [0,2,5,7,101,103,104,106,108,109,310,11] (ocn _) ?_
 refine Jz 10 ?_
 refine Fw.qf (sameTable_fn x.A y.A x.q y.q x.l y.l (ha.2.2.1 x (mog hx))) (ocs (oks_S 4 rfl (mem_at hx Tb.ar)) (ocs (oks_S 8 rfl (mem_at hy Tb.ar)) (ocn _))) ?_
 refine Jz 3 ?_
 refine Jcond rfl ?_ ?_<;>intro k46
 refine Jz 11 ?_
 refine Je1 results21 ?_
 refine congrArg Value.bool (decide_eq_false (fun e=>?_)).symm
 simp only[Sx.val,Prod.mk.injEq]at e
 obtain⟨e1,e2,e3⟩:=e
 have e4:a.tabs.length=b.tabs.length:=by simpa using congrArg List.length e2
 have h1:=hmx hx
 rw[e2,hmx hy]at h1
 have h2:=Option.some.inj h1
 simp[h2]at k46
 refine Jz 8 ?_
 refine JagS (a.tabs.length-(i+1)) om ⟨⟨i+1,rfl,rfl,rfl,om,(by rw[take_of_get (hmx hx),take_of_get (hmx hy),hI,show x.l=y.l from by simpa using k46])⟩,sb⟩
 refine Jz 11 ?_
 refine Je1 results21 ?_
 refine congrArg Value.bool (decide_eq_true ?_).symm
 unfold Sx.val
 rw[hv,hd,eq_len (by simp only[List.length_map];omega) (by simp only[List.length_map];omega) hI]
def Dm.sx(d:Dm):Sx:=⟨d.Av,d.qv,d.vars,d.At,d.qt,d.tabs,d.dk⟩
end Go.Proofs.YtlihklladkagpaaGreatDoor
