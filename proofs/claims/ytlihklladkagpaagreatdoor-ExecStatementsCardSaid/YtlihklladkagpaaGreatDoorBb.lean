/- Own text. -/
import Derived.Test.YtlihklladkagpaaGreatDoorAc
import Derived.Test.YtlihklladkagpaaGreatDoorBa
set_option maxHeartbeats 8000000
set_option maxRecDepth 100000
set_option linter.unusedVariables false
set_option linter.unusedSimpArgs false
namespace Go.Sep
open Go.RowKit Go.Flow Go.Mem
theorem cn0{p:Prop}(h:p:=by have h0:Ca []=0:=rfl;have h1:Ba []=[]:=rfl;simp only[h1,h0];omega):p:=h
section
variable{P:Program}{T:Tel}{l:List Oper}{Q:Act→World→Prop}
theorem Wh{m p i:Nat}{a:Act}{w:World}{K:Act→World→Prop}(h:rE P T (tie l m p).toArray i K a w):∃o,l[i]?=some o∧Hq T i P l.toArray o a w fun v w'=>K (a.put o.dst v) w':=by
 obtain⟨o,h1,h2⟩:=h
 simp only[List.getElem?_toArray,Zf,aFg]at h1
 obtain⟨o',h3,h4⟩:=h1
 refine⟨o',h3,?_⟩
 have e1:o.dst=o'.dst:=by rw[←h4];split<;>rfl
 have e2:execOp a.eval o=execOp a.eval o':=by rw[←h4];split<;>rfl
 have e3:o.guard=o'.guard:=by rw[←h4];split<;>rfl
 have e4:Region.wanted o' (yielded l.toArray a.tmps)=Region.wanted o (yielded (tie l m p).toArray a.tmps):=by rw[dA];unfold Region.wanted;rw[e3]
 have key:∀K,He P (tie l m p).toArray o a w K→He P l.toArray o' a w K:=fun K hk=>by
  unfold He at*
  rw[e4,←e2];exact hk
 rw[e1]at h2
 unfold Hq at*
 split
 ·rename_i hT;rw[hT]at h2;exact key _ h2
 ·rename_i t hT;rw[hT]at h2;exact⟨key _ h2.1,h2.2⟩
theorem bU{m p:Nat}:∀(fuel:Nat) (listed:Array Bool) (a:Act) (w:World),listed.getD p false=true→Yw P T (tie l m p).toArray Q fuel listed a w→Yw P T l.toArray Q fuel listed a w
 | 0,listed,a,w,hp,h=>by
   refine⟨aFv.2 fun i hi=>?_,h.2⟩
   have h1:=Gd (m:=m) (p:=p).2 ⟨hi,fun _=>hp⟩
   rw[h.1]at h1;cases h1
 | fuel+1,listed,a,w,hp,h=>by
   refine⟨fun hr=>h.1 (aFv.2 fun i hi=>?_),fun i hi=>?_⟩
   · have h1:=(Gd.1 hi).1
     rw[hr]at h1;cases h1
   · obtain⟨o,h1,h2⟩:=Wh (h.2 i (Gd.2 ⟨hi,fun _=>hp⟩))
     exact⟨o,by simpa using h1,h2.mono fun v w' hv=>bU fuel _ _ _ (gY hp) hv⟩
theorem uD{i:Nat}{ops:Array Oper}{o:Oper}{a:Act}{w:World}{K K':Value→World→Prop}(hp:jL o∨(T i).isSome=true)(h:Hq T i P ops o a w K)(h':Hq T i P ops o a w K'):Hq T i P ops o a w fun v w'=>K v w'∧K' v w':=by
 unfold Hq at*
 split
 · rename_i hT
   rw[hT]at h h'
   rcases hp with hp|hp
   ·exact EW hp h h'
   ·rw[hT]at hp;cases hp
 · rename_i t hT
   rw[hT]at h h'
   exact⟨h.1,fun v w' hv=>⟨h.2 v w' hv,h'.2 v w' hv⟩⟩
theorem jQ{m p:Nat}(hne:m≠p)(hpl:∀i o,l[i]?=some o→(jL o∨(T i).isSome=true)∨i=m∨i=p∨∃e∈o.after,Region.binds .any e=true∧(e.on=m∨e.on=p)):∀(fuel:Nat) (listed:Array Bool) (a:Act) (w:World),Yw P T (tie l m p).toArray Q fuel listed a w→Yw P T (tie l p m).toArray Q fuel listed a w→listed.getD p false=false→listed.getD m false=false→Yw P T l.toArray Q fuel listed a w
 | 0,listed,a,w,h1,h2,hp,hm=>by
   refine⟨aFv.2 fun i hi=>?_,h1.2⟩
   by_cases e:i=m
   · have:=Gd (m:=p) (p:=m).2 ⟨hi,fun e2=>absurd (e.symm.trans e2) hne⟩
     rw[h2.1]at this;cases this
   · have:=Gd (m:=m) (p:=p).2 ⟨hi,fun e2=>absurd e2 e⟩
     rw[h1.1]at this;cases this
 | fuel + 1,listed,a,w,h1,h2,hp,hm=>by
   refine⟨fun hr=>h1.1 (aFv.2 fun i hi=>?_),fun i hi=>?_⟩
   · have h1:=(Gd.1 hi).1
     rw[hr]at h1;cases h1
   · have hl:=(Rh.1 hi).1
     by_cases em:i=m
     · obtain⟨o,h3,h4⟩:=Wh (h2.2 i (Gd.2 ⟨hi,fun e2=>absurd (em.symm.trans e2) hne⟩))
       exact⟨o,by simpa using h3,h4.mono fun v w' hv=>bU fuel _ _ _ (by rw[em]at hl⊢;exact Ue hl) hv⟩
     · by_cases ep:i=p
       · obtain⟨o,h3,h4⟩:=Wh (h1.2 i (Gd.2 ⟨hi,fun e2=>absurd e2 em⟩))
         exact⟨o,by simpa using h3,h4.mono fun v w' hv=>bU fuel _ _ _ (by rw[ep]at hl⊢;exact Ue hl) hv⟩
       · obtain⟨o,h3,h4⟩:=Wh (h1.2 i (Gd.2 ⟨hi,fun e2=>absurd e2 em⟩))
         obtain⟨o',h3',h4'⟩:=Wh (h2.2 i (Gd.2 ⟨hi,fun e2=>absurd e2 ep⟩))
         rw[h3]at h3'
         obtain rfl:=aEn h3'
         have hun:∀k,i≠k→listed.getD k false=false→(listed.setIfInBounds i true).getD k false=false:=fun k hk hf=>by
          rw[aFx]at*
          rw[Array.getElem?_setIfInBounds,aEa hk];exact hf
         have hpo:jL o∨(T i).isSome=true:=by
          rcases hpl i o h3 with hq|hq|hq|⟨e,he,hb,hq⟩
          ·exact hq
          ·exact absurd hq em
          ·exact absurd hq ep
          · obtain⟨_,o2,h5,h6⟩:=Rh.1 hi
            rw[h3]at h5
            obtain rfl:=aEn h5
            have h7:=h6 e he hb
            rcases hq with hq|hq<;>rw[hq]at h7
            ·rw[hm]at h7;cases h7
            ·rw[hp]at h7;cases h7
         exact⟨o,by simpa using h3,(uD hpo h4 h4').mono fun v w' ⟨hv,hv'⟩=>jQ hne hpl fuel _ _ _ hv hv' (hun p ep hp) (hun m em hm)⟩
def aK(T:Tel)(m p:Nat):Nat→List Oper→Bool
 |_,[]=>true
 |i,o::l=>(aI o||(T i).isSome||Nat.beq i m||Nat.beq i p||UR m p o)&&aK T m p (i+1) l
theorem dO{m p:Nat}:∀{l:List Oper} {k i:Nat} {o:Oper},aK T m p k l=true→l[i]?=some o→(aI o=true∨(T (k+i)).isSome=true)∨k+i=m∨k+i=p∨∃e∈o.after,Region.binds .any e=true∧(e.on=m∨e.on=p)
 |[],_,_,_,_,h=>by simp at h
 | o ::l,k,i,o',h,hi=>by
   rw[aK,aFd]at h
   cases i with
   | zero=>
     obtain rfl:o=o':=by simpa using hi
     have h1:=h.1
     simp only[aFr]at h1
     rcases h1 with(((h1|h1)|h1)|h1)|h1
     ·exact .inl (.inl h1)
     ·exact .inl (.inr h1)
     ·exact .inr (.inl (aFz h1))
     ·exact .inr (.inr (.inl (aFz h1)))
     · obtain⟨e,he,h2⟩:=List.any_eq_true.1 h1
       simp only[aFd,aFr]at h2
       exact .inr (.inr (.inr ⟨e,Array.mem_toList_iff.1 he,h2.1,h2.2.imp aFz aFz⟩))
   | succ i=>
     have:=dO h.2 (i:=i) (o:=o') (by simpa using hi)
     rwa[show k+1+i=k+(i+1) by omega]at this
def jT(P:Program)(T:Tel)(l:List Oper)(Q:Act→World→Prop)(a:Act)(w:World):Prop:=Yw P T l.toArray Q l.length (Array.replicate l.length false) a w
end
section
variable{P:Program}{l:List Oper}{Q:Act→World→Prop}{C:Cx}{ρ:Cb}{Γ:List Ai}
theorem Ki{id:Nat}{R:Exit→Act→World→Prop}(T:Tel)(hm:P.follows .mixedOrders=true)(h:To C ρ Γ (jT P T l (R .normal))):To C ρ Γ ((Code.region id l.toArray true).wp P R):=fun a w ha hp=>by
 refine wp_region_any hm (Rm.any (fun _ _ h=>h) _ _ _ _ ?_)
 have:=h a w.drew ha (hp.ext (CZ w))
 have:=Yw.anyI this
 simpa using this
theorem Qy{T:Tel}(Θ:List Ai)(ms:List Fe)(hB:Kz l ms=true)(hT:vU T ms=true)(hΘ:∀w,oks Γ w→oks Θ w)(h:Dw P T l Θ Q ms C ρ Γ []):To C ρ Γ (jT P T l Q):=fun a w ha hp=>by
 have hS:=hΘ w hp.sat.each
 have hfl:=h a w [] ha hp trivial
 have hx:Ext w w:=Jd w
 show Yw P T l.toArray Q l.length (Array.replicate l.length false) a w
 refine gB (S:=oks Θ) (ms:=ms) (a0:=a) hB (fun _ _=>Zd) hT _ _ _ _ ?_ ?_
 · have hno:∀j,¬exd (Array.replicate l.length false) j:=fun j=>by
     unfold exd
     simp only[aFx,Array.getElem?_replicate]
     split<;>simp
   exact⟨[],ms,a,w,[],fun _=>undef,fun _=>w,fun _=>w,rfl,by simp,fun i o _ hx=>(hno i hx).elim,⟨rfl,rfl,fun _ _=>rfl,fun j _ _ _ _ hx=>(hno j hx).elim⟩,
    ⟨rfl,rfl,fun _ _=>rfl,fun j _ _ _ _ hx=>by obtain⟨m,hm,_⟩:=hx;simp at hm⟩,hfl,hx,hS,fun p hp=>by simp at hp,fun j hx=>(hno j hx).elim,fun i _ hx=>(hno i hx).elim,fun p hp=>by simp at hp,fun p _ hx=>(hno _ hx).elim⟩
 ·simp[List.countP_replicate]
theorem Lc{P:Program}{C:Cx}{ρ:Cb}{Γ:List Ai}{l:List Oper}{Q:Act→World→Prop}{T:Tel}{ms:List Fe}(Θ:List Ai)(ns:List Nat)(hΘ:∀w,oks Γ w→oks Θ w)(h:Dw P T l Θ Q ms C ρ Γ [])(hn:nmt ns=ms:=by simp only[nmt,aFn,List.map_nil,Nat.reduceMod,Nat.reduceDiv,Nat.reduceSub,Nat.reduceBEq,cond_true,cond_false];exact rfl)(hB:Kz l ms=true:=by kernel_rfl)(hT:vU T ms=true:=by rfl):To C ρ Γ (jT P T l Q):=Qy Θ ms hB hT hΘ h
theorem Hy{T:Tel}(m p:Nat)(hne:Nat.beq m p=false)(hpl:aK T m p 0 l=true)(h1:To C ρ Γ (jT P T (tie l m p) Q))(h2:To C ρ Γ (jT P T (tie l p m) Q)):To C ρ Γ (jT P T l Q):=fun a w ha hp=>by
 have g1:=h1 a w ha hp
 have g2:=h2 a w ha hp
 unfold jT at*
 rw[oJ]at g1 g2
 have hno:∀j,(Array.replicate l.length false).getD j false=false:=fun j=>by
  simp only[aFx,Array.getElem?_replicate]
  split<;>rfl
 refine jQ (fun e=>by rw[e,Nat.beq_refl]at hne;cases hne) (fun i o ho=>?_) _ _ _ _ g1 g2 (hno p) (hno m)
 have:=dO hpl ho
 rw[aFl]at this
 exact this.imp (fun h=>h.imp EU id) id
end
end Go.Sep
namespace Go.Proofs.YtlihklladkagpaaGreatDoor
open Go.RowKit Go.Flow Go.Mem Go.Sep Go.In
theorem Qz{C:Cx}{ρ:Cb}{Γ:List Ai}{K:Act→World→Prop}(s:St)(k:To C ρ (all (s.kids Dk aMc)::Γ) K):To C ρ (all (lsE s.A s.exprs)::all (lsS s.At s.thn)::all (lsS s.Ae s.els)::Γ) K:=by
 refine To.perm (Γ':=all (lsS s.At s.thn)::all (lsS s.Ae s.els)::all (lsE s.A s.exprs)::Γ) ?_ (Kq (To.perm (aFc _ _ _) (Kq ?_)))
 ·exact(List.Perm.trans (List.Perm.cons _ (aFc _ _ _)) (aFc _ _ _)).symm
 ·rw[Rz]at k;exact k
theorem Xa{C:Cx}{ρ:Cb}{Γ:List Ai}{K:Act→World→Prop}(e:Ex)(O:List Ex)(k:To C ρ (all (El Dk ([e]++O))::Γ) K):To C ρ (all (lsE e.A e.args)::all (El Dk O)::Γ) K:=
 Kq (by rw[show lsE e.A e.args=e.kids Dk from(Lg Dk e).symm];exact k)
theorem Fz(l:List Ex):(Cv l).length=l.length:=by rw[Bz,aEg]
theorem Jw{p:PE→Prop}{l:List Ex}(h:∀x∈l,p x.pure):∀e∈Cv l,p e:=fun e he=>by
 rw[Bz]at he
 obtain⟨x,hx,rfl⟩:=aEv.1 he
 exact h x hx
theorem Nv{k:Nat}(h:k<3):([nC 0,nC 1,nC 2]:List ByteArray)[k]?=some (nC k):=by
 match k,h with
 |0,_=>rfl
 |1,_=>rfl
 |2,_=>rfl
def nmR(c n:Nat):Value→List Ai→Prop:=fun v Γ'=>∃(A:OA) (q:Nat),v= .slice A (nms c n).length q∧Γ'=[rows aMb 9 1 A q (nms c n)]∧(0<n→A=some ⟨blk A,ofs A,none⟩)
theorem Qe{m:Mr}{i:Nat}{a:Ar}(h:m.ars[i]?=some a):m.ct.ars[i]?=some a.l:=by
 show(m.ars.map Ar.l)[i]?=_
 rw[aEp,h];rfl
theorem LZ{m:Mr}(hm:m.ct.Ok){i:Nat}{a:Ar}(h:m.ars[i]?=some a):1≤a.l.length∧a.l.length≤3∧∀x∈a.l,x≤2:=hm.each a.l (mog (Qe h))
theorem fG(m:Mr):m.ct.ars.length=m.ars.length:=aEg ..
def aBr(b:Nat)(m:Mr)(n left:Nat):Value→List Ai→Prop:=fun v Γ'=>∃(l:List Ex) (A:OA) (ql:Nat) (B':OA) (q':Nat) (bl':List Nat),v=vs A l ql∧Γ'=[box b (cM m [vs B' bl' q',nv left]) 158,ros Gw B' bl',rows Dk 220 4 A ql l,all (El Dk l)]∧l.length=n∧(∀x∈l,Kh m.ct m.np 2 x.pure)∧okB bl' q'
def MB(b:Nat)(m:Mr)(d left:Nat):Value→List Ai→Prop:=fun v Γ'=>∃(l:List St) (A:OA) (ql:Nat) (B':OA) (q':Nat) (bl':List Nat) (left':Nat),v=vs A l ql∧Γ'=[box b (cM m [vs B' bl' q',nv left']) 158,ros Gw B' bl',all (arsK m.Aa m.ars),all (lsS A l)]∧(∀s∈Ba l,StE m.ct m.np (3-d) s)∧Ca (Ba l)+left'=left∧okB bl' q'
def VF(b:Nat)(m:Mr)(d left:Nat):Value→List Ai→Prop:=fun v Γ'=>∃(e:St) (B':OA) (q':Nat) (bl':List Nat) (left':Nat),v= .agg (aMc e).toArray∧Γ'=[box b (cM m [vs B' bl' q',nv left']) 158,ros Gw B' bl',all (arsK m.Aa m.ars),all (e.kids Dk aMc)]∧StE m.ct m.np (3-d) e.pure∧Ca (Ba e.thn)+Ca (Ba e.els)+left'=left∧okB bl' q'
theorem mX(b:Nat)(m:Mr)(hm:m.ct.Ok)(hnp:m.np≤2)(kk d:Nat)(hd:d≤3)(ih:d<3→∀(B:OA) (q:Nat) (bl:List Nat) (left:Nat),left≤12→okB bl q→aMa Tryz.prog 82 [pv b,nv (d+1)] [box b (cM m [vs B bl q,nv left]) 158,ros Gw B bl,all (arsK m.Aa m.ars)] (MB b m (d+1) left))(B:OA)(q:Nat)(bl:List Nat)(left:Nat)(hl:left≤12)(hb:okB bl q):
    aMa Tryz.prog 130 [pv b,nv kk,nv d] [box b (cM m [vs B bl q,nv left]) 158,ros Gw B bl,all (arsK m.Aa m.ars)] (VF b m d left):=by
 have hmi:1≤m.ints∧m.ints≤3:=hm.ints
 have hmt:m.tables≤1:=hm.tables
 have hmf:m.flags≤2:=hm.flags
 have hmo:m.own<m.ars.length:=by have:=hm.own;rwa[fG]at this
 have hma:m.ars.length≤3:=by have:=hm.some;rwa[fG]at this
 refine Am Tryz.func130 Tryz.ntmps130 fun w0=>?_
 refine Js (To.g (Jal fun b6=>?_))
 refine Jz 11 ?_
 refine Jcp rfl ?_ ?_<;>intro c18
 refine Jz 3 ?_
 refine Jcf [1,1] (aH b m hm hnp 2 0 rfl B q bl left hb) ?_
 rintro _ _ ⟨e,Bn,qn,bln,rfl,rfl,he,hbn⟩
 refine Eg (Dk e) fun b23=>?_
 refine Jr (.bd [iv 1, .string nB0, .string bE, .slice (some ⟨b23,0,none⟩) 1 1,nz,nz]) ?_
 refine Jz 6 ?_
 refine Ic (Lx (A:=(some ⟨b23,0,none⟩)) e (Fb (Fb (Jj (Qz (⟨1,nB0,bE,(some ⟨b23,0,none⟩),1,[e],none,0,[],none,0,[]⟩:St) (Gf [1,1,2,0] Tryz.results130 ?_))))))
 exact⟨(⟨1,nB0,bE,(some ⟨b23,0,none⟩),1,[e],none,0,[],none,0,[]⟩:St),_,_,_,_,rfl,rfl, .setB _ _ he,cn0,hbn⟩
 refine Js (To.g (Nk [0,1,2,6] 25 ((decide (((kk:Nat):Int)=3))&&decide (0<((m.tables:Nat):Int))) ?_ ?_))
 refine Jz 2 ?_
 refine JgP ?_ ?_<;>intro g28
 refine Jz 9 ?_
 refine Gg rfl (gg g28)
 refine Jz 9 ?_
 refine Gg rfl (gg g28)
 refine Ed rfl ?_ ?_<;>intro c25
 have c25:=bA c25
 refine Jz 3 ?_
 refine Jcf [1,1] (Ju b m hm hnp 3 0 rfl B q bl left hb) ?_
 rintro _ _ ⟨e,Bn,qn,bln,rfl,rfl,he,hbn⟩
 refine Jm ?_
 refine Jcf [0,0] (Ju b m hm hnp 3 0 rfl Bn qn bln left hbn) ?_
 rintro _ _ ⟨e_2,Bn_2,qn_2,bln_2,rfl,rfl,he_2,hbn_2⟩
 refine Eg [nv e.op, .string e.name,iv e.n,vs e.A e.args e.q,nv e_2.op, .string e_2.name,iv e_2.n,vs e_2.A e_2.args e_2.q] fun b39=>?_
 refine Jr (.bd [iv 2, .string nT0, .string bE, .slice (some ⟨b39,0,none⟩) 2 2,nz,nz]) ?_
 refine Jz 6 ?_
 refine Ic (Md (fF (A:=(some ⟨b39,0,none⟩)) e e_2 (Fb (Fb (Jj (Qz (⟨2,nT0,bE,(some ⟨b39,0,none⟩),2,[e,e_2],none,0,[],none,0,[]⟩:St) (Gf [1,1,2,0] Tryz.results130 ?_)))))))
 exact⟨(⟨2,nT0,bE,(some ⟨b39,0,none⟩),2,[e,e_2],none,0,[],none,0,[]⟩:St),_,_,_,_,rfl,rfl, .put _ _ _ (show 0<m.tables by omega) he he_2,cn0,hbn_2⟩
 have c25:=bA c25
 refine Js (To.g (Nk [0,1,2,6] 41 ((decide (((kk:Nat):Int)=4))&&decide (0<((m.tables:Nat):Int))) ?_ ?_))
 refine Jz 2 ?_
 refine JgP ?_ ?_<;>intro g44
 refine Jz 9 ?_
 refine Gg rfl (gg g44)
 refine Jz 9 ?_
 refine Gg rfl (gg g44)
 refine Ed rfl ?_ ?_<;>intro c41
 have c41:=bA c41
 refine Jz 3 ?_
 refine Jcf [1,1] (Ju b m hm hnp 3 0 rfl B q bl left hb) ?_
 rintro _ _ ⟨e,Bn,qn,bln,rfl,rfl,he,hbn⟩
 refine Eg (Dk e) fun b53=>?_
 refine Jr (.bd [iv 3, .string nT0, .string bE, .slice (some ⟨b53,0,none⟩) 1 1,nz,nz]) ?_
 refine Jz 6 ?_
 refine Ic (Lx (A:=(some ⟨b53,0,none⟩)) e (Fb (Fb (Jj (Qz (⟨3,nT0,bE,(some ⟨b53,0,none⟩),1,[e],none,0,[],none,0,[]⟩:St) (Gf [1,1,2,0] Tryz.results130 ?_))))))
 exact⟨(⟨3,nT0,bE,(some ⟨b53,0,none⟩),1,[e],none,0,[],none,0,[]⟩:St),_,_,_,_,rfl,rfl, .del _ _ (show 0<m.tables by omega) he,cn0,hbn⟩
 have c41:=bA c41
 refine Js (To.g (Nk [0,1,2,6] 55 (((decide (((kk:Nat):Int)=5))||(decide (((kk:Nat):Int)=6)))&&decide (((d:Nat):Int)<3)) ?_ ?_))
 refine Jz 2 ?_
 refine JgP ?_ ?_<;>intro g58
 refine Jz 10 ?_
 refine Gg rfl (gg g58)
 refine Jz 3 ?_
 refine JgP ?_ ?_<;>intro g62
 refine Jz 6 ?_
 refine Gg rfl (gg2 g58 g62)
 refine Jz 6 ?_
 refine Gg rfl (gg2 g58 g62)
 refine Ed rfl ?_ ?_<;>intro c55
 have c55:=bA c55
 refine Jz 3 ?_
 refine Jcf [1,1] (aH b m hm hnp 2 0 rfl B q bl left hb) ?_
 rintro _ _ ⟨e,Bn,qn,bln,rfl,rfl,he,hbn⟩
 refine Jal fun b7=>?_
 refine Jz 8 ?_
 refine Jcf [1,1,3] (ih om Bn qn bln left om hbn) ?_
 rintro _ _ ⟨ls,As,qs,Bn_2,qn_2,bln_2,leftn,rfl,rfl,hls,hcs,hbn_2⟩
 refine Jz 4 ?_
 refine Ki (tel []) mixed.h (Hy 1 6 rfl (by kernel_rfl) ?_ ?_)
 refine Lc [box b7 (Dk e) 220] [0,2,3,4,5,506,201,2007,2508] (ocs (oca 4 rfl) (ocn _)) ?_
 refine Jz 5 ?_
 refine Da [0,0,0] (ih om Bn_2 qn_2 bln_2 leftn om hbn_2) ?_
 rintro _ _ ⟨ls_2,As_2,qs_2,Bn_3,qn_3,bln_3,leftn_2,rfl,rfl,hls_2,hcs_2,hbn_3⟩
 refine⟨ocs (oca 5 rfl) (ocn _),?_⟩
 refine Es (Dk e) fun b73=>?_
 refine Fw.f rfl (.bd [iv 4, .string bE, .string bE, .slice (some ⟨b73,0,none⟩) 1 1,vs As ls qs,vs As_2 ls_2 qs_2]) ?_
 refine Fw.up rfl rfl rfl (Bl (i:=8) rfl rfl rfl Vd rfl rfl rfl (bta rfl)) (ocs (oca 6 rfl) (ocn _)) ?_
 refine Jz 5 ?_
 refine Cj (Lx (A:=(some ⟨b73,0,none⟩)) e (Md (Nz (Jj (Qz (⟨4,bE,bE,(some ⟨b73,0,none⟩),1,[e],As,qs,ls,As_2,qs_2,ls_2⟩:St) (Gf [1,1,1,0] Tryz.results130 ?_))))))
 exact⟨(⟨4,bE,bE,(some ⟨b73,0,none⟩),1,[e],As,qs,ls,As_2,qs_2,ls_2⟩:St),_,_,_,_,rfl,rfl,(by rw[show 3-d=(3-(d+1))+1 from by omega];exact .ife _ _ _ _ he hls hls_2),cn0,hbn_3⟩
 refine Lc [box b7 (Dk e) 220] [0,2,3,4,5,201,2506,7,508] (ocs (oca 4 rfl) (ocn _)) ?_
 refine Jz 5 ?_
 refine Es (Dk e) fun b73=>?_
 refine Da [1,1,1] (ih om Bn_2 qn_2 bln_2 leftn om hbn_2) ?_
 rintro _ _ ⟨ls_2,As_2,qs_2,Bn_3,qn_3,bln_3,leftn_2,rfl,rfl,hls_2,hcs_2,hbn_3⟩
 refine⟨ocs (oca 6 rfl) (ocn _),?_⟩
 refine Fw.f rfl (.bd [iv 4, .string bE, .string bE, .slice (some ⟨b73,0,none⟩) 1 1,vs As ls qs,vs As_2 ls_2 qs_2]) ?_
 refine Fw.up rfl rfl rfl (Bl (i:=8) rfl rfl rfl Vd rfl rfl rfl (bta rfl)) (ocs (oca 6 rfl) (ocn _)) ?_
 refine Jz 5 ?_
 refine Md (Cj (Lx (A:=(some ⟨b73,0,none⟩)) e (Md (Nz (Jj (Qz (⟨4,bE,bE,(some ⟨b73,0,none⟩),1,[e],As,qs,ls,As_2,qs_2,ls_2⟩:St) (Gf [1,1,1,0] Tryz.results130 ?_)))))))
 exact⟨(⟨4,bE,bE,(some ⟨b73,0,none⟩),1,[e],As,qs,ls,As_2,qs_2,ls_2⟩:St),_,_,_,_,rfl,rfl,(by rw[show 3-d=(3-(d+1))+1 from by omega];exact .ife _ _ _ _ he hls hls_2),cn0,hbn_3⟩
 have c55:=bA c55
 refine Js (To.g (Nk [0,1,2,6] 80 ((decide (((kk:Nat):Int)=7))&&decide (((d:Nat):Int)<2)) ?_ ?_))
 refine Jz 2 ?_
 refine JgP ?_ ?_<;>intro g83
 refine Jz 6 ?_
 refine Gg rfl (gg g83)
 refine Jz 6 ?_
 refine Gg rfl (gg g83)
 refine Ed rfl ?_ ?_<;>intro c80
 have c80:=bA c80
 refine Jz 3 ?_
 refine Jcf [1,1] (aH b m hm hnp 2 0 rfl B q bl left hb) ?_
 rintro _ _ ⟨e,Bn,qn,bln,rfl,rfl,he,hbn⟩
 refine Jal fun b9=>?_
 refine Jz 4 ?_
 refine Ki (tel []) mixed.h (Hy 1 5 rfl (by kernel_rfl) ?_ ?_)
 refine Lc [box b9 (Dk e) 220] [0,2,3,4,505,201,2006,2507] (ocs (oca 0 rfl) (ocn _)) ?_
 refine Jz 4 ?_
 refine Da [1,1,3] (ih om Bn qn bln left om hbn) ?_
 rintro _ _ ⟨ls,As,qs,Bn_2,qn_2,bln_2,leftn,rfl,rfl,hls,hcs,hbn_2⟩
 refine⟨ocs (oca 4 rfl) (ocn _),?_⟩
 refine Es (Dk e) fun b90=>?_
 refine Fw.f rfl (.bd [iv 5, .string bE, .string bE, .slice (some ⟨b90,0,none⟩) 1 1,vs As ls qs,nz]) ?_
 refine Fw.up rfl rfl rfl (Bl (i:=7) rfl rfl rfl Vd rfl rfl rfl (bta rfl)) (ocs (oca 5 rfl) (ocn _)) ?_
 refine Jz 5 ?_
 refine Ej (Lx (A:=(some ⟨b90,0,none⟩)) e (Fb (Nz (Jj (Qz (⟨5,bE,bE,(some ⟨b90,0,none⟩),1,[e],As,qs,ls,none,0,[]⟩:St) (Gf [1,1,1,0] Tryz.results130 ?_))))))
 exact⟨(⟨5,bE,bE,(some ⟨b90,0,none⟩),1,[e],As,qs,ls,none,0,[]⟩:St),_,_,_,_,rfl,rfl,(by rw[show 3-d=(3-(d+1))+1 from by omega];exact .whl _ _ _ he hls),cn0,hbn_2⟩
 refine Lc [box b9 (Dk e) 220] [0,2,3,4,201,2505,6,507] (ocs (oca 0 rfl) (ocn _)) ?_
 refine Jz 4 ?_
 refine Es (Dk e) fun b90=>?_
 refine Da [2,2,4] (ih om Bn qn bln left om hbn) ?_
 rintro _ _ ⟨ls,As,qs,Bn_2,qn_2,bln_2,leftn,rfl,rfl,hls,hcs,hbn_2⟩
 refine⟨ocs (oca 5 rfl) (ocn _),?_⟩
 refine Fw.f rfl (.bd [iv 5, .string bE, .string bE, .slice (some ⟨b90,0,none⟩) 1 1,vs As ls qs,nz]) ?_
 refine Fw.up rfl rfl rfl (Bl (i:=7) rfl rfl rfl Vd rfl rfl rfl (bta rfl)) (ocs (oca 5 rfl) (ocn _)) ?_
 refine Jz 5 ?_
 refine Md (Ej (Lx (A:=(some ⟨b90,0,none⟩)) e (Fb (Nz (Jj (Qz (⟨5,bE,bE,(some ⟨b90,0,none⟩),1,[e],As,qs,ls,none,0,[]⟩:St) (Gf [1,1,1,0] Tryz.results130 ?_)))))))
 exact⟨(⟨5,bE,bE,(some ⟨b90,0,none⟩),1,[e],As,qs,ls,none,0,[]⟩:St),_,_,_,_,rfl,rfl,(by rw[show 3-d=(3-(d+1))+1 from by omega];exact .whl _ _ _ he hls),cn0,hbn_2⟩
 have c80:=bA c80
 refine Js (To.g (Nk [0,1,2,6] 96 ((decide (((kk:Nat):Int)=8))||(decide (((kk:Nat):Int)=9))) ?_ ?_))
 refine Jz 2 ?_
 refine JgP ?_ ?_<;>intro g99
 refine Jz 6 ?_
 refine Gg rfl (gg g99)
 refine Jz 6 ?_
 refine Gg rfl (gg g99)
 refine Ed rfl ?_ ?_<;>intro c96
 have c96:=bA c96
 refine Js (To.one 3 rfl (ros aG m.Aa m.ars) rfl (aEd ..) (Jz 7 ?_))
 refine Jcf [2,2] (Lh b m B q bl left m.ars.length hb om) ?_
 rintro _ _ ⟨k,Bn,qn,bln,rfl,rfl,hk,hbn⟩
 refine Jz 4 ?_
 obtain⟨a,ha⟩:=exg m.ars k om
 have hao:=LZ hm ha
 refine To.one 4 rfl (ros bP a.A a.l) rfl (jI (mog ha)) (Jz 10 ?_)
 refine Jcf [1,1] (Lh b m Bn qn bln left a.l.length hbn om) ?_
 rintro _ _ ⟨k_2,Bn_2,qn_2,bln_2,rfl,rfl,hk_2,hbn_2⟩
 refine Jz 4 ?_
 obtain⟨x,hx⟩:=exg a.l k_2 om
 have hxo:=hao.2.2 x (mog hx)
 refine To.nm (Ot [(0,pv b),(1,nv kk),(2,nv d),(6,pv b6),(10,nv k),(11,nv k_2)] sb (Ki (tel [(4,(nmR 104 3))]) mixed.h (Hy 0 19 rfl (by kernel_rfl) ?_ ?_)))
 refine Hy 7 19 rfl (by kernel_rfl) ?_ ?_
 refine Lc [] [1,5,8,9,10,11,13,16,404,5006,112,114,115,117,118,5519,200,1002,1103,107,1020,1521] (ocn _) ?_
 refine Jz 8 ?_
 refine Fw.tf (Gq 104 3 om om) (ocn _) (fun _ _ h=>by obtain⟨_,_,_,rfl,_⟩:=h;rfl) ?_
 rintro _ _ ⟨An,qn_3,rfl,rfl,hAn⟩
 refine Fw.f rfl (Dg (j:=k_2) (hAn (by decide)) rfl rfl rfl s37 (by rw[Dq];omega)) ?_
 refine Jz 5 ?_
 refine Da [1,1] (Ii b m hm hnp x om Bn_2 qn_2 bln_2 left hbn_2) ?_
 rintro _ _ ⟨l,Al,ql,Bn_3,qn_4,bln_3,rfl,rfl,hl,hli,hbn_3⟩
 refine⟨ocn _,?_⟩
 refine Es [.string (nC 0), .string (nC 1), .string (nC 2)] fun b120=>?_
 refine Fw.f rfl (Dg (j:=k) rfl rfl rfl rfl s37 om) ?_
 refine Fw.r rfl (Ck (i:=0) rfl rfl c9 rfl (Dc (rwg Ec (Nv om)) rfl)) ?_
 refine Fw.r rfl (Ck (i:=4) rfl rfl c9 rfl (Dc (rwg Ec (Ea om)) rfl)) ?_
 refine Fw.f rfl (.bd [iv 6, .string (nC k), .string (nm 104 k_2),vs Al l ql,nz,nz]) ?_
 refine Fw.up rfl rfl rfl (Bl (i:=8) rfl rfl rfl Vd rfl rfl rfl (bta rfl)) (ocn _) ?_
 refine Jz 5 ?_
 refine Md (Md (Tt l (Fb (Fb (Jj (Qz (⟨6,(nC k),(nm 104 k_2),Al,ql,l,none,0,[],none,0,[]⟩:St) (Gf [2,2,6,0] Tryz.results130 ?_)))))))
 exact⟨(⟨6,(nC k),(nm 104 k_2),Al,ql,l,none,0,[],none,0,[]⟩:St),_,_,_,_,rfl,rfl, .send _ _ _ _ _ (Qe ha) (by rw[Fz,hl];exact hx) (Jw hli),cn0,hbn_3⟩
 refine Lc [] [1,5,8,9,10,11,13,16,404,5006,5107,112,114,115,117,118,5519,200,1002,1103,1020,1521] (ocn _) ?_
 refine Jz 8 ?_
 refine Fw.tf (Gq 104 3 om om) (ocn _) (fun _ _ h=>by obtain⟨_,_,_,rfl,_⟩:=h;rfl) ?_
 rintro _ _ ⟨An,qn_3,rfl,rfl,hAn⟩
 refine Fw.f rfl (Dg (j:=k_2) (hAn (by decide)) rfl rfl rfl s37 (by rw[Dq];omega)) ?_
 refine Fw.r rfl (Ck (i:=0) rfl rfl c9 rfl (Dc (rwg Ec (Ea om)) rfl)) ?_
 refine Jz 5 ?_
 refine Da [1,1] (Ii b m hm hnp x om Bn_2 qn_2 bln_2 left hbn_2) ?_
 rintro _ _ ⟨l,Al,ql,Bn_3,qn_4,bln_3,rfl,rfl,hl,hli,hbn_3⟩
 refine⟨ocn _,?_⟩
 refine Es [.string (nC 0), .string (nC 1), .string (nC 2)] fun b120=>?_
 refine Fw.f rfl (Dg (j:=k) rfl rfl rfl rfl s37 om) ?_
 refine Fw.r rfl (Ck (i:=0) rfl rfl c9 rfl (Dc (rwg Ec (Nv om)) rfl)) ?_
 refine Fw.f rfl (.bd [iv 6, .string (nC k), .string (nm 104 k_2),vs Al l ql,nz,nz]) ?_
 refine Fw.up rfl rfl rfl (Bl (i:=8) rfl rfl rfl Vd rfl rfl rfl (bta rfl)) (ocn _) ?_
 refine Jz 5 ?_
 refine Md (Md (Tt l (Fb (Fb (Jj (Qz (⟨6,(nC k),(nm 104 k_2),Al,ql,l,none,0,[],none,0,[]⟩:St) (Gf [2,2,6,0] Tryz.results130 ?_)))))))
 exact⟨(⟨6,(nC k),(nm 104 k_2),Al,ql,l,none,0,[],none,0,[]⟩:St),_,_,_,_,rfl,rfl, .send _ _ _ _ _ (Qe ha) (by rw[Fz,hl];exact hx) (Jw hli),cn0,hbn_3⟩
 refine Hy 3 19 rfl (by kernel_rfl) ?_ ?_
 refine Hy 7 19 rfl (by kernel_rfl) ?_ ?_
 refine Qy [] [⟨1,[],0⟩,⟨5,[],0⟩,⟨8,[],0⟩,⟨9,[],0⟩,⟨10,[],0⟩,⟨11,[],0⟩,⟨13,[],0⟩,⟨16,[],0⟩,⟨4,[],4⟩,⟨6,[4],0⟩,⟨0,[],2⟩,⟨2,[0],0⟩,⟨12,[],1⟩,⟨14,[],1⟩,⟨15,[],1⟩,⟨17,[],1⟩,⟨18,[],1⟩,⟨19,[4,0],5⟩,⟨3,[],1⟩,⟨7,[],1⟩,⟨20,[],0⟩,⟨21,[],5⟩] (by kernel_rfl) rfl (ocn _) (Jz 8 ?_)
 refine Fw.tf (Gq 104 3 om om) (ocn _) (fun _ _ h=>by obtain⟨_,_,_,rfl,_⟩:=h;rfl) ?_
 rintro _ _ ⟨An,qn_3,rfl,rfl,hAn⟩
 refine Fw.f rfl (Dg (j:=k_2) (hAn (by decide)) rfl rfl rfl s37 (by rw[Dq];omega)) ?_
 refine Es [.string (nC 0), .string (nC 1), .string (nC 2)] fun b120=>?_
 refine Fw.f rfl (Dg (j:=k) rfl rfl rfl rfl s37 om) ?_
 refine Jz 5 ?_
 refine Da [2,2] (Ii b m hm hnp x om Bn_2 qn_2 bln_2 left hbn_2) ?_
 rintro _ _ ⟨l,Al,ql,Bn_3,qn_4,bln_3,rfl,rfl,hl,hli,hbn_3⟩
 refine⟨ocn _,?_⟩
 refine Fw.r rfl (Ck (i:=4) rfl rfl c9 rfl (Dc (rwg Ec (Nv om)) rfl)) ?_
 refine Fw.r rfl (Ck (i:=5) rfl rfl c9 rfl (Dc (rwg Ec (Ea om)) rfl)) ?_
 refine Fw.f rfl (.bd [iv 6, .string (nC k), .string (nm 104 k_2),vs Al l ql,nz,nz]) ?_
 refine Fw.up rfl rfl rfl (Bl (i:=8) rfl rfl rfl Vd rfl rfl rfl (bta rfl)) (ocn _) ?_
 refine Jz 5 ?_
 refine Ic (Ic (Tt l (Fb (Fb (Jj (Qz (⟨6,(nC k),(nm 104 k_2),Al,ql,l,none,0,[],none,0,[]⟩:St) (Gf [1,1,6,0] Tryz.results130 ?_)))))))
 exact⟨(⟨6,(nC k),(nm 104 k_2),Al,ql,l,none,0,[],none,0,[]⟩:St),_,_,_,_,rfl,rfl, .send _ _ _ _ _ (Qe ha) (by rw[Fz,hl];exact hx) (Jw hli),cn0,hbn_3⟩
 refine Qy [] [⟨1,[],0⟩,⟨5,[],0⟩,⟨8,[],0⟩,⟨9,[],0⟩,⟨10,[],0⟩,⟨11,[],0⟩,⟨13,[],0⟩,⟨16,[],0⟩,⟨4,[],4⟩,⟨6,[4],0⟩,⟨0,[],2⟩,⟨2,[0],0⟩,⟨7,[4],1⟩,⟨12,[],1⟩,⟨14,[],1⟩,⟨15,[],1⟩,⟨17,[],1⟩,⟨18,[],1⟩,⟨19,[4,0],5⟩,⟨3,[],1⟩,⟨20,[],0⟩,⟨21,[],5⟩] (by kernel_rfl) rfl (ocn _) (Jz 8 ?_)
 refine Fw.tf (Gq 104 3 om om) (ocn _) (fun _ _ h=>by obtain⟨_,_,_,rfl,_⟩:=h;rfl) ?_
 rintro _ _ ⟨An,qn_3,rfl,rfl,hAn⟩
 refine Fw.f rfl (Dg (j:=k_2) (hAn (by decide)) rfl rfl rfl s37 (by rw[Dq];omega)) ?_
 refine Es [.string (nC 0), .string (nC 1), .string (nC 2)] fun b120=>?_
 refine Fw.f rfl (Dg (j:=k) rfl rfl rfl rfl s37 om) ?_
 refine Fw.r rfl (Ck (i:=0) rfl rfl c9 rfl (Dc (rwg Ec (Ea om)) rfl)) ?_
 refine Jz 5 ?_
 refine Da [2,2] (Ii b m hm hnp x om Bn_2 qn_2 bln_2 left hbn_2) ?_
 rintro _ _ ⟨l,Al,ql,Bn_3,qn_4,bln_3,rfl,rfl,hl,hli,hbn_3⟩
 refine⟨ocn _,?_⟩
 refine Fw.r rfl (Ck (i:=4) rfl rfl c9 rfl (Dc (rwg Ec (Nv om)) rfl)) ?_
 refine Fw.f rfl (.bd [iv 6, .string (nC k), .string (nm 104 k_2),vs Al l ql,nz,nz]) ?_
 refine Fw.up rfl rfl rfl (Bl (i:=8) rfl rfl rfl Vd rfl rfl rfl (bta rfl)) (ocn _) ?_
 refine Jz 5 ?_
 refine Ic (Ic (Tt l (Fb (Fb (Jj (Qz (⟨6,(nC k),(nm 104 k_2),Al,ql,l,none,0,[],none,0,[]⟩:St) (Gf [1,1,6,0] Tryz.results130 ?_)))))))
 exact⟨(⟨6,(nC k),(nm 104 k_2),Al,ql,l,none,0,[],none,0,[]⟩:St),_,_,_,_,rfl,rfl, .send _ _ _ _ _ (Qe ha) (by rw[Fz,hl];exact hx) (Jw hli),cn0,hbn_3⟩
 refine Hy 7 19 rfl (by kernel_rfl) ?_ ?_
 refine Qy [] [⟨1,[],0⟩,⟨5,[],0⟩,⟨8,[],0⟩,⟨9,[],0⟩,⟨10,[],0⟩,⟨11,[],0⟩,⟨13,[],0⟩,⟨16,[],0⟩,⟨4,[],4⟩,⟨6,[4],0⟩,⟨0,[],2⟩,⟨2,[0],0⟩,⟨3,[0],1⟩,⟨12,[],1⟩,⟨14,[],1⟩,⟨15,[],1⟩,⟨17,[],1⟩,⟨18,[],1⟩,⟨19,[4,0],5⟩,⟨7,[],1⟩,⟨20,[],0⟩,⟨21,[],5⟩] (by kernel_rfl) rfl (ocn _) (Jz 8 ?_)
 refine Fw.tf (Gq 104 3 om om) (ocn _) (fun _ _ h=>by obtain⟨_,_,_,rfl,_⟩:=h;rfl) ?_
 rintro _ _ ⟨An,qn_3,rfl,rfl,hAn⟩
 refine Fw.f rfl (Dg (j:=k_2) (hAn (by decide)) rfl rfl rfl s37 (by rw[Dq];omega)) ?_
 refine Es [.string (nC 0), .string (nC 1), .string (nC 2)] fun b120=>?_
 refine Fw.f rfl (Dg (j:=k) rfl rfl rfl rfl s37 om) ?_
 refine Fw.r rfl (Ck (i:=0) rfl rfl c9 rfl (Dc (rwg Ec (Nv om)) rfl)) ?_
 refine Jz 5 ?_
 refine Da [2,2] (Ii b m hm hnp x om Bn_2 qn_2 bln_2 left hbn_2) ?_
 rintro _ _ ⟨l,Al,ql,Bn_3,qn_4,bln_3,rfl,rfl,hl,hli,hbn_3⟩
 refine⟨ocn _,?_⟩
 refine Fw.r rfl (Ck (i:=5) rfl rfl c9 rfl (Dc (rwg Ec (Ea om)) rfl)) ?_
 refine Fw.f rfl (.bd [iv 6, .string (nC k), .string (nm 104 k_2),vs Al l ql,nz,nz]) ?_
 refine Fw.up rfl rfl rfl (Bl (i:=8) rfl rfl rfl Vd rfl rfl rfl (bta rfl)) (ocn _) ?_
 refine Jz 5 ?_
 refine Ic (Ic (Tt l (Fb (Fb (Jj (Qz (⟨6,(nC k),(nm 104 k_2),Al,ql,l,none,0,[],none,0,[]⟩:St) (Gf [1,1,6,0] Tryz.results130 ?_)))))))
 exact⟨(⟨6,(nC k),(nm 104 k_2),Al,ql,l,none,0,[],none,0,[]⟩:St),_,_,_,_,rfl,rfl, .send _ _ _ _ _ (Qe ha) (by rw[Fz,hl];exact hx) (Jw hli),cn0,hbn_3⟩
 refine Qy [] [⟨1,[],0⟩,⟨5,[],0⟩,⟨8,[],0⟩,⟨9,[],0⟩,⟨10,[],0⟩,⟨11,[],0⟩,⟨13,[],0⟩,⟨16,[],0⟩,⟨4,[],4⟩,⟨6,[4],0⟩,⟨0,[],2⟩,⟨2,[0],0⟩,⟨3,[0],1⟩,⟨7,[4],1⟩,⟨12,[],1⟩,⟨14,[],1⟩,⟨15,[],1⟩,⟨17,[],1⟩,⟨18,[],1⟩,⟨19,[4,0],5⟩,⟨20,[],0⟩,⟨21,[],5⟩] (by kernel_rfl) rfl (ocn _) (Jz 8 ?_)
 refine Fw.tf (Gq 104 3 om om) (ocn _) (fun _ _ h=>by obtain⟨_,_,_,rfl,_⟩:=h;rfl) ?_
 rintro _ _ ⟨An,qn_3,rfl,rfl,hAn⟩
 refine Fw.f rfl (Dg (j:=k_2) (hAn (by decide)) rfl rfl rfl s37 (by rw[Dq];omega)) ?_
 refine Es [.string (nC 0), .string (nC 1), .string (nC 2)] fun b120=>?_
 refine Fw.f rfl (Dg (j:=k) rfl rfl rfl rfl s37 om) ?_
 refine Fw.r rfl (Ck (i:=0) rfl rfl c9 rfl (Dc (rwg Ec (Nv om)) rfl)) ?_
 refine Fw.r rfl (Ck (i:=0) rfl rfl c9 rfl (Dc (rwg Ec (Ea om)) rfl)) ?_
 refine Jz 5 ?_
 refine Da [2,2] (Ii b m hm hnp x om Bn_2 qn_2 bln_2 left hbn_2) ?_
 rintro _ _ ⟨l,Al,ql,Bn_3,qn_4,bln_3,rfl,rfl,hl,hli,hbn_3⟩
 refine⟨ocn _,?_⟩
 refine Fw.f rfl (.bd [iv 6, .string (nC k), .string (nm 104 k_2),vs Al l ql,nz,nz]) ?_
 refine Fw.up rfl rfl rfl (Bl (i:=8) rfl rfl rfl Vd rfl rfl rfl (bta rfl)) (ocn _) ?_
 refine Jz 5 ?_
 refine Ic (Ic (Tt l (Fb (Fb (Jj (Qz (⟨6,(nC k),(nm 104 k_2),Al,ql,l,none,0,[],none,0,[]⟩:St) (Gf [1,1,6,0] Tryz.results130 ?_)))))))
 exact⟨(⟨6,(nC k),(nm 104 k_2),Al,ql,l,none,0,[],none,0,[]⟩:St),_,_,_,_,rfl,rfl, .send _ _ _ _ _ (Qe ha) (by rw[Fz,hl];exact hx) (Jw hli),cn0,hbn_3⟩
 have c96:=bA c96
 refine Jz 7 ?_
 refine Jcp rfl ?_ ?_<;>intro c141
 refine Js (To.one 3 rfl (ros aG m.Aa m.ars) rfl (aEd ..) ?_)
 obtain⟨a,ha⟩:∃z0,m.ars[m.own]?=some z0:=⟨m.ars[m.own]'om,gge _⟩
 have hao:=LZ hm ha
 refine To.one 4 rfl (ros bP a.A a.l) rfl (jI (mog ha)) (Jfw [] [0,1,2,3,5,6,7,104,108,109,110,11,512,13] (ocn _) ?_)
 refine Jz 12 ?_
 refine Da [3,3] (Lh b m B q bl left a.l.length hb om) ?_
 rintro _ _ ⟨k,Bn,qn,bln,rfl,rfl,hk,hbn⟩
 refine⟨ocn _,?_⟩
 refine Jz 6 ?_
 refine Jcf [0,0] (Ju b m hm hnp 2 1 rfl Bn qn bln left hbn) ?_
 rintro _ _ ⟨e,Bn_2,qn_2,bln_2,rfl,rfl,he,hbn_2⟩
 refine Jal fun b13=>?_
 refine Jz 4 ?_
 obtain⟨x,hx⟩:=exg a.l k om
 have hxo:=hao.2.2 x (mog hx)
 refine To.nm (Ot [(0,pv b),(1,nv kk),(2,nv d),(6,pv b6),(12,nv k),(13,pv b13)] sb (Ki (VY (tel [(0,(nmR 104 3))]) (PT [(20,[box b (cM m [vs Bn_2 bln_2 qn_2,nv left]) 158,ros Gw Bn_2 bln_2],(aBr b m x left))])) mixed.h (Hy 3 20 rfl (by kernel_rfl) ?_ ?_)))
 refine Hy 5 20 rfl (by kernel_rfl) ?_ ?_
 refine Hy 3 21 rfl (by kernel_rfl) ?_ ?_
 refine Lc [box b13 (Dk e) 220] [1,4,6,7,8,9,11,12,13,17,400,1002,110,114,115,116,118,119,1520,205,6521,103,22,523] (ocs (oca 0 rfl) (ocn _)) ?_
 refine Jz 10 ?_
 refine Fw.tf (Gq 104 3 om om) (ocn _) (fun _ _ h=>by obtain⟨_,_,_,rfl,_⟩:=h;rfl) ?_
 rintro _ _ ⟨An,qn_3,rfl,rfl,hAn⟩
 refine Fw.f rfl (Dg (j:=k) (hAn (by decide)) rfl rfl rfl s37 (by rw[Dq];omega)) ?_
 refine Jz 6 ?_
 refine Ka [2,2] rfl rfl rfl rfl .fc rfl (Ii b m hm hnp x om Bn_2 qn_2 bln_2 left hbn_2) rfl ?_
 rintro _ _ ⟨l,Al,ql,Bn_3,qn_4,bln_3,rfl,rfl,hl,hli,hbn_3⟩
 refine⟨ocs (oca 5 rfl) (ocn _),?_⟩
 refine Es (Dk e) fun b164=>?_
 refine Fw.ge rfl rfl rfl rfl (Hf (l:=[e]) (cap:=1) Uk (i:=0) (m:=l) rfl wT rfl rfl rfl (Rb (i:=3) rfl) om om) ?_
 rintro _ _ ⟨A180,q180,rfl,rfl⟩
 refine⟨ocs (oca 6 rfl) (ocn _),?_⟩
 refine Fw.r rfl (Ck (i:=5) rfl rfl c9 rfl (Dc (rwg Ec (Ea om)) rfl)) ?_
 refine Fw.f rfl (.bd [iv 7, .string bE, .string (nm 104 k),vs A180 ([e]++l) q180,nz,nz]) ?_
 refine Fw.up rfl rfl rfl (Bl (i:=10) rfl rfl rfl Vd rfl rfl rfl (bta rfl)) (ocs (oca 6 rfl) (ocn _)) ?_
 refine Jz 5 ?_
 refine Md (Cj (Xa e l (Le (Tt ([e]++l) (Fb (Fb (Jj (Qz (⟨7,bE,(nm 104 k),A180,q180,[e]++l,none,0,[],none,0,[]⟩:St) (Gf [1,1,7,0] Tryz.results130 ?_)))))))))
 exact⟨(⟨7,bE,(nm 104 k),A180,q180,[e]++l,none,0,[],none,0,[]⟩:St),_,_,_,_,rfl,rfl, .after _ _ _ _ (Cv l) (Qe ha) (by rw[Fz,hl];exact hx) he (Jw hli),cn0,hbn_3⟩
 refine Lc [box b13 (Dk e) 220] [1,4,6,7,8,9,11,12,13,17,400,1002,110,114,115,116,118,119,1520,103,205,6521,22,523] (ocs (oca 0 rfl) (ocn _)) ?_
 refine Jz 10 ?_
 refine Fw.tf (Gq 104 3 om om) (ocn _) (fun _ _ h=>by obtain⟨_,_,_,rfl,_⟩:=h;rfl) ?_
 rintro _ _ ⟨An,qn_3,rfl,rfl,hAn⟩
 refine Fw.f rfl (Dg (j:=k) (hAn (by decide)) rfl rfl rfl s37 (by rw[Dq];omega)) ?_
 refine Jz 6 ?_
 refine Ka [2,2] rfl rfl rfl rfl .fc rfl (Ii b m hm hnp x om Bn_2 qn_2 bln_2 left hbn_2) rfl ?_
 rintro _ _ ⟨l,Al,ql,Bn_3,qn_4,bln_3,rfl,rfl,hl,hli,hbn_3⟩
 refine⟨ocs (oca 5 rfl) (ocn _),?_⟩
 refine Fw.r rfl (Ck (i:=4) rfl rfl c9 rfl (Dc (rwg Ec (Ea om)) rfl)) ?_
 refine Es (Dk e) fun b164=>?_
 refine Fw.ge rfl rfl rfl rfl (Hf (l:=[e]) (cap:=1) Uk (i:=0) (m:=l) rfl wT rfl rfl rfl (Rb (i:=3) rfl) om om) ?_
 rintro _ _ ⟨A180,q180,rfl,rfl⟩
 refine⟨ocs (oca 6 rfl) (ocn _),?_⟩
 refine Fw.f rfl (.bd [iv 7, .string bE, .string (nm 104 k),vs A180 ([e]++l) q180,nz,nz]) ?_
 refine Fw.up rfl rfl rfl (Bl (i:=10) rfl rfl rfl Vd rfl rfl rfl (bta rfl)) (ocs (oca 6 rfl) (ocn _)) ?_
 refine Jz 5 ?_
 refine Md (Cj (Xa e l (Le (Tt ([e]++l) (Fb (Fb (Jj (Qz (⟨7,bE,(nm 104 k),A180,q180,[e]++l,none,0,[],none,0,[]⟩:St) (Gf [1,1,7,0] Tryz.results130 ?_)))))))))
 exact⟨(⟨7,bE,(nm 104 k),A180,q180,[e]++l,none,0,[],none,0,[]⟩:St),_,_,_,_,rfl,rfl, .after _ _ _ _ (Cv l) (Qe ha) (by rw[Fz,hl];exact hx) he (Jw hli),cn0,hbn_3⟩
 refine Hy 3 21 rfl (by kernel_rfl) ?_ ?_
 refine Qy [box b13 (Dk e) 220] [⟨1,[],0⟩,⟨4,[],0⟩,⟨6,[],0⟩,⟨7,[],0⟩,⟨8,[],0⟩,⟨9,[],0⟩,⟨11,[],0⟩,⟨12,[],0⟩,⟨13,[],0⟩,⟨17,[],0⟩,⟨0,[],4⟩,⟨2,[0],0⟩,⟨5,[],2⟩,⟨10,[],1⟩,⟨14,[],1⟩,⟨15,[],1⟩,⟨16,[],1⟩,⟨18,[],1⟩,⟨19,[],1⟩,⟨20,[0,5],5⟩,⟨21,[],5⟩,⟨3,[],1⟩,⟨22,[],0⟩,⟨23,[],5⟩] (by kernel_rfl) rfl (ocs (oca 0 rfl) (ocn _)) (Jz 10 ?_)
 refine Fw.tf (Gq 104 3 om om) (ocn _) (fun _ _ h=>by obtain⟨_,_,_,rfl,_⟩:=h;rfl) ?_
 rintro _ _ ⟨An,qn_3,rfl,rfl,hAn⟩
 refine Fw.f rfl (Dg (j:=k) (hAn (by decide)) rfl rfl rfl s37 (by rw[Dq];omega)) ?_
 refine Es (Dk e) fun b164=>?_
 refine Jz 6 ?_
 refine Ka [3,3] rfl rfl rfl rfl .fc rfl (Ii b m hm hnp x om Bn_2 qn_2 bln_2 left hbn_2) rfl ?_
 rintro _ _ ⟨l,Al,ql,Bn_3,qn_4,bln_3,rfl,rfl,hl,hli,hbn_3⟩
 refine⟨ocs (oca 6 rfl) (ocn _),?_⟩
 refine Fw.ge rfl rfl rfl rfl (Hf (l:=[e]) (cap:=1) Uk (i:=4) (m:=l) rfl wT rfl rfl rfl (Rb (i:=2) rfl) om om) ?_
 rintro _ _ ⟨A180,q180,rfl,rfl⟩
 refine⟨ocs (oca 6 rfl) (ocn _),?_⟩
 refine Fw.r rfl (Ck (i:=5) rfl rfl c9 rfl (Dc (rwg Ec (Ea om)) rfl)) ?_
 refine Fw.f rfl (.bd [iv 7, .string bE, .string (nm 104 k),vs A180 ([e]++l) q180,nz,nz]) ?_
 refine Fw.up rfl rfl rfl (Bl (i:=10) rfl rfl rfl Vd rfl rfl rfl (bta rfl)) (ocs (oca 6 rfl) (ocn _)) ?_
 refine Jz 5 ?_
 refine Ic (Cj (Xa e l (Md (Tt ([e]++l) (Fb (Fb (Jj (Qz (⟨7,bE,(nm 104 k),A180,q180,[e]++l,none,0,[],none,0,[]⟩:St) (Gf [1,1,7,0] Tryz.results130 ?_)))))))))
 exact⟨(⟨7,bE,(nm 104 k),A180,q180,[e]++l,none,0,[],none,0,[]⟩:St),_,_,_,_,rfl,rfl, .after _ _ _ _ (Cv l) (Qe ha) (by rw[Fz,hl];exact hx) he (Jw hli),cn0,hbn_3⟩
 refine Qy [box b13 (Dk e) 220] [⟨1,[],0⟩,⟨4,[],0⟩,⟨6,[],0⟩,⟨7,[],0⟩,⟨8,[],0⟩,⟨9,[],0⟩,⟨11,[],0⟩,⟨12,[],0⟩,⟨13,[],0⟩,⟨17,[],0⟩,⟨0,[],4⟩,⟨2,[0],0⟩,⟨5,[],2⟩,⟨10,[],1⟩,⟨14,[],1⟩,⟨15,[],1⟩,⟨16,[],1⟩,⟨18,[],1⟩,⟨19,[],1⟩,⟨20,[0,5],5⟩,⟨3,[],1⟩,⟨21,[],5⟩,⟨22,[],0⟩,⟨23,[],5⟩] (by kernel_rfl) rfl (ocs (oca 0 rfl) (ocn _)) (Jz 10 ?_)
 refine Fw.tf (Gq 104 3 om om) (ocn _) (fun _ _ h=>by obtain⟨_,_,_,rfl,_⟩:=h;rfl) ?_
 rintro _ _ ⟨An,qn_3,rfl,rfl,hAn⟩
 refine Fw.f rfl (Dg (j:=k) (hAn (by decide)) rfl rfl rfl s37 (by rw[Dq];omega)) ?_
 refine Es (Dk e) fun b164=>?_
 refine Jz 6 ?_
 refine Ka [3,3] rfl rfl rfl rfl .fc rfl (Ii b m hm hnp x om Bn_2 qn_2 bln_2 left hbn_2) rfl ?_
 rintro _ _ ⟨l,Al,ql,Bn_3,qn_4,bln_3,rfl,rfl,hl,hli,hbn_3⟩
 refine⟨ocs (oca 6 rfl) (ocn _),?_⟩
 refine Fw.r rfl (Ck (i:=5) rfl rfl c9 rfl (Dc (rwg Ec (Ea om)) rfl)) ?_
 refine Fw.ge rfl rfl rfl rfl (Hf (l:=[e]) (cap:=1) Uk (i:=4) (m:=l) rfl wT rfl rfl rfl (Rb (i:=2) rfl) om om) ?_
 rintro _ _ ⟨A180,q180,rfl,rfl⟩
 refine⟨ocs (oca 6 rfl) (ocn _),?_⟩
 refine Fw.f rfl (.bd [iv 7, .string bE, .string (nm 104 k),vs A180 ([e]++l) q180,nz,nz]) ?_
 refine Fw.up rfl rfl rfl (Bl (i:=10) rfl rfl rfl Vd rfl rfl rfl (bta rfl)) (ocs (oca 6 rfl) (ocn _)) ?_
 refine Jz 5 ?_
 refine Ic (Cj (Xa e l (Md (Tt ([e]++l) (Fb (Fb (Jj (Qz (⟨7,bE,(nm 104 k),A180,q180,[e]++l,none,0,[],none,0,[]⟩:St) (Gf [1,1,7,0] Tryz.results130 ?_)))))))))
 exact⟨(⟨7,bE,(nm 104 k),A180,q180,[e]++l,none,0,[],none,0,[]⟩:St),_,_,_,_,rfl,rfl, .after _ _ _ _ (Cv l) (Qe ha) (by rw[Fz,hl];exact hx) he (Jw hli),cn0,hbn_3⟩
 refine Hy 5 20 rfl (by kernel_rfl) ?_ ?_
 refine Lc [box b13 (Dk e) 220] [1,4,6,7,8,9,11,12,13,17,400,1002,1103,110,114,115,116,118,119,1520,205,6521,22,523] (ocs (oca 0 rfl) (ocn _)) ?_
 refine Jz 10 ?_
 refine Fw.tf (Gq 104 3 om om) (ocn _) (fun _ _ h=>by obtain⟨_,_,_,rfl,_⟩:=h;rfl) ?_
 rintro _ _ ⟨An,qn_3,rfl,rfl,hAn⟩
 refine Fw.f rfl (Dg (j:=k) (hAn (by decide)) rfl rfl rfl s37 (by rw[Dq];omega)) ?_
 refine Fw.r rfl (Ck (i:=0) rfl rfl c9 rfl (Dc (rwg Ec (Ea om)) rfl)) ?_
 refine Jz 6 ?_
 refine Ka [2,2] rfl rfl rfl rfl .fc rfl (Ii b m hm hnp x om Bn_2 qn_2 bln_2 left hbn_2) rfl ?_
 rintro _ _ ⟨l,Al,ql,Bn_3,qn_4,bln_3,rfl,rfl,hl,hli,hbn_3⟩
 refine⟨ocs (oca 5 rfl) (ocn _),?_⟩
 refine Es (Dk e) fun b164=>?_
 refine Fw.ge rfl rfl rfl rfl (Hf (l:=[e]) (cap:=1) Uk (i:=0) (m:=l) rfl wT rfl rfl rfl (Rb (i:=3) rfl) om om) ?_
 rintro _ _ ⟨A180,q180,rfl,rfl⟩
 refine⟨ocs (oca 6 rfl) (ocn _),?_⟩
 refine Fw.f rfl (.bd [iv 7, .string bE, .string (nm 104 k),vs A180 ([e]++l) q180,nz,nz]) ?_
 refine Fw.up rfl rfl rfl (Bl (i:=10) rfl rfl rfl Vd rfl rfl rfl (bta rfl)) (ocs (oca 6 rfl) (ocn _)) ?_
 refine Jz 5 ?_
 refine Md (Cj (Xa e l (Le (Tt ([e]++l) (Fb (Fb (Jj (Qz (⟨7,bE,(nm 104 k),A180,q180,[e]++l,none,0,[],none,0,[]⟩:St) (Gf [1,1,7,0] Tryz.results130 ?_)))))))))
 exact⟨(⟨7,bE,(nm 104 k),A180,q180,[e]++l,none,0,[],none,0,[]⟩:St),_,_,_,_,rfl,rfl, .after _ _ _ _ (Cv l) (Qe ha) (by rw[Fz,hl];exact hx) he (Jw hli),cn0,hbn_3⟩
 refine Qy [box b13 (Dk e) 220] [⟨1,[],0⟩,⟨4,[],0⟩,⟨6,[],0⟩,⟨7,[],0⟩,⟨8,[],0⟩,⟨9,[],0⟩,⟨11,[],0⟩,⟨12,[],0⟩,⟨13,[],0⟩,⟨17,[],0⟩,⟨0,[],4⟩,⟨2,[0],0⟩,⟨3,[0],1⟩,⟨5,[],2⟩,⟨10,[],1⟩,⟨14,[],1⟩,⟨15,[],1⟩,⟨16,[],1⟩,⟨18,[],1⟩,⟨19,[],1⟩,⟨20,[0,5],5⟩,⟨21,[],5⟩,⟨22,[],0⟩,⟨23,[],5⟩] (by kernel_rfl) rfl (ocs (oca 0 rfl) (ocn _)) (Jz 10 ?_)
 refine Fw.tf (Gq 104 3 om om) (ocn _) (fun _ _ h=>by obtain⟨_,_,_,rfl,_⟩:=h;rfl) ?_
 rintro _ _ ⟨An,qn_3,rfl,rfl,hAn⟩
 refine Fw.f rfl (Dg (j:=k) (hAn (by decide)) rfl rfl rfl s37 (by rw[Dq];omega)) ?_
 refine Fw.r rfl (Ck (i:=0) rfl rfl c9 rfl (Dc (rwg Ec (Ea om)) rfl)) ?_
 refine Es (Dk e) fun b164=>?_
 refine Jz 6 ?_
 refine Ka [3,3] rfl rfl rfl rfl .fc rfl (Ii b m hm hnp x om Bn_2 qn_2 bln_2 left hbn_2) rfl ?_
 rintro _ _ ⟨l,Al,ql,Bn_3,qn_4,bln_3,rfl,rfl,hl,hli,hbn_3⟩
 refine⟨ocs (oca 6 rfl) (ocn _),?_⟩
 refine Fw.ge rfl rfl rfl rfl (Hf (l:=[e]) (cap:=1) Uk (i:=4) (m:=l) rfl wT rfl rfl rfl (Rb (i:=2) rfl) om om) ?_
 rintro _ _ ⟨A180,q180,rfl,rfl⟩
 refine⟨ocs (oca 6 rfl) (ocn _),?_⟩
 refine Fw.f rfl (.bd [iv 7, .string bE, .string (nm 104 k),vs A180 ([e]++l) q180,nz,nz]) ?_
 refine Fw.up rfl rfl rfl (Bl (i:=10) rfl rfl rfl Vd rfl rfl rfl (bta rfl)) (ocs (oca 6 rfl) (ocn _)) ?_
 refine Jz 5 ?_
 refine Ic (Cj (Xa e l (Md (Tt ([e]++l) (Fb (Fb (Jj (Qz (⟨7,bE,(nm 104 k),A180,q180,[e]++l,none,0,[],none,0,[]⟩:St) (Gf [1,1,7,0] Tryz.results130 ?_)))))))))
 exact⟨(⟨7,bE,(nm 104 k),A180,q180,[e]++l,none,0,[],none,0,[]⟩:St),_,_,_,_,rfl,rfl, .after _ _ _ _ (Cv l) (Qe ha) (by rw[Fz,hl];exact hx) he (Jw hli),cn0,hbn_3⟩
 refine Js (To.g (Nk [0,1,2,6] 182 ((decide (((kk:Nat):Int)=11))&&decide (((d:Nat):Int)<3)) ?_ ?_))
 refine Jz 2 ?_
 refine JgP ?_ ?_<;>intro g185
 refine Jz 6 ?_
 refine Gg rfl (gg g185)
 refine Jz 6 ?_
 refine Gg rfl (gg g185)
 refine Ed rfl ?_ ?_<;>intro c182
 have c182:=bA c182
 refine Jz 4 ?_
 refine Jcf [1,1] (Lh b m B q bl left 2 hb om) ?_
 rintro _ _ ⟨k,Bn,qn,bln,rfl,rfl,hk,hbn⟩
 refine Jz 3 ?_
 refine Jcp rfl ?_ ?_<;>intro c191
 refine Jz 3 ?_
 refine Jcf [0,0] (Ii b m hm hnp 2 om Bn qn bln left hbn) ?_
 rintro _ _ ⟨l,Al,ql,Bn_2,qn_2,bln_2,rfl,rfl,hl,hli,hbn_2⟩
 refine Jz 4 ?_
 obtain⟨a1,a2,rfl⟩:∃a1 a2,l=[a1,a2]:=by
  match l,hl with
  |[a1,a2],_=>exact⟨a1,a2,rfl⟩
 refine Jz 5 ?_
 refine Jcf [0,0,3] (ih om Bn_2 qn_2 bln_2 left om hbn_2) ?_
 rintro _ _ ⟨ls,As,qs,Bn_3,qn_3,bln_3,leftn,rfl,rfl,hls,hcs,hbn_3⟩
 refine Jr (.bd [iv 8, .string bE, .string bE, .slice Al ([a1,a2].length) ql,nz,vs As ls qs]) ?_
 refine Jz 7 ?_
 refine Nz (Nz (Tt [a1,a2] (Fb (Nz (Le (Jj (Qz (⟨8,bE,bE,Al,ql,[a1,a2],none,0,[],As,qs,ls⟩:St) (Gf [1,1,1,0] Tryz.results130 ?_))))))))
 exact⟨(⟨8,bE,bE,Al,ql,[a1,a2],none,0,[],As,qs,ls⟩:St),_,_,_,_,rfl,rfl,(by rw[show 3-d=(3-(d+1))+1 from by omega];exact .store _ _ _ _ (hli _ (aEd ..)) (hli _ (aEb _ (aEd ..))) hls),cn0,hbn_3⟩
 refine Jz 5 ?_
 refine Jcf [0,0] (Ul b m Bn qn bln left hbn hmi) ?_
 rintro _ _ ⟨k_2,Bn_2,qn_2,bln_2,rfl,rfl,hk_2,hbn_2⟩
 refine Jz 6 ?_
 refine Jcf [0,0] (Ju b m hm hnp 3 0 rfl Bn_2 qn_2 bln_2 left hbn_2) ?_
 rintro _ _ ⟨e,Bn_3,qn_3,bln_3,rfl,rfl,he,hbn_3⟩
 refine Jal fun b16=>?_
 refine Jz 4 ?_
 refine Ki (tel []) mixed.h (Hy 2 6 rfl (by kernel_rfl) ?_ ?_)
 refine Lc [box b16 (Dk e) 220] [0,1,3,4,5,506,202,3007,3508] (ocs (oca 0 rfl) (ocn _)) ?_
 refine Jz 5 ?_
 refine Da [1,1,3] (ih om Bn_3 qn_3 bln_3 left om hbn_3) ?_
 rintro _ _ ⟨ls,As,qs,Bn_4,qn_4,bln_4,leftn,rfl,rfl,hls,hcs,hbn_4⟩
 refine⟨ocs (oca 4 rfl) (ocn _),?_⟩
 refine Es (Dk e) fun b206=>?_
 refine Fw.f rfl (.bd [iv 9, .string (nm 120 k_2), .string bE, .slice (some ⟨b206,0,none⟩) 1 1,nz,vs As ls qs]) ?_
 refine Fw.up rfl rfl rfl (Bl (i:=7) rfl rfl rfl Vd rfl rfl rfl (bta rfl)) (ocs (oca 5 rfl) (ocn _)) ?_
 refine Jz 5 ?_
 refine Ej (Lx (A:=(some ⟨b206,0,none⟩)) e (Fb (Nz (Le (Jj (Qz (⟨9,(nm 120 k_2),bE,(some ⟨b206,0,none⟩),1,[e],none,0,[],As,qs,ls⟩:St) (Gf [1,1,1,0] Tryz.results130 ?_)))))))
 exact⟨(⟨9,(nm 120 k_2),bE,(some ⟨b206,0,none⟩),1,[e],none,0,[],As,qs,ls⟩:St),_,_,_,_,rfl,rfl,(by rw[show 3-d=(3-(d+1))+1 from by omega];exact .fetch _ _ _ _ hk_2 he hls),cn0,hbn_4⟩
 refine Lc [box b16 (Dk e) 220] [0,1,3,4,5,202,3506,7,508] (ocs (oca 0 rfl) (ocn _)) ?_
 refine Jz 5 ?_
 refine Es (Dk e) fun b206=>?_
 refine Da [2,2,4] (ih om Bn_3 qn_3 bln_3 left om hbn_3) ?_
 rintro _ _ ⟨ls,As,qs,Bn_4,qn_4,bln_4,leftn,rfl,rfl,hls,hcs,hbn_4⟩
 refine⟨ocs (oca 5 rfl) (ocn _),?_⟩
 refine Fw.f rfl (.bd [iv 9, .string (nm 120 k_2), .string bE, .slice (some ⟨b206,0,none⟩) 1 1,nz,vs As ls qs]) ?_
 refine Fw.up rfl rfl rfl (Bl (i:=7) rfl rfl rfl Vd rfl rfl rfl (bta rfl)) (ocs (oca 5 rfl) (ocn _)) ?_
 refine Jz 5 ?_
 refine Md (Ej (Lx (A:=(some ⟨b206,0,none⟩)) e (Fb (Nz (Le (Jj (Qz (⟨9,(nm 120 k_2),bE,(some ⟨b206,0,none⟩),1,[e],none,0,[],As,qs,ls⟩:St) (Gf [1,1,1,0] Tryz.results130 ?_))))))))
 exact⟨(⟨9,(nm 120 k_2),bE,(some ⟨b206,0,none⟩),1,[e],none,0,[],As,qs,ls⟩:St),_,_,_,_,rfl,rfl,(by rw[show 3-d=(3-(d+1))+1 from by omega];exact .fetch _ _ _ _ hk_2 he hls),cn0,hbn_4⟩
 have c182:=bA c182
 refine Jz 4 ?_
 refine JgP ?_ ?_<;>intro g215
 refine Jm ?_
 refine Jcf [1,1] (Lh b m B q bl left 3 hb om) ?_
 rintro _ _ ⟨k,Bn,qn,bln,rfl,rfl,hk,hbn⟩
 refine Jz 5 ?_
 refine Jcp rfl ?_ ?_<;>intro aDf
 refine Js (To.g (Jr (.bd [iv 10, .string bE, .string bE,nz,nz,nz]) ?_))
 refine Jz 6 ?_
 refine Um (Fb (Fb (Jj (Qz (⟨10,bE,bE,none,0,[],none,0,[],none,0,[]⟩:St) (Gf [1,1,2,0] Tryz.results130 ?_)))))
 exact⟨(⟨10,bE,bE,none,0,[],none,0,[],none,0,[]⟩:St),_,_,_,_,rfl,rfl, .stop _,cn0,hbn⟩
 refine Jz 6 ?_
 refine Jcf [0,0] (Ul b m Bn qn bln left hbn hmi) ?_
 rintro _ _ ⟨k_2,Bn_2,qn_2,bln_2,rfl,rfl,hk_2,hbn_2⟩
 refine Jz 7 ?_
 refine Jcf [0,0] (Ju b m hm hnp 3 0 rfl Bn_2 qn_2 bln_2 left hbn_2) ?_
 rintro _ _ ⟨e,Bn_3,qn_3,bln_3,rfl,rfl,he,hbn_3⟩
 refine Eg (Dk e) fun b226=>?_
 refine Jr (.bd [iv 1, .string (nm 120 k_2), .string bE, .slice (some ⟨b226,0,none⟩) 1 1,nz,nz]) ?_
 refine Jz 4 ?_
 refine Ic (Lx (A:=(some ⟨b226,0,none⟩)) e (Fb (Fb (Jj (Qz (⟨1,(nm 120 k_2),bE,(some ⟨b226,0,none⟩),1,[e],none,0,[],none,0,[]⟩:St) (Gf [1,1,2,0] Tryz.results130 ?_))))))
 exact⟨(⟨1,(nm 120 k_2),bE,(some ⟨b226,0,none⟩),1,[e],none,0,[],none,0,[]⟩:St),_,_,_,_,rfl,rfl, .setX _ _ _ hk_2 he,cn0,hbn_3⟩
 refine Jz 14 ?_
 refine Jcf [1,1] (Ul b m B q bl left hb hmi) ?_
 rintro _ _ ⟨k,Bn,qn,bln,rfl,rfl,hk,hbn⟩
 refine Jz 7 ?_
 refine Jcf [0,0] (Ju b m hm hnp 3 0 rfl Bn qn bln left hbn) ?_
 rintro _ _ ⟨e,Bn_2,qn_2,bln_2,rfl,rfl,he,hbn_2⟩
 refine Eg (Dk e) fun b226=>?_
 refine Jr (.bd [iv 1, .string (nm 120 k), .string bE, .slice (some ⟨b226,0,none⟩) 1 1,nz,nz]) ?_
 refine Jz 4 ?_
 refine Ic (Lx (A:=(some ⟨b226,0,none⟩)) e (Fb (Fb (Jj (Qz (⟨1,(nm 120 k),bE,(some ⟨b226,0,none⟩),1,[e],none,0,[],none,0,[]⟩:St) (Gf [1,1,2,0] Tryz.results130 ?_))))))
 exact⟨(⟨1,(nm 120 k),bE,(some ⟨b226,0,none⟩),1,[e],none,0,[],none,0,[]⟩:St),_,_,_,_,rfl,rfl, .setX _ _ _ hk he,cn0,hbn_2⟩
theorem Xu(O:List St)(e:St):Ba (O++[e])=Ba O++[e.pure]:=by rw[Je,aEq,Je];rfl
theorem cnt_push(O:List St)(e:St):Ca (Ba (O++[e]))=Ca (Ba O)+(1+Ca (Ba e.thn)+Ca (Ba e.els)):=by
 rw[Xu,Qs,Nh];rfl
theorem RZ(O:List St):O.length≤Ca (Ba O):=by
 induction O with
 |nil=>exact aEw _
 |cons a r ih=>show r.length+1≤PS.cnt a.pure+Ca (Ba r);rw[Nh,PS.cnt];omega
theorem mY(b:Nat)(m:Mr)(d:Nat)(hst:∀(kk:Nat) (B:OA) (q:Nat) (bl:List Nat) (left:Nat),left≤12→okB bl q→aMa Tryz.prog 130 [pv b,nv kk,nv d] [box b (cM m [vs B bl q,nv left]) 158,ros Gw B bl,all (arsK m.Aa m.ars)] (VF b m (d) left))(B:OA)(q:Nat)(bl:List Nat)(left:Nat)(hl:left≤12)(hb:okB bl q):
    aMa Tryz.prog 82 [pv b,nv d] [box b (cM m [vs B bl q,nv left]) 158,ros Gw B bl,all (arsK m.Aa m.ars)] (MB b m d left):=by
 refine Am Tryz.func82 Tryz.ntmps82 fun w0=>?_
 refine Jz 12 ?_
 refine Cz (aMc) 217 6 (LD (Cw (fun u g mz ρ Γ=>∃(Bk:OA) (qk:Nat) (blk:List Nat) (leftk:Nat) (Ao:OA) (qo:Nat) (O:List St),ρ=[u 0,u 1,(5,vs Ao O qo)]∧Γ=[box b (cM m [vs Bk blk qk,nv leftk]) 158,ros Gw Bk blk,g 4,rows aMc 217 6 Ao qo O,all (Ez Dk aMc O)]∧mz=leftk+1∧(∀s∈Ba O,StE m.ct m.np (3-d) s)∧(Ca (Ba O)+leftk=left)∧(okB blk qk)) ⟨⟨B,q,bl,left,none,0,([]:List St),rfl,rfl,rfl,(fun s hs=>by cases hs),(show 0+left=left from aFl _),hb⟩,sb⟩ ?_))
 rintro mz _ _ ⟨Bk,qk,blk,leftk,Ao,qo,O,rfl,rfl,rfl,hO,hcn,hbk⟩
 have hcl:O.length≤Ca (Ba O):=RZ O
 refine Jz 9 ?_
 refine JgP ?_ ?_<;>intro g13
 refine Jz 8 ?_
 refine Jcp rfl ?_ ?_<;>intro c19
 refine Jz 6 ?_
 refine Jcf [0,0] (Lh b m Bk qk blk leftk 14 hbk om) ?_
 rintro _ _ ⟨k,Bn,qn,bln,rfl,rfl,hk,hbn⟩
 refine Jz 10 ?_
 refine Jcp rfl ?_ ?_<;>intro c23
 refine Jz 12 ?_
 refine Md (Md (LC O (Ic (Ic (Ic (Je1 Tryz.results82 ?_))))))
 exact⟨O,_,_,_,_,_,_,rfl,rfl,hO,hcn,hbn⟩
 refine Jz 8 ?_
 refine Jr (Cr (v':=nv (leftk-1)) (congrArg iv om) (Gi rfl rfl rfl om)) ?_
 refine Jz 10 ?_
 refine Jcf [0,0,0] (hst k Bn qn bln (leftk-1) om hbn) ?_
 rintro _ _ ⟨e,Bn_2,qn_2,bln_2,leftn,rfl,rfl,he,hc,hbn_2⟩
 refine Eg (aMc e) fun b37=>?_
 refine Jge rfl rfl rfl (Bg RN (i:=5) (j:=0) (el:=e) rfl s38 rfl rfl rfl rfl rfl om om) ?_
 rintro _ _ ⟨A38,q38,rfl,rfl⟩
 refine Jz 4 ?_
 refine Ej (Nz (LB O e (Ot [(0,pv b),(1,nv d),(5, .slice A38 (O++[e]).length q38)] sb (Df (Md (Md (Md (Md ?_))))))))
 refine Jag (leftn+1) om ⟨Bn_2,qn_2,bln_2,leftn,A38,q38,(O++[e]),rfl,rfl,rfl,(fun s hs=>by
  rw[Xu]at hs
  rcases aFi.1 hs with h0|h0
  ·exact hO s h0
  ·rw[aEr.1 h0];exact he),(by rw[cnt_push];omega),hbn_2⟩
 refine Jz 12 ?_
 refine Md (Md (LC O (Ic (Ic (Ic (Je1 Tryz.results82 ?_))))))
 exact⟨O,_,_,_,_,_,_,rfl,rfl,hO,hcn,hbk⟩
 refine Jz 21 ?_
 refine Md (Md (LC O (Ic (Ic (Ic (Je1 Tryz.results82 ?_))))))
 exact⟨O,_,_,_,_,_,_,rfl,rfl,hO,hcn,hbk⟩
theorem qJ(b:Nat)(m:Mr)(hm:m.ct.Ok)(hnp:m.np≤2):∀(k d:Nat),d+k=3→∀(B:OA) (q:Nat) (bl:List Nat) (left:Nat),left≤12→okB bl q→aMa Tryz.prog 82 [pv b,nv d] [box b (cM m [vs B bl q,nv left]) 158,ros Gw B bl,all (arsK m.Aa m.ars)] (MB b m (d) left)
 |0,d,h,B,q,bl,left,hl,hb=>mY b m d (fun kk B q bl left hl hb=>mX b m hm hnp kk d om (fun h=>by omega) B q bl left hl hb) B q bl left hl hb
 |k+1,d,h,B,q,bl,left,hl,hb=>mY b m d (fun kk B q bl left hl hb=>mX b m hm hnp kk d om (fun _=>qJ b m hm hnp k (d+1) om) B q bl left hl hb) B q bl left hl hb
end Go.Proofs.YtlihklladkagpaaGreatDoor
