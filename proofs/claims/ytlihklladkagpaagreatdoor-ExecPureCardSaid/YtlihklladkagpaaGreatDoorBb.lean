/- Own text. -/
import Derived.Test.YtlihklladkagpaaGreatDoorAc
import Derived.Test.YtlihklladkagpaaGreatDoorBa
set_option maxHeartbeats 8000000
set_option maxRecDepth 100000
set_option linter.unusedVariables false
set_option linter.unusedSimpArgs false
namespace Go.Sep
open Go.RowKit Go.Flow Go.Mem
theorem cn0{p:Prop}(h:p:=by have h0:PS.cntL []=0:=rfl;have h1:St.pL []=[]:=rfl;simp only[h1,h0];omega):p:=h
section
variable{P:Program}{T:Tel}{l:List Oper}{Q:Act→World→Prop}
theorem opIT_tie{m p i:Nat}{a:Act}{w:World}{K:Act→World→Prop}(h:OpIT P T (tie l m p).toArray i K a w):∃o,l[i]?=some o∧CallTo T i P l.toArray o a w fun v w'=>K (a.put o.dst v) w':=by
 obtain⟨o,h1,h2⟩:=h
 simp only[List.getElem?_toArray,tie_get,Option.map_eq_some_iff]at h1
 obtain⟨o',h3,h4⟩:=h1
 refine⟨o',h3,?_⟩
 have e1:o.dst=o'.dst:=by rw[←h4];split<;>rfl
 have e2:execOp a.eval o=execOp a.eval o':=by rw[←h4];split<;>rfl
 have e3:o.guard=o'.guard:=by rw[←h4];split<;>rfl
 have e4:Region.wanted o' (yielded l.toArray a.tmps)=Region.wanted o (yielded (tie l m p).toArray a.tmps):=by rw[yielded_tie];unfold Region.wanted;rw[e3]
 have key:∀K,OpTo P (tie l m p).toArray o a w K→OpTo P l.toArray o' a w K:=fun K hk=>by
  unfold OpTo at*
  rw[e4,←e2];exact hk
 rw[e1]at h2
 unfold CallTo at*
 split
 ·rename_i hT;rw[hT]at h2;exact key _ h2
 ·rename_i t hT;rw[hT]at h2;exact⟨key _ h2.1,h2.2⟩
theorem any_tiedT{m p:Nat}:∀(fuel:Nat) (listed:Array Bool) (a:Act) (w:World),listed.getD p false=true→AnyT P T (tie l m p).toArray Q fuel listed a w→AnyT P T l.toArray Q fuel listed a w
 | 0,listed,a,w,hp,h=>by
   refine⟨List.eq_nil_iff_forall_not_mem.2 fun i hi=>?_,h.2⟩
   have h1:=ready_tie (m:=m) (p:=p).2 ⟨hi,fun _=>hp⟩
   rw[h.1]at h1;cases h1
 | fuel+1,listed,a,w,hp,h=>by
   refine⟨fun hr=>h.1 (List.eq_nil_iff_forall_not_mem.2 fun i hi=>?_),fun i hi=>?_⟩
   · have h1:=(ready_tie.1 hi).1
     rw[hr]at h1;cases h1
   · obtain⟨o,h1,h2⟩:=opIT_tie (h.2 i (ready_tie.2 ⟨hi,fun _=>hp⟩))
     exact⟨o,by simpa using h1,h2.mono fun v w' hv=>any_tiedT fuel _ _ _ (listed_set hp) hv⟩
theorem CallTo.both{i:Nat}{ops:Array Oper}{o:Oper}{a:Act}{w:World}{K K':Value→World→Prop}(hp:NoCall o∨(T i).isSome=true)(h:CallTo T i P ops o a w K)(h':CallTo T i P ops o a w K'):CallTo T i P ops o a w fun v w'=>K v w'∧K' v w':=by
 unfold CallTo at*
 split
 · rename_i hT
   rw[hT]at h h'
   rcases hp with hp|hp
   ·exact OpTo.andN hp h h'
   ·rw[hT]at hp;cases hp
 · rename_i t hT
   rw[hT]at h h'
   exact⟨h.1,fun v w' hv=>⟨h.2 v w' hv,h'.2 v w' hv⟩⟩
theorem any_splitT{m p:Nat}(hne:m≠p)(hpl:∀i o,l[i]?=some o→(NoCall o∨(T i).isSome=true)∨i=m∨i=p∨∃e∈o.after,Region.binds .any e=true∧(e.on=m∨e.on=p)):∀(fuel:Nat) (listed:Array Bool) (a:Act) (w:World),AnyT P T (tie l m p).toArray Q fuel listed a w→AnyT P T (tie l p m).toArray Q fuel listed a w→listed.getD p false=false→listed.getD m false=false→AnyT P T l.toArray Q fuel listed a w
 | 0,listed,a,w,h1,h2,hp,hm=>by
   refine⟨List.eq_nil_iff_forall_not_mem.2 fun i hi=>?_,h1.2⟩
   by_cases e:i=m
   · have:=ready_tie (m:=p) (p:=m).2 ⟨hi,fun e2=>absurd (e.symm.trans e2) hne⟩
     rw[h2.1]at this;cases this
   · have:=ready_tie (m:=m) (p:=p).2 ⟨hi,fun e2=>absurd e2 e⟩
     rw[h1.1]at this;cases this
 | fuel + 1,listed,a,w,h1,h2,hp,hm=>by
   refine⟨fun hr=>h1.1 (List.eq_nil_iff_forall_not_mem.2 fun i hi=>?_),fun i hi=>?_⟩
   · have h1:=(ready_tie.1 hi).1
     rw[hr]at h1;cases h1
   · have hl:=(ready_iff.1 hi).1
     by_cases em:i=m
     · obtain⟨o,h3,h4⟩:=opIT_tie (h2.2 i (ready_tie.2 ⟨hi,fun e2=>absurd (em.symm.trans e2) hne⟩))
       exact⟨o,by simpa using h3,h4.mono fun v w' hv=>any_tiedT fuel _ _ _ (by rw[em]at hl⊢;exact listed_own hl) hv⟩
     · by_cases ep:i=p
       · obtain⟨o,h3,h4⟩:=opIT_tie (h1.2 i (ready_tie.2 ⟨hi,fun e2=>absurd e2 em⟩))
         exact⟨o,by simpa using h3,h4.mono fun v w' hv=>any_tiedT fuel _ _ _ (by rw[ep]at hl⊢;exact listed_own hl) hv⟩
       · obtain⟨o,h3,h4⟩:=opIT_tie (h1.2 i (ready_tie.2 ⟨hi,fun e2=>absurd e2 em⟩))
         obtain⟨o',h3',h4'⟩:=opIT_tie (h2.2 i (ready_tie.2 ⟨hi,fun e2=>absurd e2 ep⟩))
         rw[h3]at h3'
         obtain rfl:=Option.some.inj h3'
         have hun:∀k,i≠k→listed.getD k false=false→(listed.setIfInBounds i true).getD k false=false:=fun k hk hf=>by
          rw[Array.getD_eq_getD_getElem?]at*
          rw[Array.getElem?_setIfInBounds,if_neg hk];exact hf
         have hpo:NoCall o∨(T i).isSome=true:=by
          rcases hpl i o h3 with hq|hq|hq|⟨e,he,hb,hq⟩
          ·exact hq
          ·exact absurd hq em
          ·exact absurd hq ep
          · obtain⟨_,o2,h5,h6⟩:=ready_iff.1 hi
            rw[h3]at h5
            obtain rfl:=Option.some.inj h5
            have h7:=h6 e he hb
            rcases hq with hq|hq<;>rw[hq]at h7
            ·rw[hm]at h7;cases h7
            ·rw[hp]at h7;cases h7
         exact⟨o,by simpa using h3,(CallTo.both hpo h4 h4').mono fun v w' ⟨hv,hv'⟩=>any_splitT hne hpl fuel _ _ _ hv hv' (hun p ep hp) (hun m em hm)⟩
def plainGoT(T:Tel)(m p:Nat):Nat→List Oper→Bool
 |_,[]=>true
 |i,o::l=>(plainOp3 o||(T i).isSome||Nat.beq i m||Nat.beq i p||tiedB m p o)&&plainGoT T m p (i+1) l
theorem plainGoT_at{m p:Nat}:∀{l:List Oper} {k i:Nat} {o:Oper},plainGoT T m p k l=true→l[i]?=some o→(plainOp3 o=true∨(T (k+i)).isSome=true)∨k+i=m∨k+i=p∨∃e∈o.after,Region.binds .any e=true∧(e.on=m∨e.on=p)
 |[],_,_,_,_,h=>by simp at h
 | o ::l,k,i,o',h,hi=>by
   rw[plainGoT,Bool.and_eq_true]at h
   cases i with
   | zero=>
     obtain rfl:o=o':=by simpa using hi
     have h1:=h.1
     simp only[Bool.or_eq_true]at h1
     rcases h1 with(((h1|h1)|h1)|h1)|h1
     ·exact .inl (.inl h1)
     ·exact .inl (.inr h1)
     ·exact .inr (.inl (Nat.eq_of_beq_eq_true h1))
     ·exact .inr (.inr (.inl (Nat.eq_of_beq_eq_true h1)))
     · obtain⟨e,he,h2⟩:=List.any_eq_true.1 h1
       simp only[Bool.and_eq_true,Bool.or_eq_true]at h2
       exact .inr (.inr (.inr ⟨e,Array.mem_toList_iff.1 he,h2.1,h2.2.imp Nat.eq_of_beq_eq_true Nat.eq_of_beq_eq_true⟩))
   | succ i=>
     have:=plainGoT_at h.2 (i:=i) (o:=o') (by simpa using hi)
     rwa[show k+1+i=k+(i+1) by omega]at this
def AnyQT(P:Program)(T:Tel)(l:List Oper)(Q:Act→World→Prop)(a:Act)(w:World):Prop:=AnyT P T l.toArray Q l.length (Array.replicate l.length false) a w
end
section
variable{P:Program}{l:List Oper}{Q:Act→World→Prop}{C:Cx}{ρ:Slots}{Γ:List Chunk}
theorem JregionT{id:Nat}{R:Exit→Act→World→Prop}(T:Tel)(hm:P.follows .mixedOrders=true)(h:To C ρ Γ (AnyQT P T l (R .normal))):To C ρ Γ ((Code.region id l.toArray true).wp P R):=fun a w ha hp=>by
 refine wp_region_any hm (AnyI.any (fun _ _ h=>h) _ _ _ _ ?_)
 have:=h a w.drew ha (hp.ext (Ext.drew_ w))
 have:=AnyT.anyI this
 simpa using this
theorem JflowT{T:Tel}(Θ:List Chunk)(ms:List Meta)(hB:flowB l ms=true)(hT:telB T ms=true)(hΘ:∀w,oks Γ w→oks Θ w)(h:FlowS P T l Θ Q ms C ρ Γ []):To C ρ Γ (AnyQT P T l Q):=fun a w ha hp=>by
 have hS:=hΘ w hp.sat.each
 have hfl:=h a w [] ha hp trivial
 have hx:Ext w w:=Ext.rfl_ w
 show AnyT P T l.toArray Q l.length (Array.replicate l.length false) a w
 refine any_of_inv (S:=oks Θ) (ms:=ms) (a0:=a) hB (fun _ _=>oks_ext) hT _ _ _ _ ?_ ?_
 · have hno:∀j,¬exd (Array.replicate l.length false) j:=fun j=>by
     unfold exd
     simp only[Array.getD_eq_getD_getElem?,Array.getElem?_replicate]
     split<;>simp
   exact⟨[],ms,a,w,[],fun _=>undef,fun _=>w,fun _=>w,rfl,by simp,fun i o _ hx=>(hno i hx).elim,⟨rfl,rfl,fun _ _=>rfl,fun j _ _ _ _ hx=>(hno j hx).elim⟩,
    ⟨rfl,rfl,fun _ _=>rfl,fun j _ _ _ _ hx=>by obtain⟨m,hm,_⟩:=hx;simp at hm⟩,hfl,hx,hS,fun p hp=>by simp at hp,fun j hx=>(hno j hx).elim,fun i _ hx=>(hno i hx).elim,fun p hp=>by simp at hp,fun p _ hx=>(hno _ hx).elim⟩
 ·simp[List.countP_replicate]
theorem To.fT{P:Program}{C:Cx}{ρ:Slots}{Γ:List Chunk}{l:List Oper}{Q:Act→World→Prop}{T:Tel}{ms:List Meta}(Θ:List Chunk)(ns:List Nat)(hΘ:∀w,oks Γ w→oks Θ w)(h:FlowS P T l Θ Q ms C ρ Γ [])(hn:nmt ns=ms:=by simp only[nmt,List.map_cons,List.map_nil,Nat.reduceMod,Nat.reduceDiv,Nat.reduceSub,Nat.reduceBEq,cond_true,cond_false];exact rfl)(hB:flowB l ms=true:=by kernel_rfl)(hT:telB T ms=true:=by rfl):To C ρ Γ (AnyQT P T l Q):=JflowT Θ ms hB hT hΘ h
theorem JsplitT{T:Tel}(m p:Nat)(hne:Nat.beq m p=false)(hpl:plainGoT T m p 0 l=true)(h1:To C ρ Γ (AnyQT P T (tie l m p) Q))(h2:To C ρ Γ (AnyQT P T (tie l p m) Q)):To C ρ Γ (AnyQT P T l Q):=fun a w ha hp=>by
 have g1:=h1 a w ha hp
 have g2:=h2 a w ha hp
 unfold AnyQT at*
 rw[tie_len]at g1 g2
 have hno:∀j,(Array.replicate l.length false).getD j false=false:=fun j=>by
  simp only[Array.getD_eq_getD_getElem?,Array.getElem?_replicate]
  split<;>rfl
 refine any_splitT (fun e=>by rw[e,Nat.beq_refl]at hne;cases hne) (fun i o ho=>?_) _ _ _ _ g1 g2 (hno p) (hno m)
 have:=plainGoT_at hpl ho
 rw[Nat.zero_add]at this
 exact this.imp (fun h=>h.imp noCall_of id) id
end
end Go.Sep
namespace Go.Proofs.YtlihklladkagpaaGreatDoor
open Go.RowKit Go.Flow Go.Mem Go.Sep Go.In
theorem Jstm{C:Cx}{ρ:Slots}{Γ:List Chunk}{K:Act→World→Prop}(s:St)(k:To C ρ (all (s.kids encE encS)::Γ) K):To C ρ (all (lsE s.A s.exprs)::all (lsS s.At s.thn)::all (lsS s.Ae s.els)::Γ) K:=by
 refine To.perm (Γ':=all (lsS s.At s.thn)::all (lsS s.Ae s.els)::all (lsE s.A s.exprs)::Γ) ?_ (JallApp (To.perm (List.Perm.swap _ _ _) (JallApp ?_)))
 ·exact(List.Perm.trans (List.Perm.cons _ (List.Perm.swap _ _ _)) (List.Perm.swap _ _ _)).symm
 ·rw[St.kids_eq]at k;exact k
theorem JkidsEC{C:Cx}{ρ:Slots}{Γ:List Chunk}{K:Act→World→Prop}(e:Ex)(O:List Ex)(k:To C ρ (all (Ex.kidsL encE ([e]++O))::Γ) K):To C ρ (all (lsE e.A e.args)::all (Ex.kidsL encE O)::Γ) K:=
 JallApp (by rw[show lsE e.A e.args=e.kids encE from(Ex.kids_eq encE e).symm];exact k)
theorem Ex.pureL_len(l:List Ex):(Ex.pL l).length=l.length:=by rw[Ex.pureL_map,List.length_map]
theorem pureL_all{p:PE→Prop}{l:List Ex}(h:∀x∈l,p x.pure):∀e∈Ex.pL l,p e:=fun e he=>by
 rw[Ex.pureL_map]at he
 obtain⟨x,hx,rfl⟩:=List.mem_map.1 he
 exact h x hx
theorem ncs_get{k:Nat}(h:k<3):([nC 0,nC 1,nC 2]:List ByteArray)[k]?=some (nC k):=by
 match k,h with
 |0,_=>rfl
 |1,_=>rfl
 |2,_=>rfl
def nmR(c n:Nat):Value→List Chunk→Prop:=fun v Γ'=>∃(A:OA) (q:Nat),v= .slice A (nms c n).length q∧Γ'=[rows encZ 9 1 A q (nms c n)]∧(0<n→A=some ⟨blk A,ofs A,none⟩)
theorem ar_get{m:Mr}{i:Nat}{a:Ar}(h:m.ars[i]?=some a):m.ct.ars[i]?=some a.l:=by
 show(m.ars.map Ar.l)[i]?=_
 rw[List.getElem?_map,h];rfl
theorem ar_ok{m:Mr}(hm:m.ct.Ok){i:Nat}{a:Ar}(h:m.ars[i]?=some a):1≤a.l.length∧a.l.length≤3∧∀x∈a.l,x≤2:=hm.each a.l (mog (ar_get h))
theorem ars_len(m:Mr):m.ct.ars.length=m.ars.length:=List.length_map ..
def NumsR(b:Nat)(m:Mr)(n left:Nat):Value→List Chunk→Prop:=fun v Γ'=>∃(l:List Ex) (A:OA) (ql:Nat) (B':OA) (q':Nat) (bl':List Nat),v=vs A l ql∧Γ'=[box b (cM m [vs B' bl' q',nv left]) 158,ros encY B' bl',rows encE 220 4 A ql l,all (Ex.kidsL encE l)]∧l.length=n∧(∀x∈l,IntE m.ct m.np 2 x.pure)∧okB bl' q'
def BodyR(b:Nat)(m:Mr)(d left:Nat):Value→List Chunk→Prop:=fun v Γ'=>∃(l:List St) (A:OA) (ql:Nat) (B':OA) (q':Nat) (bl':List Nat) (left':Nat),v=vs A l ql∧Γ'=[box b (cM m [vs B' bl' q',nv left']) 158,ros encY B' bl',all (arsK m.Aa m.ars),all (lsS A l)]∧(∀s∈St.pL l,StE m.ct m.np (3-d) s)∧PS.cntL (St.pL l)+left'=left∧okB bl' q'
def StmtR(b:Nat)(m:Mr)(d left:Nat):Value→List Chunk→Prop:=fun v Γ'=>∃(e:St) (B':OA) (q':Nat) (bl':List Nat) (left':Nat),v= .agg (encS e).toArray∧Γ'=[box b (cM m [vs B' bl' q',nv left']) 158,ros encY B' bl',all (arsK m.Aa m.ars),all (e.kids encE encS)]∧StE m.ct m.np (3-d) e.pure∧PS.cntL (St.pL e.thn)+PS.cntL (St.pL e.els)+left'=left∧okB bl' q'
theorem stmt_step(b:Nat)(m:Mr)(hm:m.ct.Ok)(hnp:m.np≤2)(kk d:Nat)(hd:d≤3)(ih:d<3→∀(B:OA) (q:Nat) (bl:List Nat) (left:Nat),left≤12→okB bl q→Does Tryz.prog 82 [pv b,nv (d+1)] [box b (cM m [vs B bl q,nv left]) 158,ros encY B bl,all (arsK m.Aa m.ars)] (BodyR b m (d+1) left))(B:OA)(q:Nat)(bl:List Nat)(left:Nat)(hl:left≤12)(hb:okB bl q):
    Does Tryz.prog 130 [pv b,nv kk,nv d] [box b (cM m [vs B bl q,nv left]) 158,ros encY B bl,all (arsK m.Aa m.ars)] (StmtR b m d left):=by
 have hmi:1≤m.ints∧m.ints≤3:=hm.ints
 have hmt:m.tables≤1:=hm.tables
 have hmf:m.flags≤2:=hm.flags
 have hmo:m.own<m.ars.length:=by have:=hm.own;rwa[ars_len]at this
 have hma:m.ars.length≤3:=by have:=hm.some;rwa[ars_len]at this
 refine Does.en Tryz.func130 Tryz.ntmps130 fun w0=>?_
 refine Js (To.g (Jal fun b6=>?_))
 refine Jz 11 ?_
 refine Jcp rfl ?_ ?_<;>intro c18
 refine Jz 3 ?_
 refine Jcf [1,1] (truth_fn b m hm hnp 2 0 rfl B q bl left hb) ?_
 rintro _ _ ⟨e,Bn,qn,bln,rfl,rfl,he,hbn⟩
 refine To.sn (encE e) fun b23=>?_
 refine Jr (.bd [.int .i64 1, .string nB0, .string bE, .slice (some ⟨b23,0,none⟩) 1 1, .slice none 0 0, .slice none 0 0]) ?_
 refine Jz 6 ?_
 refine Jup3 (Jexprs1 (A:=(some ⟨b23,0,none⟩)) e (JfreeS (JfreeS (Jup2 (Jstm (⟨1,nB0,bE,(some ⟨b23,0,none⟩),1,[e],none,0,[],none,0,[]⟩:St) (To.ec [1,1,2,0] Tryz.results130 ?_))))))
 exact⟨(⟨1,nB0,bE,(some ⟨b23,0,none⟩),1,[e],none,0,[],none,0,[]⟩:St),_,_,_,_,rfl,rfl, .setB _ _ he,cn0,hbn⟩
 refine Js (To.g (To.mt [0,1,2,6] 25 ((decide (((kk:Nat):Int)=3))&&decide (0<((m.tables:Nat):Int))) ?_ ?_))
 refine Jz 2 ?_
 refine JgP ?_ ?_<;>intro g28
 refine Jz 9 ?_
 refine To.mh rfl (gg g28)
 refine Jz 9 ?_
 refine To.mh rfl (gg g28)
 refine Jcond rfl ?_ ?_<;>intro c25
 have c25:=bA c25
 refine Jz 3 ?_
 refine Jcf [1,1] (number_fn b m hm hnp 3 0 rfl B q bl left hb) ?_
 rintro _ _ ⟨e,Bn,qn,bln,rfl,rfl,he,hbn⟩
 refine Jm ?_
 refine Jcf [0,0] (number_fn b m hm hnp 3 0 rfl Bn qn bln left hbn) ?_
 rintro _ _ ⟨e_2,Bn_2,qn_2,bln_2,rfl,rfl,he_2,hbn_2⟩
 refine To.sn [nv e.op, .string e.name, .int .i64 e.n,vs e.A e.args e.q,nv e_2.op, .string e_2.name, .int .i64 e_2.n,vs e_2.A e_2.args e_2.q] fun b39=>?_
 refine Jr (.bd [.int .i64 2, .string nT0, .string bE, .slice (some ⟨b39,0,none⟩) 2 2, .slice none 0 0, .slice none 0 0]) ?_
 refine Jz 6 ?_
 refine Jup3 (Jup4 (Jexprs2 (A:=(some ⟨b39,0,none⟩)) e e_2 (JfreeS (JfreeS (Jup2 (Jstm (⟨2,nT0,bE,(some ⟨b39,0,none⟩),2,[e,e_2],none,0,[],none,0,[]⟩:St) (To.ec [1,1,2,0] Tryz.results130 ?_)))))))
 exact⟨(⟨2,nT0,bE,(some ⟨b39,0,none⟩),2,[e,e_2],none,0,[],none,0,[]⟩:St),_,_,_,_,rfl,rfl, .put _ _ _ (show 0<m.tables by omega) he he_2,cn0,hbn_2⟩
 have c25:=bA c25
 refine Js (To.g (To.mt [0,1,2,6] 41 ((decide (((kk:Nat):Int)=4))&&decide (0<((m.tables:Nat):Int))) ?_ ?_))
 refine Jz 2 ?_
 refine JgP ?_ ?_<;>intro g44
 refine Jz 9 ?_
 refine To.mh rfl (gg g44)
 refine Jz 9 ?_
 refine To.mh rfl (gg g44)
 refine Jcond rfl ?_ ?_<;>intro c41
 have c41:=bA c41
 refine Jz 3 ?_
 refine Jcf [1,1] (number_fn b m hm hnp 3 0 rfl B q bl left hb) ?_
 rintro _ _ ⟨e,Bn,qn,bln,rfl,rfl,he,hbn⟩
 refine To.sn (encE e) fun b53=>?_
 refine Jr (.bd [.int .i64 3, .string nT0, .string bE, .slice (some ⟨b53,0,none⟩) 1 1, .slice none 0 0, .slice none 0 0]) ?_
 refine Jz 6 ?_
 refine Jup3 (Jexprs1 (A:=(some ⟨b53,0,none⟩)) e (JfreeS (JfreeS (Jup2 (Jstm (⟨3,nT0,bE,(some ⟨b53,0,none⟩),1,[e],none,0,[],none,0,[]⟩:St) (To.ec [1,1,2,0] Tryz.results130 ?_))))))
 exact⟨(⟨3,nT0,bE,(some ⟨b53,0,none⟩),1,[e],none,0,[],none,0,[]⟩:St),_,_,_,_,rfl,rfl, .del _ _ (show 0<m.tables by omega) he,cn0,hbn⟩
 have c41:=bA c41
 refine Js (To.g (To.mt [0,1,2,6] 55 (((decide (((kk:Nat):Int)=5))||(decide (((kk:Nat):Int)=6)))&&decide (((d:Nat):Int)<3)) ?_ ?_))
 refine Jz 2 ?_
 refine JgP ?_ ?_<;>intro g58
 refine Jz 10 ?_
 refine To.mh rfl (gg g58)
 refine Jz 3 ?_
 refine JgP ?_ ?_<;>intro g62
 refine Jz 6 ?_
 refine To.mh rfl (gg2 g58 g62)
 refine Jz 6 ?_
 refine To.mh rfl (gg2 g58 g62)
 refine Jcond rfl ?_ ?_<;>intro c55
 have c55:=bA c55
 refine Jz 3 ?_
 refine Jcf [1,1] (truth_fn b m hm hnp 2 0 rfl B q bl left hb) ?_
 rintro _ _ ⟨e,Bn,qn,bln,rfl,rfl,he,hbn⟩
 refine Jal fun b7=>?_
 refine Jz 8 ?_
 refine Jcf [1,1,3] (ih om Bn qn bln left om hbn) ?_
 rintro _ _ ⟨ls,As,qs,Bn_2,qn_2,bln_2,leftn,rfl,rfl,hls,hcs,hbn_2⟩
 refine Jz 4 ?_
 refine JregionT (tel []) mixed.h (JsplitT 1 6 rfl (by kernel_rfl) ?_ ?_)
 refine To.fT [box b7 (encE e) 220] [0,2,3,4,5,506,201,2007,2508] (ocs (oca 4 rfl) (ocn _)) ?_
 refine Jz 5 ?_
 refine Fw.cf [0,0,0] (ih om Bn_2 qn_2 bln_2 leftn om hbn_2) ?_
 rintro _ _ ⟨ls_2,As_2,qs_2,Bn_3,qn_3,bln_3,leftn_2,rfl,rfl,hls_2,hcs_2,hbn_3⟩
 refine⟨ocs (oca 5 rfl) (ocn _),?_⟩
 refine Fw.sn (encE e) fun b73=>?_
 refine Fw.f rfl (.bd [.int .i64 4, .string bE, .string bE, .slice (some ⟨b73,0,none⟩) 1 1,vs As ls qs,vs As_2 ls_2 qs_2]) ?_
 refine Fw.up rfl rfl rfl (Up.storeS (i:=8) rfl rfl rfl r217 rfl rfl rfl (bta rfl)) (ocs (oca 6 rfl) (ocn _)) ?_
 refine Jz 5 ?_
 refine Jup7 (Jexprs1 (A:=(some ⟨b73,0,none⟩)) e (Jup4 (Jup5 (Jup2 (Jstm (⟨4,bE,bE,(some ⟨b73,0,none⟩),1,[e],As,qs,ls,As_2,qs_2,ls_2⟩:St) (To.ec [1,1,1,0] Tryz.results130 ?_))))))
 exact⟨(⟨4,bE,bE,(some ⟨b73,0,none⟩),1,[e],As,qs,ls,As_2,qs_2,ls_2⟩:St),_,_,_,_,rfl,rfl,(by rw[show 3-d=(3-(d+1))+1 from by omega];exact .ife _ _ _ _ he hls hls_2),cn0,hbn_3⟩
 refine To.fT [box b7 (encE e) 220] [0,2,3,4,5,201,2506,7,508] (ocs (oca 4 rfl) (ocn _)) ?_
 refine Jz 5 ?_
 refine Fw.sn (encE e) fun b73=>?_
 refine Fw.cf [1,1,1] (ih om Bn_2 qn_2 bln_2 leftn om hbn_2) ?_
 rintro _ _ ⟨ls_2,As_2,qs_2,Bn_3,qn_3,bln_3,leftn_2,rfl,rfl,hls_2,hcs_2,hbn_3⟩
 refine⟨ocs (oca 6 rfl) (ocn _),?_⟩
 refine Fw.f rfl (.bd [.int .i64 4, .string bE, .string bE, .slice (some ⟨b73,0,none⟩) 1 1,vs As ls qs,vs As_2 ls_2 qs_2]) ?_
 refine Fw.up rfl rfl rfl (Up.storeS (i:=8) rfl rfl rfl r217 rfl rfl rfl (bta rfl)) (ocs (oca 6 rfl) (ocn _)) ?_
 refine Jz 5 ?_
 refine Jup4 (Jup7 (Jexprs1 (A:=(some ⟨b73,0,none⟩)) e (Jup4 (Jup5 (Jup2 (Jstm (⟨4,bE,bE,(some ⟨b73,0,none⟩),1,[e],As,qs,ls,As_2,qs_2,ls_2⟩:St) (To.ec [1,1,1,0] Tryz.results130 ?_)))))))
 exact⟨(⟨4,bE,bE,(some ⟨b73,0,none⟩),1,[e],As,qs,ls,As_2,qs_2,ls_2⟩:St),_,_,_,_,rfl,rfl,(by rw[show 3-d=(3-(d+1))+1 from by omega];exact .ife _ _ _ _ he hls hls_2),cn0,hbn_3⟩
 have c55:=bA c55
 refine Js (To.g (To.mt [0,1,2,6] 80 ((decide (((kk:Nat):Int)=7))&&decide (((d:Nat):Int)<2)) ?_ ?_))
 refine Jz 2 ?_
 refine JgP ?_ ?_<;>intro g83
 refine Jz 6 ?_
 refine To.mh rfl (gg g83)
 refine Jz 6 ?_
 refine To.mh rfl (gg g83)
 refine Jcond rfl ?_ ?_<;>intro c80
 have c80:=bA c80
 refine Jz 3 ?_
 refine Jcf [1,1] (truth_fn b m hm hnp 2 0 rfl B q bl left hb) ?_
 rintro _ _ ⟨e,Bn,qn,bln,rfl,rfl,he,hbn⟩
 refine Jal fun b9=>?_
 refine Jz 4 ?_
 refine JregionT (tel []) mixed.h (JsplitT 1 5 rfl (by kernel_rfl) ?_ ?_)
 refine To.fT [box b9 (encE e) 220] [0,2,3,4,505,201,2006,2507] (ocs (oca 0 rfl) (ocn _)) ?_
 refine Jz 4 ?_
 refine Fw.cf [1,1,3] (ih om Bn qn bln left om hbn) ?_
 rintro _ _ ⟨ls,As,qs,Bn_2,qn_2,bln_2,leftn,rfl,rfl,hls,hcs,hbn_2⟩
 refine⟨ocs (oca 4 rfl) (ocn _),?_⟩
 refine Fw.sn (encE e) fun b90=>?_
 refine Fw.f rfl (.bd [.int .i64 5, .string bE, .string bE, .slice (some ⟨b90,0,none⟩) 1 1,vs As ls qs, .slice none 0 0]) ?_
 refine Fw.up rfl rfl rfl (Up.storeS (i:=7) rfl rfl rfl r217 rfl rfl rfl (bta rfl)) (ocs (oca 5 rfl) (ocn _)) ?_
 refine Jz 5 ?_
 refine Jup6 (Jexprs1 (A:=(some ⟨b90,0,none⟩)) e (JfreeS (Jup5 (Jup2 (Jstm (⟨5,bE,bE,(some ⟨b90,0,none⟩),1,[e],As,qs,ls,none,0,[]⟩:St) (To.ec [1,1,1,0] Tryz.results130 ?_))))))
 exact⟨(⟨5,bE,bE,(some ⟨b90,0,none⟩),1,[e],As,qs,ls,none,0,[]⟩:St),_,_,_,_,rfl,rfl,(by rw[show 3-d=(3-(d+1))+1 from by omega];exact .whl _ _ _ he hls),cn0,hbn_2⟩
 refine To.fT [box b9 (encE e) 220] [0,2,3,4,201,2505,6,507] (ocs (oca 0 rfl) (ocn _)) ?_
 refine Jz 4 ?_
 refine Fw.sn (encE e) fun b90=>?_
 refine Fw.cf [2,2,4] (ih om Bn qn bln left om hbn) ?_
 rintro _ _ ⟨ls,As,qs,Bn_2,qn_2,bln_2,leftn,rfl,rfl,hls,hcs,hbn_2⟩
 refine⟨ocs (oca 5 rfl) (ocn _),?_⟩
 refine Fw.f rfl (.bd [.int .i64 5, .string bE, .string bE, .slice (some ⟨b90,0,none⟩) 1 1,vs As ls qs, .slice none 0 0]) ?_
 refine Fw.up rfl rfl rfl (Up.storeS (i:=7) rfl rfl rfl r217 rfl rfl rfl (bta rfl)) (ocs (oca 5 rfl) (ocn _)) ?_
 refine Jz 5 ?_
 refine Jup4 (Jup6 (Jexprs1 (A:=(some ⟨b90,0,none⟩)) e (JfreeS (Jup5 (Jup2 (Jstm (⟨5,bE,bE,(some ⟨b90,0,none⟩),1,[e],As,qs,ls,none,0,[]⟩:St) (To.ec [1,1,1,0] Tryz.results130 ?_)))))))
 exact⟨(⟨5,bE,bE,(some ⟨b90,0,none⟩),1,[e],As,qs,ls,none,0,[]⟩:St),_,_,_,_,rfl,rfl,(by rw[show 3-d=(3-(d+1))+1 from by omega];exact .whl _ _ _ he hls),cn0,hbn_2⟩
 have c80:=bA c80
 refine Js (To.g (To.mt [0,1,2,6] 96 ((decide (((kk:Nat):Int)=8))||(decide (((kk:Nat):Int)=9))) ?_ ?_))
 refine Jz 2 ?_
 refine JgP ?_ ?_<;>intro g99
 refine Jz 6 ?_
 refine To.mh rfl (gg g99)
 refine Jz 6 ?_
 refine To.mh rfl (gg g99)
 refine Jcond rfl ?_ ?_<;>intro c96
 have c96:=bA c96
 refine Js (To.one 3 rfl (ros encAr m.Aa m.ars) rfl (List.mem_cons_self ..) (Jz 7 ?_))
 refine Jcf [2,2] (next_fn b m B q bl left m.ars.length hb om) ?_
 rintro _ _ ⟨k,Bn,qn,bln,rfl,rfl,hk,hbn⟩
 refine Jz 4 ?_
 obtain⟨a,ha⟩:=exg m.ars k om
 have hao:=ar_ok hm ha
 refine To.one 4 rfl (ros encN a.A a.l) rfl (arsK_mem (mog ha)) (Jz 10 ?_)
 refine Jcf [1,1] (next_fn b m Bn qn bln left a.l.length hbn om) ?_
 rintro _ _ ⟨k_2,Bn_2,qn_2,bln_2,rfl,rfl,hk_2,hbn_2⟩
 refine Jz 4 ?_
 obtain⟨x,hx⟩:=exg a.l k_2 om
 have hxo:=hao.2.2 x (mog hx)
 refine To.nm (Jsub [(0,pv b),(1,nv kk),(2,nv d),(6,pv b6),(10,nv k),(11,nv k_2)] sb (JregionT (tel [(4,(nmR 104 3))]) mixed.h (JsplitT 0 19 rfl (by kernel_rfl) ?_ ?_)))
 refine JsplitT 7 19 rfl (by kernel_rfl) ?_ ?_
 refine To.fT [] [1,5,8,9,10,11,13,16,404,5006,112,114,115,117,118,5519,200,1002,1103,107,1020,1521] (ocn _) ?_
 refine Jz 8 ?_
 refine Fw.tf (names_fn 104 3 om om) (ocn _) (fun _ _ h=>by obtain⟨_,_,_,rfl,_⟩:=h;rfl) ?_
 rintro _ _ ⟨An,qn_3,rfl,rfl,hAn⟩
 refine Fw.f rfl (Rd.indexS (j:=k_2) (hAn (by decide)) rfl rfl rfl s37 (by rw[nms_len];omega)) ?_
 refine Jz 5 ?_
 refine Fw.cf [1,1] (numbers_fn b m hm hnp x om Bn_2 qn_2 bln_2 left hbn_2) ?_
 rintro _ _ ⟨l,Al,ql,Bn_3,qn_4,bln_3,rfl,rfl,hl,hli,hbn_3⟩
 refine⟨ocn _,?_⟩
 refine Fw.sn [.string (nC 0), .string (nC 1), .string (nC 2)] fun b120=>?_
 refine Fw.f rfl (Rd.indexS (j:=k) rfl rfl rfl rfl s37 om) ?_
 refine Fw.r rfl (Rd.ld (i:=0) rfl rfl c9 rfl (gives_1 (rwg encZ_ok (ncs_get om)) rfl)) ?_
 refine Fw.r rfl (Rd.ld (i:=4) rfl rfl c9 rfl (gives_1 (rwg encZ_ok (nms_get om)) rfl)) ?_
 refine Fw.f rfl (.bd [.int .i64 6, .string (nC k), .string (nm 104 k_2),vs Al l ql, .slice none 0 0, .slice none 0 0]) ?_
 refine Fw.up rfl rfl rfl (Up.storeS (i:=8) rfl rfl rfl r217 rfl rfl rfl (bta rfl)) (ocn _) ?_
 refine Jz 5 ?_
 refine Jup4 (Jup4 (JlayE l (JfreeS (JfreeS (Jup2 (Jstm (⟨6,(nC k),(nm 104 k_2),Al,ql,l,none,0,[],none,0,[]⟩:St) (To.ec [2,2,6,0] Tryz.results130 ?_)))))))
 exact⟨(⟨6,(nC k),(nm 104 k_2),Al,ql,l,none,0,[],none,0,[]⟩:St),_,_,_,_,rfl,rfl, .send _ _ _ _ _ (ar_get ha) (by rw[Ex.pureL_len,hl];exact hx) (pureL_all hli),cn0,hbn_3⟩
 refine To.fT [] [1,5,8,9,10,11,13,16,404,5006,5107,112,114,115,117,118,5519,200,1002,1103,1020,1521] (ocn _) ?_
 refine Jz 8 ?_
 refine Fw.tf (names_fn 104 3 om om) (ocn _) (fun _ _ h=>by obtain⟨_,_,_,rfl,_⟩:=h;rfl) ?_
 rintro _ _ ⟨An,qn_3,rfl,rfl,hAn⟩
 refine Fw.f rfl (Rd.indexS (j:=k_2) (hAn (by decide)) rfl rfl rfl s37 (by rw[nms_len];omega)) ?_
 refine Fw.r rfl (Rd.ld (i:=0) rfl rfl c9 rfl (gives_1 (rwg encZ_ok (nms_get om)) rfl)) ?_
 refine Jz 5 ?_
 refine Fw.cf [1,1] (numbers_fn b m hm hnp x om Bn_2 qn_2 bln_2 left hbn_2) ?_
 rintro _ _ ⟨l,Al,ql,Bn_3,qn_4,bln_3,rfl,rfl,hl,hli,hbn_3⟩
 refine⟨ocn _,?_⟩
 refine Fw.sn [.string (nC 0), .string (nC 1), .string (nC 2)] fun b120=>?_
 refine Fw.f rfl (Rd.indexS (j:=k) rfl rfl rfl rfl s37 om) ?_
 refine Fw.r rfl (Rd.ld (i:=0) rfl rfl c9 rfl (gives_1 (rwg encZ_ok (ncs_get om)) rfl)) ?_
 refine Fw.f rfl (.bd [.int .i64 6, .string (nC k), .string (nm 104 k_2),vs Al l ql, .slice none 0 0, .slice none 0 0]) ?_
 refine Fw.up rfl rfl rfl (Up.storeS (i:=8) rfl rfl rfl r217 rfl rfl rfl (bta rfl)) (ocn _) ?_
 refine Jz 5 ?_
 refine Jup4 (Jup4 (JlayE l (JfreeS (JfreeS (Jup2 (Jstm (⟨6,(nC k),(nm 104 k_2),Al,ql,l,none,0,[],none,0,[]⟩:St) (To.ec [2,2,6,0] Tryz.results130 ?_)))))))
 exact⟨(⟨6,(nC k),(nm 104 k_2),Al,ql,l,none,0,[],none,0,[]⟩:St),_,_,_,_,rfl,rfl, .send _ _ _ _ _ (ar_get ha) (by rw[Ex.pureL_len,hl];exact hx) (pureL_all hli),cn0,hbn_3⟩
 refine JsplitT 3 19 rfl (by kernel_rfl) ?_ ?_
 refine JsplitT 7 19 rfl (by kernel_rfl) ?_ ?_
 refine JflowT [] [⟨1,[],0⟩,⟨5,[],0⟩,⟨8,[],0⟩,⟨9,[],0⟩,⟨10,[],0⟩,⟨11,[],0⟩,⟨13,[],0⟩,⟨16,[],0⟩,⟨4,[],4⟩,⟨6,[4],0⟩,⟨0,[],2⟩,⟨2,[0],0⟩,⟨12,[],1⟩,⟨14,[],1⟩,⟨15,[],1⟩,⟨17,[],1⟩,⟨18,[],1⟩,⟨19,[4,0],5⟩,⟨3,[],1⟩,⟨7,[],1⟩,⟨20,[],0⟩,⟨21,[],5⟩] (by kernel_rfl) rfl (ocn _) (Jz 8 ?_)
 refine Fw.tf (names_fn 104 3 om om) (ocn _) (fun _ _ h=>by obtain⟨_,_,_,rfl,_⟩:=h;rfl) ?_
 rintro _ _ ⟨An,qn_3,rfl,rfl,hAn⟩
 refine Fw.f rfl (Rd.indexS (j:=k_2) (hAn (by decide)) rfl rfl rfl s37 (by rw[nms_len];omega)) ?_
 refine Fw.sn [.string (nC 0), .string (nC 1), .string (nC 2)] fun b120=>?_
 refine Fw.f rfl (Rd.indexS (j:=k) rfl rfl rfl rfl s37 om) ?_
 refine Jz 5 ?_
 refine Fw.cf [2,2] (numbers_fn b m hm hnp x om Bn_2 qn_2 bln_2 left hbn_2) ?_
 rintro _ _ ⟨l,Al,ql,Bn_3,qn_4,bln_3,rfl,rfl,hl,hli,hbn_3⟩
 refine⟨ocn _,?_⟩
 refine Fw.r rfl (Rd.ld (i:=4) rfl rfl c9 rfl (gives_1 (rwg encZ_ok (ncs_get om)) rfl)) ?_
 refine Fw.r rfl (Rd.ld (i:=5) rfl rfl c9 rfl (gives_1 (rwg encZ_ok (nms_get om)) rfl)) ?_
 refine Fw.f rfl (.bd [.int .i64 6, .string (nC k), .string (nm 104 k_2),vs Al l ql, .slice none 0 0, .slice none 0 0]) ?_
 refine Fw.up rfl rfl rfl (Up.storeS (i:=8) rfl rfl rfl r217 rfl rfl rfl (bta rfl)) (ocn _) ?_
 refine Jz 5 ?_
 refine Jup3 (Jup3 (JlayE l (JfreeS (JfreeS (Jup2 (Jstm (⟨6,(nC k),(nm 104 k_2),Al,ql,l,none,0,[],none,0,[]⟩:St) (To.ec [1,1,6,0] Tryz.results130 ?_)))))))
 exact⟨(⟨6,(nC k),(nm 104 k_2),Al,ql,l,none,0,[],none,0,[]⟩:St),_,_,_,_,rfl,rfl, .send _ _ _ _ _ (ar_get ha) (by rw[Ex.pureL_len,hl];exact hx) (pureL_all hli),cn0,hbn_3⟩
 refine JflowT [] [⟨1,[],0⟩,⟨5,[],0⟩,⟨8,[],0⟩,⟨9,[],0⟩,⟨10,[],0⟩,⟨11,[],0⟩,⟨13,[],0⟩,⟨16,[],0⟩,⟨4,[],4⟩,⟨6,[4],0⟩,⟨0,[],2⟩,⟨2,[0],0⟩,⟨7,[4],1⟩,⟨12,[],1⟩,⟨14,[],1⟩,⟨15,[],1⟩,⟨17,[],1⟩,⟨18,[],1⟩,⟨19,[4,0],5⟩,⟨3,[],1⟩,⟨20,[],0⟩,⟨21,[],5⟩] (by kernel_rfl) rfl (ocn _) (Jz 8 ?_)
 refine Fw.tf (names_fn 104 3 om om) (ocn _) (fun _ _ h=>by obtain⟨_,_,_,rfl,_⟩:=h;rfl) ?_
 rintro _ _ ⟨An,qn_3,rfl,rfl,hAn⟩
 refine Fw.f rfl (Rd.indexS (j:=k_2) (hAn (by decide)) rfl rfl rfl s37 (by rw[nms_len];omega)) ?_
 refine Fw.sn [.string (nC 0), .string (nC 1), .string (nC 2)] fun b120=>?_
 refine Fw.f rfl (Rd.indexS (j:=k) rfl rfl rfl rfl s37 om) ?_
 refine Fw.r rfl (Rd.ld (i:=0) rfl rfl c9 rfl (gives_1 (rwg encZ_ok (nms_get om)) rfl)) ?_
 refine Jz 5 ?_
 refine Fw.cf [2,2] (numbers_fn b m hm hnp x om Bn_2 qn_2 bln_2 left hbn_2) ?_
 rintro _ _ ⟨l,Al,ql,Bn_3,qn_4,bln_3,rfl,rfl,hl,hli,hbn_3⟩
 refine⟨ocn _,?_⟩
 refine Fw.r rfl (Rd.ld (i:=4) rfl rfl c9 rfl (gives_1 (rwg encZ_ok (ncs_get om)) rfl)) ?_
 refine Fw.f rfl (.bd [.int .i64 6, .string (nC k), .string (nm 104 k_2),vs Al l ql, .slice none 0 0, .slice none 0 0]) ?_
 refine Fw.up rfl rfl rfl (Up.storeS (i:=8) rfl rfl rfl r217 rfl rfl rfl (bta rfl)) (ocn _) ?_
 refine Jz 5 ?_
 refine Jup3 (Jup3 (JlayE l (JfreeS (JfreeS (Jup2 (Jstm (⟨6,(nC k),(nm 104 k_2),Al,ql,l,none,0,[],none,0,[]⟩:St) (To.ec [1,1,6,0] Tryz.results130 ?_)))))))
 exact⟨(⟨6,(nC k),(nm 104 k_2),Al,ql,l,none,0,[],none,0,[]⟩:St),_,_,_,_,rfl,rfl, .send _ _ _ _ _ (ar_get ha) (by rw[Ex.pureL_len,hl];exact hx) (pureL_all hli),cn0,hbn_3⟩
 refine JsplitT 7 19 rfl (by kernel_rfl) ?_ ?_
 refine JflowT [] [⟨1,[],0⟩,⟨5,[],0⟩,⟨8,[],0⟩,⟨9,[],0⟩,⟨10,[],0⟩,⟨11,[],0⟩,⟨13,[],0⟩,⟨16,[],0⟩,⟨4,[],4⟩,⟨6,[4],0⟩,⟨0,[],2⟩,⟨2,[0],0⟩,⟨3,[0],1⟩,⟨12,[],1⟩,⟨14,[],1⟩,⟨15,[],1⟩,⟨17,[],1⟩,⟨18,[],1⟩,⟨19,[4,0],5⟩,⟨7,[],1⟩,⟨20,[],0⟩,⟨21,[],5⟩] (by kernel_rfl) rfl (ocn _) (Jz 8 ?_)
 refine Fw.tf (names_fn 104 3 om om) (ocn _) (fun _ _ h=>by obtain⟨_,_,_,rfl,_⟩:=h;rfl) ?_
 rintro _ _ ⟨An,qn_3,rfl,rfl,hAn⟩
 refine Fw.f rfl (Rd.indexS (j:=k_2) (hAn (by decide)) rfl rfl rfl s37 (by rw[nms_len];omega)) ?_
 refine Fw.sn [.string (nC 0), .string (nC 1), .string (nC 2)] fun b120=>?_
 refine Fw.f rfl (Rd.indexS (j:=k) rfl rfl rfl rfl s37 om) ?_
 refine Fw.r rfl (Rd.ld (i:=0) rfl rfl c9 rfl (gives_1 (rwg encZ_ok (ncs_get om)) rfl)) ?_
 refine Jz 5 ?_
 refine Fw.cf [2,2] (numbers_fn b m hm hnp x om Bn_2 qn_2 bln_2 left hbn_2) ?_
 rintro _ _ ⟨l,Al,ql,Bn_3,qn_4,bln_3,rfl,rfl,hl,hli,hbn_3⟩
 refine⟨ocn _,?_⟩
 refine Fw.r rfl (Rd.ld (i:=5) rfl rfl c9 rfl (gives_1 (rwg encZ_ok (nms_get om)) rfl)) ?_
 refine Fw.f rfl (.bd [.int .i64 6, .string (nC k), .string (nm 104 k_2),vs Al l ql, .slice none 0 0, .slice none 0 0]) ?_
 refine Fw.up rfl rfl rfl (Up.storeS (i:=8) rfl rfl rfl r217 rfl rfl rfl (bta rfl)) (ocn _) ?_
 refine Jz 5 ?_
 refine Jup3 (Jup3 (JlayE l (JfreeS (JfreeS (Jup2 (Jstm (⟨6,(nC k),(nm 104 k_2),Al,ql,l,none,0,[],none,0,[]⟩:St) (To.ec [1,1,6,0] Tryz.results130 ?_)))))))
 exact⟨(⟨6,(nC k),(nm 104 k_2),Al,ql,l,none,0,[],none,0,[]⟩:St),_,_,_,_,rfl,rfl, .send _ _ _ _ _ (ar_get ha) (by rw[Ex.pureL_len,hl];exact hx) (pureL_all hli),cn0,hbn_3⟩
 refine JflowT [] [⟨1,[],0⟩,⟨5,[],0⟩,⟨8,[],0⟩,⟨9,[],0⟩,⟨10,[],0⟩,⟨11,[],0⟩,⟨13,[],0⟩,⟨16,[],0⟩,⟨4,[],4⟩,⟨6,[4],0⟩,⟨0,[],2⟩,⟨2,[0],0⟩,⟨3,[0],1⟩,⟨7,[4],1⟩,⟨12,[],1⟩,⟨14,[],1⟩,⟨15,[],1⟩,⟨17,[],1⟩,⟨18,[],1⟩,⟨19,[4,0],5⟩,⟨20,[],0⟩,⟨21,[],5⟩] (by kernel_rfl) rfl (ocn _) (Jz 8 ?_)
 refine Fw.tf (names_fn 104 3 om om) (ocn _) (fun _ _ h=>by obtain⟨_,_,_,rfl,_⟩:=h;rfl) ?_
 rintro _ _ ⟨An,qn_3,rfl,rfl,hAn⟩
 refine Fw.f rfl (Rd.indexS (j:=k_2) (hAn (by decide)) rfl rfl rfl s37 (by rw[nms_len];omega)) ?_
 refine Fw.sn [.string (nC 0), .string (nC 1), .string (nC 2)] fun b120=>?_
 refine Fw.f rfl (Rd.indexS (j:=k) rfl rfl rfl rfl s37 om) ?_
 refine Fw.r rfl (Rd.ld (i:=0) rfl rfl c9 rfl (gives_1 (rwg encZ_ok (ncs_get om)) rfl)) ?_
 refine Fw.r rfl (Rd.ld (i:=0) rfl rfl c9 rfl (gives_1 (rwg encZ_ok (nms_get om)) rfl)) ?_
 refine Jz 5 ?_
 refine Fw.cf [2,2] (numbers_fn b m hm hnp x om Bn_2 qn_2 bln_2 left hbn_2) ?_
 rintro _ _ ⟨l,Al,ql,Bn_3,qn_4,bln_3,rfl,rfl,hl,hli,hbn_3⟩
 refine⟨ocn _,?_⟩
 refine Fw.f rfl (.bd [.int .i64 6, .string (nC k), .string (nm 104 k_2),vs Al l ql, .slice none 0 0, .slice none 0 0]) ?_
 refine Fw.up rfl rfl rfl (Up.storeS (i:=8) rfl rfl rfl r217 rfl rfl rfl (bta rfl)) (ocn _) ?_
 refine Jz 5 ?_
 refine Jup3 (Jup3 (JlayE l (JfreeS (JfreeS (Jup2 (Jstm (⟨6,(nC k),(nm 104 k_2),Al,ql,l,none,0,[],none,0,[]⟩:St) (To.ec [1,1,6,0] Tryz.results130 ?_)))))))
 exact⟨(⟨6,(nC k),(nm 104 k_2),Al,ql,l,none,0,[],none,0,[]⟩:St),_,_,_,_,rfl,rfl, .send _ _ _ _ _ (ar_get ha) (by rw[Ex.pureL_len,hl];exact hx) (pureL_all hli),cn0,hbn_3⟩
 have c96:=bA c96
 refine Jz 7 ?_
 refine Jcp rfl ?_ ?_<;>intro c141
 refine Js (To.one 3 rfl (ros encAr m.Aa m.ars) rfl (List.mem_cons_self ..) ?_)
 obtain⟨a,ha⟩:∃z0,m.ars[m.own]?=some z0:=⟨m.ars[m.own]'om,gge _⟩
 have hao:=ar_ok hm ha
 refine To.one 4 rfl (ros encN a.A a.l) rfl (arsK_mem (mog ha)) (Jfw [] [0,1,2,3,5,6,7,104,108,109,110,11,512,13] (ocn _) ?_)
 refine Jz 12 ?_
 refine Fw.cf [3,3] (next_fn b m B q bl left a.l.length hb om) ?_
 rintro _ _ ⟨k,Bn,qn,bln,rfl,rfl,hk,hbn⟩
 refine⟨ocn _,?_⟩
 refine Jz 6 ?_
 refine Jcf [0,0] (number_fn b m hm hnp 2 1 rfl Bn qn bln left hbn) ?_
 rintro _ _ ⟨e,Bn_2,qn_2,bln_2,rfl,rfl,he,hbn_2⟩
 refine Jal fun b13=>?_
 refine Jz 4 ?_
 obtain⟨x,hx⟩:=exg a.l k om
 have hxo:=hao.2.2 x (mog hx)
 refine To.nm (Jsub [(0,pv b),(1,nv kk),(2,nv d),(6,pv b6),(12,nv k),(13,pv b13)] sb (JregionT (telJ (tel [(0,(nmR 104 3))]) (telC [(20,[box b (cM m [vs Bn_2 bln_2 qn_2,nv left]) 158,ros encY Bn_2 bln_2],(NumsR b m x left))])) mixed.h (JsplitT 3 20 rfl (by kernel_rfl) ?_ ?_)))
 refine JsplitT 5 20 rfl (by kernel_rfl) ?_ ?_
 refine JsplitT 3 21 rfl (by kernel_rfl) ?_ ?_
 refine To.fT [box b13 (encE e) 220] [1,4,6,7,8,9,11,12,13,17,400,1002,110,114,115,116,118,119,1520,205,6521,103,22,523] (ocs (oca 0 rfl) (ocn _)) ?_
 refine Jz 10 ?_
 refine Fw.tf (names_fn 104 3 om om) (ocn _) (fun _ _ h=>by obtain⟨_,_,_,rfl,_⟩:=h;rfl) ?_
 rintro _ _ ⟨An,qn_3,rfl,rfl,hAn⟩
 refine Fw.f rfl (Rd.indexS (j:=k) (hAn (by decide)) rfl rfl rfl s37 (by rw[nms_len];omega)) ?_
 refine Jz 6 ?_
 refine Fw.turnT [2,2] rfl rfl rfl rfl .fc rfl (numbers_fn b m hm hnp x om Bn_2 qn_2 bln_2 left hbn_2) rfl ?_
 rintro _ _ ⟨l,Al,ql,Bn_3,qn_4,bln_3,rfl,rfl,hl,hli,hbn_3⟩
 refine⟨ocs (oca 5 rfl) (ocn _),?_⟩
 refine Fw.sn (encE e) fun b164=>?_
 refine Fw.ge rfl rfl rfl rfl (Ge.appendL (l:=[e]) (cap:=1) encE_ok (i:=0) (m:=l) rfl s215 rfl rfl rfl (src_row (i:=3) rfl) om om) ?_
 rintro _ _ ⟨A180,q180,rfl,rfl⟩
 refine⟨ocs (oca 6 rfl) (ocn _),?_⟩
 refine Fw.r rfl (Rd.ld (i:=5) rfl rfl c9 rfl (gives_1 (rwg encZ_ok (nms_get om)) rfl)) ?_
 refine Fw.f rfl (.bd [.int .i64 7, .string bE, .string (nm 104 k),vs A180 ([e]++l) q180, .slice none 0 0, .slice none 0 0]) ?_
 refine Fw.up rfl rfl rfl (Up.storeS (i:=10) rfl rfl rfl r217 rfl rfl rfl (bta rfl)) (ocs (oca 6 rfl) (ocn _)) ?_
 refine Jz 5 ?_
 refine Jup4 (Jup7 (JkidsEC e l (Jup1 (JlayE ([e]++l) (JfreeS (JfreeS (Jup2 (Jstm (⟨7,bE,(nm 104 k),A180,q180,[e]++l,none,0,[],none,0,[]⟩:St) (To.ec [1,1,7,0] Tryz.results130 ?_)))))))))
 exact⟨(⟨7,bE,(nm 104 k),A180,q180,[e]++l,none,0,[],none,0,[]⟩:St),_,_,_,_,rfl,rfl, .after _ _ _ _ (Ex.pL l) (ar_get ha) (by rw[Ex.pureL_len,hl];exact hx) he (pureL_all hli),cn0,hbn_3⟩
 refine To.fT [box b13 (encE e) 220] [1,4,6,7,8,9,11,12,13,17,400,1002,110,114,115,116,118,119,1520,103,205,6521,22,523] (ocs (oca 0 rfl) (ocn _)) ?_
 refine Jz 10 ?_
 refine Fw.tf (names_fn 104 3 om om) (ocn _) (fun _ _ h=>by obtain⟨_,_,_,rfl,_⟩:=h;rfl) ?_
 rintro _ _ ⟨An,qn_3,rfl,rfl,hAn⟩
 refine Fw.f rfl (Rd.indexS (j:=k) (hAn (by decide)) rfl rfl rfl s37 (by rw[nms_len];omega)) ?_
 refine Jz 6 ?_
 refine Fw.turnT [2,2] rfl rfl rfl rfl .fc rfl (numbers_fn b m hm hnp x om Bn_2 qn_2 bln_2 left hbn_2) rfl ?_
 rintro _ _ ⟨l,Al,ql,Bn_3,qn_4,bln_3,rfl,rfl,hl,hli,hbn_3⟩
 refine⟨ocs (oca 5 rfl) (ocn _),?_⟩
 refine Fw.r rfl (Rd.ld (i:=4) rfl rfl c9 rfl (gives_1 (rwg encZ_ok (nms_get om)) rfl)) ?_
 refine Fw.sn (encE e) fun b164=>?_
 refine Fw.ge rfl rfl rfl rfl (Ge.appendL (l:=[e]) (cap:=1) encE_ok (i:=0) (m:=l) rfl s215 rfl rfl rfl (src_row (i:=3) rfl) om om) ?_
 rintro _ _ ⟨A180,q180,rfl,rfl⟩
 refine⟨ocs (oca 6 rfl) (ocn _),?_⟩
 refine Fw.f rfl (.bd [.int .i64 7, .string bE, .string (nm 104 k),vs A180 ([e]++l) q180, .slice none 0 0, .slice none 0 0]) ?_
 refine Fw.up rfl rfl rfl (Up.storeS (i:=10) rfl rfl rfl r217 rfl rfl rfl (bta rfl)) (ocs (oca 6 rfl) (ocn _)) ?_
 refine Jz 5 ?_
 refine Jup4 (Jup7 (JkidsEC e l (Jup1 (JlayE ([e]++l) (JfreeS (JfreeS (Jup2 (Jstm (⟨7,bE,(nm 104 k),A180,q180,[e]++l,none,0,[],none,0,[]⟩:St) (To.ec [1,1,7,0] Tryz.results130 ?_)))))))))
 exact⟨(⟨7,bE,(nm 104 k),A180,q180,[e]++l,none,0,[],none,0,[]⟩:St),_,_,_,_,rfl,rfl, .after _ _ _ _ (Ex.pL l) (ar_get ha) (by rw[Ex.pureL_len,hl];exact hx) he (pureL_all hli),cn0,hbn_3⟩
 refine JsplitT 3 21 rfl (by kernel_rfl) ?_ ?_
 refine JflowT [box b13 (encE e) 220] [⟨1,[],0⟩,⟨4,[],0⟩,⟨6,[],0⟩,⟨7,[],0⟩,⟨8,[],0⟩,⟨9,[],0⟩,⟨11,[],0⟩,⟨12,[],0⟩,⟨13,[],0⟩,⟨17,[],0⟩,⟨0,[],4⟩,⟨2,[0],0⟩,⟨5,[],2⟩,⟨10,[],1⟩,⟨14,[],1⟩,⟨15,[],1⟩,⟨16,[],1⟩,⟨18,[],1⟩,⟨19,[],1⟩,⟨20,[0,5],5⟩,⟨21,[],5⟩,⟨3,[],1⟩,⟨22,[],0⟩,⟨23,[],5⟩] (by kernel_rfl) rfl (ocs (oca 0 rfl) (ocn _)) (Jz 10 ?_)
 refine Fw.tf (names_fn 104 3 om om) (ocn _) (fun _ _ h=>by obtain⟨_,_,_,rfl,_⟩:=h;rfl) ?_
 rintro _ _ ⟨An,qn_3,rfl,rfl,hAn⟩
 refine Fw.f rfl (Rd.indexS (j:=k) (hAn (by decide)) rfl rfl rfl s37 (by rw[nms_len];omega)) ?_
 refine Fw.sn (encE e) fun b164=>?_
 refine Jz 6 ?_
 refine Fw.turnT [3,3] rfl rfl rfl rfl .fc rfl (numbers_fn b m hm hnp x om Bn_2 qn_2 bln_2 left hbn_2) rfl ?_
 rintro _ _ ⟨l,Al,ql,Bn_3,qn_4,bln_3,rfl,rfl,hl,hli,hbn_3⟩
 refine⟨ocs (oca 6 rfl) (ocn _),?_⟩
 refine Fw.ge rfl rfl rfl rfl (Ge.appendL (l:=[e]) (cap:=1) encE_ok (i:=4) (m:=l) rfl s215 rfl rfl rfl (src_row (i:=2) rfl) om om) ?_
 rintro _ _ ⟨A180,q180,rfl,rfl⟩
 refine⟨ocs (oca 6 rfl) (ocn _),?_⟩
 refine Fw.r rfl (Rd.ld (i:=5) rfl rfl c9 rfl (gives_1 (rwg encZ_ok (nms_get om)) rfl)) ?_
 refine Fw.f rfl (.bd [.int .i64 7, .string bE, .string (nm 104 k),vs A180 ([e]++l) q180, .slice none 0 0, .slice none 0 0]) ?_
 refine Fw.up rfl rfl rfl (Up.storeS (i:=10) rfl rfl rfl r217 rfl rfl rfl (bta rfl)) (ocs (oca 6 rfl) (ocn _)) ?_
 refine Jz 5 ?_
 refine Jup3 (Jup7 (JkidsEC e l (Jup4 (JlayE ([e]++l) (JfreeS (JfreeS (Jup2 (Jstm (⟨7,bE,(nm 104 k),A180,q180,[e]++l,none,0,[],none,0,[]⟩:St) (To.ec [1,1,7,0] Tryz.results130 ?_)))))))))
 exact⟨(⟨7,bE,(nm 104 k),A180,q180,[e]++l,none,0,[],none,0,[]⟩:St),_,_,_,_,rfl,rfl, .after _ _ _ _ (Ex.pL l) (ar_get ha) (by rw[Ex.pureL_len,hl];exact hx) he (pureL_all hli),cn0,hbn_3⟩
 refine JflowT [box b13 (encE e) 220] [⟨1,[],0⟩,⟨4,[],0⟩,⟨6,[],0⟩,⟨7,[],0⟩,⟨8,[],0⟩,⟨9,[],0⟩,⟨11,[],0⟩,⟨12,[],0⟩,⟨13,[],0⟩,⟨17,[],0⟩,⟨0,[],4⟩,⟨2,[0],0⟩,⟨5,[],2⟩,⟨10,[],1⟩,⟨14,[],1⟩,⟨15,[],1⟩,⟨16,[],1⟩,⟨18,[],1⟩,⟨19,[],1⟩,⟨20,[0,5],5⟩,⟨3,[],1⟩,⟨21,[],5⟩,⟨22,[],0⟩,⟨23,[],5⟩] (by kernel_rfl) rfl (ocs (oca 0 rfl) (ocn _)) (Jz 10 ?_)
 refine Fw.tf (names_fn 104 3 om om) (ocn _) (fun _ _ h=>by obtain⟨_,_,_,rfl,_⟩:=h;rfl) ?_
 rintro _ _ ⟨An,qn_3,rfl,rfl,hAn⟩
 refine Fw.f rfl (Rd.indexS (j:=k) (hAn (by decide)) rfl rfl rfl s37 (by rw[nms_len];omega)) ?_
 refine Fw.sn (encE e) fun b164=>?_
 refine Jz 6 ?_
 refine Fw.turnT [3,3] rfl rfl rfl rfl .fc rfl (numbers_fn b m hm hnp x om Bn_2 qn_2 bln_2 left hbn_2) rfl ?_
 rintro _ _ ⟨l,Al,ql,Bn_3,qn_4,bln_3,rfl,rfl,hl,hli,hbn_3⟩
 refine⟨ocs (oca 6 rfl) (ocn _),?_⟩
 refine Fw.r rfl (Rd.ld (i:=5) rfl rfl c9 rfl (gives_1 (rwg encZ_ok (nms_get om)) rfl)) ?_
 refine Fw.ge rfl rfl rfl rfl (Ge.appendL (l:=[e]) (cap:=1) encE_ok (i:=4) (m:=l) rfl s215 rfl rfl rfl (src_row (i:=2) rfl) om om) ?_
 rintro _ _ ⟨A180,q180,rfl,rfl⟩
 refine⟨ocs (oca 6 rfl) (ocn _),?_⟩
 refine Fw.f rfl (.bd [.int .i64 7, .string bE, .string (nm 104 k),vs A180 ([e]++l) q180, .slice none 0 0, .slice none 0 0]) ?_
 refine Fw.up rfl rfl rfl (Up.storeS (i:=10) rfl rfl rfl r217 rfl rfl rfl (bta rfl)) (ocs (oca 6 rfl) (ocn _)) ?_
 refine Jz 5 ?_
 refine Jup3 (Jup7 (JkidsEC e l (Jup4 (JlayE ([e]++l) (JfreeS (JfreeS (Jup2 (Jstm (⟨7,bE,(nm 104 k),A180,q180,[e]++l,none,0,[],none,0,[]⟩:St) (To.ec [1,1,7,0] Tryz.results130 ?_)))))))))
 exact⟨(⟨7,bE,(nm 104 k),A180,q180,[e]++l,none,0,[],none,0,[]⟩:St),_,_,_,_,rfl,rfl, .after _ _ _ _ (Ex.pL l) (ar_get ha) (by rw[Ex.pureL_len,hl];exact hx) he (pureL_all hli),cn0,hbn_3⟩
 refine JsplitT 5 20 rfl (by kernel_rfl) ?_ ?_
 refine To.fT [box b13 (encE e) 220] [1,4,6,7,8,9,11,12,13,17,400,1002,1103,110,114,115,116,118,119,1520,205,6521,22,523] (ocs (oca 0 rfl) (ocn _)) ?_
 refine Jz 10 ?_
 refine Fw.tf (names_fn 104 3 om om) (ocn _) (fun _ _ h=>by obtain⟨_,_,_,rfl,_⟩:=h;rfl) ?_
 rintro _ _ ⟨An,qn_3,rfl,rfl,hAn⟩
 refine Fw.f rfl (Rd.indexS (j:=k) (hAn (by decide)) rfl rfl rfl s37 (by rw[nms_len];omega)) ?_
 refine Fw.r rfl (Rd.ld (i:=0) rfl rfl c9 rfl (gives_1 (rwg encZ_ok (nms_get om)) rfl)) ?_
 refine Jz 6 ?_
 refine Fw.turnT [2,2] rfl rfl rfl rfl .fc rfl (numbers_fn b m hm hnp x om Bn_2 qn_2 bln_2 left hbn_2) rfl ?_
 rintro _ _ ⟨l,Al,ql,Bn_3,qn_4,bln_3,rfl,rfl,hl,hli,hbn_3⟩
 refine⟨ocs (oca 5 rfl) (ocn _),?_⟩
 refine Fw.sn (encE e) fun b164=>?_
 refine Fw.ge rfl rfl rfl rfl (Ge.appendL (l:=[e]) (cap:=1) encE_ok (i:=0) (m:=l) rfl s215 rfl rfl rfl (src_row (i:=3) rfl) om om) ?_
 rintro _ _ ⟨A180,q180,rfl,rfl⟩
 refine⟨ocs (oca 6 rfl) (ocn _),?_⟩
 refine Fw.f rfl (.bd [.int .i64 7, .string bE, .string (nm 104 k),vs A180 ([e]++l) q180, .slice none 0 0, .slice none 0 0]) ?_
 refine Fw.up rfl rfl rfl (Up.storeS (i:=10) rfl rfl rfl r217 rfl rfl rfl (bta rfl)) (ocs (oca 6 rfl) (ocn _)) ?_
 refine Jz 5 ?_
 refine Jup4 (Jup7 (JkidsEC e l (Jup1 (JlayE ([e]++l) (JfreeS (JfreeS (Jup2 (Jstm (⟨7,bE,(nm 104 k),A180,q180,[e]++l,none,0,[],none,0,[]⟩:St) (To.ec [1,1,7,0] Tryz.results130 ?_)))))))))
 exact⟨(⟨7,bE,(nm 104 k),A180,q180,[e]++l,none,0,[],none,0,[]⟩:St),_,_,_,_,rfl,rfl, .after _ _ _ _ (Ex.pL l) (ar_get ha) (by rw[Ex.pureL_len,hl];exact hx) he (pureL_all hli),cn0,hbn_3⟩
 refine JflowT [box b13 (encE e) 220] [⟨1,[],0⟩,⟨4,[],0⟩,⟨6,[],0⟩,⟨7,[],0⟩,⟨8,[],0⟩,⟨9,[],0⟩,⟨11,[],0⟩,⟨12,[],0⟩,⟨13,[],0⟩,⟨17,[],0⟩,⟨0,[],4⟩,⟨2,[0],0⟩,⟨3,[0],1⟩,⟨5,[],2⟩,⟨10,[],1⟩,⟨14,[],1⟩,⟨15,[],1⟩,⟨16,[],1⟩,⟨18,[],1⟩,⟨19,[],1⟩,⟨20,[0,5],5⟩,⟨21,[],5⟩,⟨22,[],0⟩,⟨23,[],5⟩] (by kernel_rfl) rfl (ocs (oca 0 rfl) (ocn _)) (Jz 10 ?_)
 refine Fw.tf (names_fn 104 3 om om) (ocn _) (fun _ _ h=>by obtain⟨_,_,_,rfl,_⟩:=h;rfl) ?_
 rintro _ _ ⟨An,qn_3,rfl,rfl,hAn⟩
 refine Fw.f rfl (Rd.indexS (j:=k) (hAn (by decide)) rfl rfl rfl s37 (by rw[nms_len];omega)) ?_
 refine Fw.r rfl (Rd.ld (i:=0) rfl rfl c9 rfl (gives_1 (rwg encZ_ok (nms_get om)) rfl)) ?_
 refine Fw.sn (encE e) fun b164=>?_
 refine Jz 6 ?_
 refine Fw.turnT [3,3] rfl rfl rfl rfl .fc rfl (numbers_fn b m hm hnp x om Bn_2 qn_2 bln_2 left hbn_2) rfl ?_
 rintro _ _ ⟨l,Al,ql,Bn_3,qn_4,bln_3,rfl,rfl,hl,hli,hbn_3⟩
 refine⟨ocs (oca 6 rfl) (ocn _),?_⟩
 refine Fw.ge rfl rfl rfl rfl (Ge.appendL (l:=[e]) (cap:=1) encE_ok (i:=4) (m:=l) rfl s215 rfl rfl rfl (src_row (i:=2) rfl) om om) ?_
 rintro _ _ ⟨A180,q180,rfl,rfl⟩
 refine⟨ocs (oca 6 rfl) (ocn _),?_⟩
 refine Fw.f rfl (.bd [.int .i64 7, .string bE, .string (nm 104 k),vs A180 ([e]++l) q180, .slice none 0 0, .slice none 0 0]) ?_
 refine Fw.up rfl rfl rfl (Up.storeS (i:=10) rfl rfl rfl r217 rfl rfl rfl (bta rfl)) (ocs (oca 6 rfl) (ocn _)) ?_
 refine Jz 5 ?_
 refine Jup3 (Jup7 (JkidsEC e l (Jup4 (JlayE ([e]++l) (JfreeS (JfreeS (Jup2 (Jstm (⟨7,bE,(nm 104 k),A180,q180,[e]++l,none,0,[],none,0,[]⟩:St) (To.ec [1,1,7,0] Tryz.results130 ?_)))))))))
 exact⟨(⟨7,bE,(nm 104 k),A180,q180,[e]++l,none,0,[],none,0,[]⟩:St),_,_,_,_,rfl,rfl, .after _ _ _ _ (Ex.pL l) (ar_get ha) (by rw[Ex.pureL_len,hl];exact hx) he (pureL_all hli),cn0,hbn_3⟩
 refine Js (To.g (To.mt [0,1,2,6] 182 ((decide (((kk:Nat):Int)=11))&&decide (((d:Nat):Int)<3)) ?_ ?_))
 refine Jz 2 ?_
 refine JgP ?_ ?_<;>intro g185
 refine Jz 6 ?_
 refine To.mh rfl (gg g185)
 refine Jz 6 ?_
 refine To.mh rfl (gg g185)
 refine Jcond rfl ?_ ?_<;>intro c182
 have c182:=bA c182
 refine Jz 4 ?_
 refine Jcf [1,1] (next_fn b m B q bl left 2 hb om) ?_
 rintro _ _ ⟨k,Bn,qn,bln,rfl,rfl,hk,hbn⟩
 refine Jz 3 ?_
 refine Jcp rfl ?_ ?_<;>intro c191
 refine Jz 3 ?_
 refine Jcf [0,0] (numbers_fn b m hm hnp 2 om Bn qn bln left hbn) ?_
 rintro _ _ ⟨l,Al,ql,Bn_2,qn_2,bln_2,rfl,rfl,hl,hli,hbn_2⟩
 refine Jz 4 ?_
 obtain⟨a1,a2,rfl⟩:∃a1 a2,l=[a1,a2]:=by
  match l,hl with
  |[a1,a2],_=>exact⟨a1,a2,rfl⟩
 refine Jz 5 ?_
 refine Jcf [0,0,3] (ih om Bn_2 qn_2 bln_2 left om hbn_2) ?_
 rintro _ _ ⟨ls,As,qs,Bn_3,qn_3,bln_3,leftn,rfl,rfl,hls,hcs,hbn_3⟩
 refine Jr (.bd [.int .i64 8, .string bE, .string bE, .slice Al ([a1,a2].length) ql, .slice none 0 0,vs As ls qs]) ?_
 refine Jz 7 ?_
 refine Jup5 (Jup5 (JlayE [a1,a2] (JfreeS (Jup5 (Jup1 (Jup2 (Jstm (⟨8,bE,bE,Al,ql,[a1,a2],none,0,[],As,qs,ls⟩:St) (To.ec [1,1,1,0] Tryz.results130 ?_))))))))
 exact⟨(⟨8,bE,bE,Al,ql,[a1,a2],none,0,[],As,qs,ls⟩:St),_,_,_,_,rfl,rfl,(by rw[show 3-d=(3-(d+1))+1 from by omega];exact .store _ _ _ _ (hli _ (List.mem_cons_self ..)) (hli _ (List.mem_cons_of_mem _ (List.mem_cons_self ..))) hls),cn0,hbn_3⟩
 refine Jz 5 ?_
 refine Jcf [0,0] (integer_fn b m Bn qn bln left hbn hmi) ?_
 rintro _ _ ⟨k_2,Bn_2,qn_2,bln_2,rfl,rfl,hk_2,hbn_2⟩
 refine Jz 6 ?_
 refine Jcf [0,0] (number_fn b m hm hnp 3 0 rfl Bn_2 qn_2 bln_2 left hbn_2) ?_
 rintro _ _ ⟨e,Bn_3,qn_3,bln_3,rfl,rfl,he,hbn_3⟩
 refine Jal fun b16=>?_
 refine Jz 4 ?_
 refine JregionT (tel []) mixed.h (JsplitT 2 6 rfl (by kernel_rfl) ?_ ?_)
 refine To.fT [box b16 (encE e) 220] [0,1,3,4,5,506,202,3007,3508] (ocs (oca 0 rfl) (ocn _)) ?_
 refine Jz 5 ?_
 refine Fw.cf [1,1,3] (ih om Bn_3 qn_3 bln_3 left om hbn_3) ?_
 rintro _ _ ⟨ls,As,qs,Bn_4,qn_4,bln_4,leftn,rfl,rfl,hls,hcs,hbn_4⟩
 refine⟨ocs (oca 4 rfl) (ocn _),?_⟩
 refine Fw.sn (encE e) fun b206=>?_
 refine Fw.f rfl (.bd [.int .i64 9, .string (nm 120 k_2), .string bE, .slice (some ⟨b206,0,none⟩) 1 1, .slice none 0 0,vs As ls qs]) ?_
 refine Fw.up rfl rfl rfl (Up.storeS (i:=7) rfl rfl rfl r217 rfl rfl rfl (bta rfl)) (ocs (oca 5 rfl) (ocn _)) ?_
 refine Jz 5 ?_
 refine Jup6 (Jexprs1 (A:=(some ⟨b206,0,none⟩)) e (JfreeS (Jup5 (Jup1 (Jup2 (Jstm (⟨9,(nm 120 k_2),bE,(some ⟨b206,0,none⟩),1,[e],none,0,[],As,qs,ls⟩:St) (To.ec [1,1,1,0] Tryz.results130 ?_)))))))
 exact⟨(⟨9,(nm 120 k_2),bE,(some ⟨b206,0,none⟩),1,[e],none,0,[],As,qs,ls⟩:St),_,_,_,_,rfl,rfl,(by rw[show 3-d=(3-(d+1))+1 from by omega];exact .fetch _ _ _ _ hk_2 he hls),cn0,hbn_4⟩
 refine To.fT [box b16 (encE e) 220] [0,1,3,4,5,202,3506,7,508] (ocs (oca 0 rfl) (ocn _)) ?_
 refine Jz 5 ?_
 refine Fw.sn (encE e) fun b206=>?_
 refine Fw.cf [2,2,4] (ih om Bn_3 qn_3 bln_3 left om hbn_3) ?_
 rintro _ _ ⟨ls,As,qs,Bn_4,qn_4,bln_4,leftn,rfl,rfl,hls,hcs,hbn_4⟩
 refine⟨ocs (oca 5 rfl) (ocn _),?_⟩
 refine Fw.f rfl (.bd [.int .i64 9, .string (nm 120 k_2), .string bE, .slice (some ⟨b206,0,none⟩) 1 1, .slice none 0 0,vs As ls qs]) ?_
 refine Fw.up rfl rfl rfl (Up.storeS (i:=7) rfl rfl rfl r217 rfl rfl rfl (bta rfl)) (ocs (oca 5 rfl) (ocn _)) ?_
 refine Jz 5 ?_
 refine Jup4 (Jup6 (Jexprs1 (A:=(some ⟨b206,0,none⟩)) e (JfreeS (Jup5 (Jup1 (Jup2 (Jstm (⟨9,(nm 120 k_2),bE,(some ⟨b206,0,none⟩),1,[e],none,0,[],As,qs,ls⟩:St) (To.ec [1,1,1,0] Tryz.results130 ?_))))))))
 exact⟨(⟨9,(nm 120 k_2),bE,(some ⟨b206,0,none⟩),1,[e],none,0,[],As,qs,ls⟩:St),_,_,_,_,rfl,rfl,(by rw[show 3-d=(3-(d+1))+1 from by omega];exact .fetch _ _ _ _ hk_2 he hls),cn0,hbn_4⟩
 have c182:=bA c182
 refine Jz 4 ?_
 refine JgP ?_ ?_<;>intro g215
 refine Jm ?_
 refine Jcf [1,1] (next_fn b m B q bl left 3 hb om) ?_
 rintro _ _ ⟨k,Bn,qn,bln,rfl,rfl,hk,hbn⟩
 refine Jz 5 ?_
 refine Jcp rfl ?_ ?_<;>intro c212
 refine Js (To.g (Jr (.bd [.int .i64 10, .string bE, .string bE, .slice none 0 0, .slice none 0 0, .slice none 0 0]) ?_))
 refine Jz 6 ?_
 refine JfreeE (JfreeS (JfreeS (Jup2 (Jstm (⟨10,bE,bE,none,0,[],none,0,[],none,0,[]⟩:St) (To.ec [1,1,2,0] Tryz.results130 ?_)))))
 exact⟨(⟨10,bE,bE,none,0,[],none,0,[],none,0,[]⟩:St),_,_,_,_,rfl,rfl, .stop _,cn0,hbn⟩
 refine Jz 6 ?_
 refine Jcf [0,0] (integer_fn b m Bn qn bln left hbn hmi) ?_
 rintro _ _ ⟨k_2,Bn_2,qn_2,bln_2,rfl,rfl,hk_2,hbn_2⟩
 refine Jz 7 ?_
 refine Jcf [0,0] (number_fn b m hm hnp 3 0 rfl Bn_2 qn_2 bln_2 left hbn_2) ?_
 rintro _ _ ⟨e,Bn_3,qn_3,bln_3,rfl,rfl,he,hbn_3⟩
 refine To.sn (encE e) fun b226=>?_
 refine Jr (.bd [.int .i64 1, .string (nm 120 k_2), .string bE, .slice (some ⟨b226,0,none⟩) 1 1, .slice none 0 0, .slice none 0 0]) ?_
 refine Jz 4 ?_
 refine Jup3 (Jexprs1 (A:=(some ⟨b226,0,none⟩)) e (JfreeS (JfreeS (Jup2 (Jstm (⟨1,(nm 120 k_2),bE,(some ⟨b226,0,none⟩),1,[e],none,0,[],none,0,[]⟩:St) (To.ec [1,1,2,0] Tryz.results130 ?_))))))
 exact⟨(⟨1,(nm 120 k_2),bE,(some ⟨b226,0,none⟩),1,[e],none,0,[],none,0,[]⟩:St),_,_,_,_,rfl,rfl, .setX _ _ _ hk_2 he,cn0,hbn_3⟩
 refine Jz 14 ?_
 refine Jcf [1,1] (integer_fn b m B q bl left hb hmi) ?_
 rintro _ _ ⟨k,Bn,qn,bln,rfl,rfl,hk,hbn⟩
 refine Jz 7 ?_
 refine Jcf [0,0] (number_fn b m hm hnp 3 0 rfl Bn qn bln left hbn) ?_
 rintro _ _ ⟨e,Bn_2,qn_2,bln_2,rfl,rfl,he,hbn_2⟩
 refine To.sn (encE e) fun b226=>?_
 refine Jr (.bd [.int .i64 1, .string (nm 120 k), .string bE, .slice (some ⟨b226,0,none⟩) 1 1, .slice none 0 0, .slice none 0 0]) ?_
 refine Jz 4 ?_
 refine Jup3 (Jexprs1 (A:=(some ⟨b226,0,none⟩)) e (JfreeS (JfreeS (Jup2 (Jstm (⟨1,(nm 120 k),bE,(some ⟨b226,0,none⟩),1,[e],none,0,[],none,0,[]⟩:St) (To.ec [1,1,2,0] Tryz.results130 ?_))))))
 exact⟨(⟨1,(nm 120 k),bE,(some ⟨b226,0,none⟩),1,[e],none,0,[],none,0,[]⟩:St),_,_,_,_,rfl,rfl, .setX _ _ _ hk he,cn0,hbn_2⟩
theorem St.pureL_push(O:List St)(e:St):St.pL (O++[e])=St.pL O++[e.pure]:=by rw[St.pm,List.map_append,St.pm];rfl
theorem cnt_push(O:List St)(e:St):PS.cntL (St.pL (O++[e]))=PS.cntL (St.pL O)+(1+PS.cntL (St.pL e.thn)+PS.cntL (St.pL e.els)):=by
 rw[St.pureL_push,PS.cntL_app,St.pq];rfl
theorem cnt_len(O:List St):O.length≤PS.cntL (St.pL O):=by
 induction O with
 |nil=>exact Nat.zero_le _
 |cons a r ih=>show r.length+1≤PS.cnt a.pure+PS.cntL (St.pL r);rw[St.pq,PS.cnt];omega
theorem body_step(b:Nat)(m:Mr)(d:Nat)(hst:∀(kk:Nat) (B:OA) (q:Nat) (bl:List Nat) (left:Nat),left≤12→okB bl q→Does Tryz.prog 130 [pv b,nv kk,nv d] [box b (cM m [vs B bl q,nv left]) 158,ros encY B bl,all (arsK m.Aa m.ars)] (StmtR b m (d) left))(B:OA)(q:Nat)(bl:List Nat)(left:Nat)(hl:left≤12)(hb:okB bl q):
    Does Tryz.prog 82 [pv b,nv d] [box b (cM m [vs B bl q,nv left]) 158,ros encY B bl,all (arsK m.Aa m.ars)] (BodyR b m d left):=by
 refine Does.en Tryz.func82 Tryz.ntmps82 fun w0=>?_
 refine Jz 12 ?_
 refine JnilRow (encS) 217 6 (To.nilTS (To.loP (fun u g mz ρ Γ=>∃(Bk:OA) (qk:Nat) (blk:List Nat) (leftk:Nat) (Ao:OA) (qo:Nat) (O:List St),ρ=[u 0,u 1,(5,vs Ao O qo)]∧Γ=[box b (cM m [vs Bk blk qk,nv leftk]) 158,ros encY Bk blk,g 4,rows encS 217 6 Ao qo O,all (St.kidsL encE encS O)]∧mz=leftk+1∧(∀s∈St.pL O,StE m.ct m.np (3-d) s)∧(PS.cntL (St.pL O)+leftk=left)∧(okB blk qk)) ⟨⟨B,q,bl,left,none,0,([]:List St),rfl,rfl,rfl,(fun s hs=>by cases hs),(show 0+left=left from Nat.zero_add _),hb⟩,sb⟩ ?_))
 rintro mz _ _ ⟨Bk,qk,blk,leftk,Ao,qo,O,rfl,rfl,rfl,hO,hcn,hbk⟩
 have hcl:O.length≤PS.cntL (St.pL O):=cnt_len O
 refine Jz 9 ?_
 refine JgP ?_ ?_<;>intro g13
 refine Jz 8 ?_
 refine Jcp rfl ?_ ?_<;>intro c19
 refine Jz 6 ?_
 refine Jcf [0,0] (next_fn b m Bk qk blk leftk 14 hbk om) ?_
 rintro _ _ ⟨k,Bn,qn,bln,rfl,rfl,hk,hbn⟩
 refine Jz 10 ?_
 refine Jcp rfl ?_ ?_<;>intro c23
 refine Jz 12 ?_
 refine Jup4 (Jup4 (JlayS O (Jup3 (Jup3 (Jup3 (Je1 Tryz.results82 ?_))))))
 exact⟨O,_,_,_,_,_,_,rfl,rfl,hO,hcn,hbn⟩
 refine Jz 8 ?_
 refine Jr (Rd.as (v':=nv (leftk-1)) (congrArg (Value.int .i64) om) (Rd.sub64 rfl rfl rfl om)) ?_
 refine Jz 10 ?_
 refine Jcf [0,0,0] (hst k Bn qn bln (leftk-1) om hbn) ?_
 rintro _ _ ⟨e,Bn_2,qn_2,bln_2,leftn,rfl,rfl,he,hc,hbn_2⟩
 refine To.sn (encS e) fun b37=>?_
 refine Jge rfl rfl rfl (Ge.append1 encS_ok (i:=5) (j:=0) (el:=e) rfl s38 rfl rfl rfl rfl rfl om om) ?_
 rintro _ _ ⟨A38,q38,rfl,rfl⟩
 refine Jz 4 ?_
 refine Jup6 (Jup5 (To.kidsS O e (Jsub [(0,pv b),(1,nv d),(5, .slice A38 (O++[e]).length q38)] sb (Jdel1 (Jup4 (Jup4 (Jup4 (Jup4 ?_))))))))
 refine Jag (leftn+1) om ⟨Bn_2,qn_2,bln_2,leftn,A38,q38,(O++[e]),rfl,rfl,rfl,(fun s hs=>by
  rw[St.pureL_push]at hs
  rcases List.mem_append.1 hs with h0|h0
  ·exact hO s h0
  ·rw[List.mem_singleton.1 h0];exact he),(by rw[cnt_push];omega),hbn_2⟩
 refine Jz 12 ?_
 refine Jup4 (Jup4 (JlayS O (Jup3 (Jup3 (Jup3 (Je1 Tryz.results82 ?_))))))
 exact⟨O,_,_,_,_,_,_,rfl,rfl,hO,hcn,hbk⟩
 refine Jz 21 ?_
 refine Jup4 (Jup4 (JlayS O (Jup3 (Jup3 (Jup3 (Je1 Tryz.results82 ?_))))))
 exact⟨O,_,_,_,_,_,_,rfl,rfl,hO,hcn,hbk⟩
theorem body_fn(b:Nat)(m:Mr)(hm:m.ct.Ok)(hnp:m.np≤2):∀(k d:Nat),d+k=3→∀(B:OA) (q:Nat) (bl:List Nat) (left:Nat),left≤12→okB bl q→Does Tryz.prog 82 [pv b,nv d] [box b (cM m [vs B bl q,nv left]) 158,ros encY B bl,all (arsK m.Aa m.ars)] (BodyR b m (d) left)
 |0,d,h,B,q,bl,left,hl,hb=>body_step b m d (fun kk B q bl left hl hb=>stmt_step b m hm hnp kk d om (fun h=>by omega) B q bl left hl hb) B q bl left hl hb
 |k+1,d,h,B,q,bl,left,hl,hb=>body_step b m d (fun kk B q bl left hl hb=>stmt_step b m hm hnp kk d om (fun _=>body_fn b m hm hnp k (d+1) om) B q bl left hl hb) B q bl left hl hb
end Go.Proofs.YtlihklladkagpaaGreatDoor
