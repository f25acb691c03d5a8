/- Merged out of Fm3, Fm4, Fm5 by merge.py. Own text. -/
import Derived.Test.YtihgdnjkofpgiaaGreatDoorUk
set_option linter.unusedVariables false
set_option linter.unusedSimpArgs false
set_option maxHeartbeats 2000000
set_option maxRecDepth 100000
namespace Go.Proofs.YtihgdnjkofpgiaaGreatDoor
open Go.RowKit Go.Flow Go.Mem Go.Sep Go.In
theorem zparX_fn(fb:Nat)(X:FB)(G:List Chunk)(A:Option Addr)(q:Nat)(ps:List PP)(hP:PgX X G A q ps)(c v h:Int)(hbad:v<1∨((cmI X.F c).vers.length:Int)<v∨h<0∨((hnI ps c).length:Int)≤h):
    Does Tryz.prog 17 [pv fb, .int .i64 c, .int .i64 v, .int .i64 h] [all (flk fb X G)] (fun v Γ'=>v= .tuple #[.int .i64 0, .bool false]∧Γ'=[]):=by
 refine Does.enter Tryz.func17 rfl Tryz.ntmps17 rfl (fun w0=>?_)
 refine To.z 10 ?_
 refine To.cQ rfl rfl rfl (Ent.fn rfl rfl ca44) (zfcomp_fn fb X G hP.pg.lax c) (by show owns (flk fb X G)++[]=[];rw[(flk_lax hP.pg.lax).owns];rfl) (ocs (oca 0 rfl) (ocn _)) ?_
 rintro _ _ ⟨rfl,rfl⟩
 refine⟨rfl,?_⟩
 refine To.z 2 ?_
 refine To.cQ rfl rfl rfl (Ent.fn rfl rfl ca15) (zfhand_fn fb X G A q ps hP c) (by show owns (flk fb X G)++[]=[];rw[(flk_lax hP.pg.lax).owns];rfl) (ocs (oca 0 rfl) (ocn _)) ?_
 rintro _ _ ⟨Bn,pn,rfl,rfl⟩
 refine⟨rfl,?_⟩
 refine To.al fun b10=>?_
 refine To.z 9 ?_
 refine To.rdP rfl rfl rfl (Rd.move rfl rfl) (fun g24=>?_) (fun g24=>?_)
 refine To.z 27 ?_
 refine To.del2 (To.del1 (To.del0 (To.end2 (.inl rfl) Tryz.results17 rfl rfl ?_)))
 exact⟨rfl,rfl⟩
 refine To.z 6 ?_
 refine To.rdP rfl rfl rfl (Rd.move rfl rfl) (fun g31=>?_) (fun g31=>?_)
 refine To.z 20 ?_
 refine To.del2 (To.del1 (To.del0 (To.end2 (.inl rfl) Tryz.results17 rfl rfl ?_)))
 exact⟨rfl,rfl⟩
 refine To.z 3 ?_
 refine To.rdP rfl rfl rfl (Rd.move rfl rfl) (fun g35=>?_) (fun g35=>?_)
 refine To.z 16 ?_
 refine To.del2 (To.del1 (To.del0 (To.end2 (.inl rfl) Tryz.results17 rfl rfl ?_)))
 exact⟨rfl,rfl⟩
 refine To.z 7 ?_
 refine To.cp rfl (fun k40=>?_) (fun k40=>?_)
 refine To.z 8 ?_
 refine To.del2 (To.del1 (To.del0 (To.end2 (.inl rfl) Tryz.results17 rfl rfl ?_)))
 exact⟨rfl,rfl⟩
 exact absurd hbad (by omega)
theorem zpar0_fn(c v h:Int):
    Does Tryz.prog 17 [.pointer none, .int .i64 c, .int .i64 v, .int .i64 h] [] (fun v Γ'=>v= .tuple #[.int .i64 0, .bool false]∧Γ'=[]):=by
 refine Does.enter Tryz.func17 rfl Tryz.ntmps17 rfl (fun w0=>?_)
 refine To.z 10 ?_
 refine To.cQ rfl rfl rfl (Ent.fn rfl rfl ca44) (zfcomp0_fn c) rfl (ocn _) ?_
 rintro _ _ ⟨rfl,rfl⟩
 refine⟨rfl,?_⟩
 refine To.z 2 ?_
 refine To.cQ rfl rfl rfl (Ent.fn rfl rfl ca15) (zfhand0_fn c) rfl (ocn _) ?_
 rintro _ _ ⟨rfl,rfl⟩
 refine⟨rfl,?_⟩
 refine To.al fun b10=>?_
 refine To.z 9 ?_
 refine To.rdP rfl rfl rfl (Rd.move rfl rfl) (fun g24=>?_) (fun g24=>?_)
 refine To.z 27 ?_
 refine To.del0 (To.end2 (.inl rfl) Tryz.results17 rfl rfl ?_)
 exact⟨rfl,rfl⟩
 refine To.z 6 ?_
 refine To.rdP rfl rfl rfl (Rd.move rfl rfl) (fun g31=>?_) (fun g31=>?_)
 refine To.z 20 ?_
 refine To.del0 (To.end2 (.inl rfl) Tryz.results17 rfl rfl ?_)
 exact⟨rfl,rfl⟩
 refine To.z 3 ?_
 refine To.rdP rfl rfl rfl (Rd.move rfl rfl) (fun g35=>?_) (fun g35=>?_)
 refine To.z 16 ?_
 refine To.del0 (To.end2 (.inl rfl) Tryz.results17 rfl rfl ?_)
 exact⟨rfl,rfl⟩
 refine To.z 7 ?_
 refine To.cp rfl (fun k40=>?_) (fun k40=>?_)
 refine To.z 8 ?_
 refine To.del0 (To.end2 (.inl rfl) Tryz.results17 rfl rfl ?_)
 exact⟨rfl,rfl⟩
 first|exact absurd c40 (by omega)|exact absurd k40 (by omega)|exact absurd g40 (by omega)
theorem zparK_fn(fb:Nat)(X:FB)(G:List Chunk)(A:Option Addr)(q:Nat)(ps:List PP)(hP:PgX X G A q ps)(hC:X.F.Cap)(k:Nat)(x:Cm)(hx:X.F.comps[k]?=some x)(v h:Nat)(hv1:1≤v)(hv2:v≤x.vers.length)(nm:ByteArray)(hnm:(hnI ps (k:Int))[h]?=some nm)(hvl:x.vers.length≤1000)(hhl:∀y∈x.vers,y.l.length≤1000):
    Does Tryz.prog 17 [pv fb,nv k,nv v,nv h] [all (flk fb X G)] (fun r Γ'=>r= .tuple #[nv ((parV nm (x.vers.take v)).getD 0), .bool (parV nm (x.vers.take v)).isSome]∧Γ'=[]):=by
 have hhn:h<(hnI ps (k:Int)).length:=(List.getElem?_eq_some_iff.1 hnm).1
 have hqn:x.vers.length≤x.qn:=(hC.2 x (mog hx)).1.2
 have htk:(x.vers.take v).length=v:=by rw[List.length_take];omega
 refine Does.enter Tryz.func17 rfl Tryz.ntmps17 rfl (fun w0=>?_)
 refine To.z 10 ?_
 refine To.cQ rfl rfl rfl (Ent.fn rfl rfl ca44) (zfcompK_fn fb X G hP.pg.lax k x hx) (by show owns (flk fb X G)++[]=[];rw[(flk_lax hP.pg.lax).owns];rfl) (ocs (oca 0 rfl) (ocn _)) ?_
 rintro _ _ ⟨rfl,rfl⟩
 refine⟨rfl,?_⟩
 refine To.z 2 ?_
 refine To.cQ rfl rfl rfl (Ent.fn rfl rfl ca15) (zfhand_fn fb X G A q ps hP (k:Int)) (by show owns (flk fb X G)++[]=[];rw[(flk_lax hP.pg.lax).owns];rfl) (ocs (oca 0 rfl) (ocn _)) ?_
 rintro _ _ ⟨Bn,pn,rfl,rfl⟩
 refine⟨rfl,?_⟩
 refine To.al fun b10=>?_
 refine To.z 9 ?_
 refine To.rdP rfl rfl rfl (Rd.move rfl rfl) (fun g24=>?_) (fun g24=>?_)
 exact absurd g24 (by omega)
 refine To.z 6 ?_
 refine To.rdP rfl rfl rfl (Rd.move rfl rfl) (fun g31=>?_) (fun g31=>?_)
 exact absurd g31 (by omega)
 refine To.z 3 ?_
 refine To.rdP rfl rfl rfl (Rd.move rfl rfl) (fun g35=>?_) (fun g35=>?_)
 exact absurd g35 (by omega)
 refine To.z 7 ?_
 refine To.cp rfl (fun k40=>?_) (fun k40=>?_)
 first|exact absurd c40 (by omega)|exact absurd k40 (by omega)|exact absurd g40 (by omega)
 refine To.z 4 ?_
 refine To.one 2 rfl (ros encVs x.An x.vers) rfl (flk_F _ (Fl.comp_k hx _ (Cm.vers_k (k:=eX)))) (To.rosTake v 0 rfl ?_)
 refine To.z 4 ?_
 refine To.r (Rd.as (v':= .slice x.An (x.vers.take v).length x.qn) (by rw[htk]) (Rd.sliceHi (hi:=v) rfl s105 rfl rfl (by omega))) ?_
 refine To.z 5 ?_
 refine To.sub [(0,pv fb),(3,nv h),(11, .slice Bn ((hnI ps (k:Int)).length) pn),(44, .slice x.An ((x.vers.take v).length) x.qn),(45,nv ((x.vers.take v).length)),(46,nv 0)] ⟨rfl,rfl,rfl,rfl,rfl,rfl,trivial⟩ ?_
 refine To.del2 (To.del1 (To.up2 ?_))
 refine To.loop (fun mz ρ Γ=>∃(j:Nat),ρ=[(0,pv fb),(3,nv h),(11, .slice Bn ((hnI ps (k:Int)).length) pn),(44, .slice x.An ((x.vers.take v).length) x.qn),(45,nv ((x.vers.take v).length)),(46,nv j)]∧Γ=[all (flk fb X G),ros encVs x.An (x.vers.take v),rows encZ 9 1 Bn pn (hnI ps (k:Int))]∧mz=(x.vers.take v).length-j∧(j≤(x.vers.take v).length)∧(parV nm (x.vers.take v)=parV nm ((x.vers.take v).drop j))) ((x.vers.take v).length-0) ⟨0,rfl,rfl,rfl,(Nat.zero_le _),rfl⟩ ?_
 rintro mz _ _ ⟨j,rfl,rfl,rfl,hj,hS⟩
 refine To.z 6 ?_
 refine To.cp rfl (fun k47=>?_) (fun k47=>?_)
 obtain⟨y,hy⟩:∃z0,(x.vers.take v)[j]?=some z0:=⟨(x.vers.take v)[j]'(by omega),gge _⟩
 refine To.z 8 ?_
 refine To.al fun b13=>?_
 refine To.z 12 ?_
 have hyv:x.vers[j]?=some y:=by rw[List.getElem?_take,if_pos (by omega)]at hy;exact hy
 have hyl:=hhl y (mog hyv)
 refine To.one 1 rfl (ros encH y.A y.l) rfl (flk_F _ (Fl.comp_k hx _ (Cm.ver_k hyv _ (Vs.l_k (k:=eX))))) ?_
 refine To.sub [(0,pv fb),(3,nv h),(11, .slice Bn ((hnI ps (k:Int)).length) pn),(44, .slice x.An ((x.vers.take v).length) x.qn),(45,nv ((x.vers.take v).length)),(46,nv j),(51, .slice y.A y.l.length y.q),(52,nv y.l.length),(53,nv 0)] ⟨rfl,rfl,rfl,rfl,rfl,rfl,rfl,rfl,rfl,trivial⟩ ?_
 refine To.del1 (To.up2 (To.up2 ?_))
 refine To.loop (fun mz ρ Γ=>∃(k2:Nat),ρ=[(0,pv fb),(3,nv h),(11, .slice Bn ((hnI ps (k:Int)).length) pn),(44, .slice x.An ((x.vers.take v).length) x.qn),(45,nv ((x.vers.take v).length)),(46,nv j),(51, .slice y.A y.l.length y.q),(52,nv y.l.length),(53,nv k2)]∧Γ=[all (flk fb X G),ros encVs x.An (x.vers.take v),ros encH y.A y.l,rows encZ 9 1 Bn pn (hnI ps (k:Int))]∧mz=y.l.length-k2∧(k2≤y.l.length)∧(parV nm (x.vers.take v)=match parH nm (y.l.drop k2)with|some n=>some n|none=>parV nm ((x.vers.take v).drop (j+1)))) (y.l.length-0) ⟨0,rfl,rfl,rfl,(Nat.zero_le _),(by rw[hS,parV_at hy];rfl)⟩ ?_
 rintro mz _ _ ⟨k2,rfl,rfl,rfl,hk,hT⟩
 refine To.z 6 ?_
 refine To.cp rfl (fun k54=>?_) (fun k54=>?_)
 obtain⟨z,hz⟩:∃z0,y.l[k2]?=some z0:=⟨y.l[k2]'(by omega),gge _⟩
 refine To.z 8 ?_
 refine To.al fun b15=>?_
 refine To.z 4 ?_
 refine To.flow [] [⟨0,[],0⟩,⟨2,[],0⟩,⟨3,[],0⟩,⟨1,[],1⟩,⟨4,[],1⟩,⟨5,[],1⟩,⟨6,[],0⟩] mixed (by kernel_rfl) (ocn _) ?_
 refine To.z 6 ?_
 refine Fw.f rfl (Rd.eqlZ rfl rfl rfl) ?_
 refine To.z 2 ?_
 refine To.cp rfl (fun k63=>?_) (fun k63=>?_)
 refine To.z 19 ?_
 refine To.del4 (To.del3 (To.del2 (To.del1 (To.del0 (To.end2 (.inl rfl) Tryz.results17 rfl rfl ?_)))))
 have hr:parV nm (x.vers.take v)=some z.ps.length:=by rw[hT,parH_hit hz k63]
 rw[hr];exact⟨rfl,rfl⟩
 refine To.z 8 ?_
 refine To.sub [(0,pv fb),(3,nv h),(11, .slice Bn ((hnI ps (k:Int)).length) pn),(44, .slice x.An ((x.vers.take v).length) x.qn),(45,nv ((x.vers.take v).length)),(46,nv j),(51, .slice y.A y.l.length y.q),(52,nv y.l.length),(53,nv ((k2+1)))] ⟨rfl,rfl,rfl,rfl,rfl,rfl,rfl,rfl,rfl,trivial⟩ ?_
 refine To.del0 ?_
 refine To.ag (y.l.length-(k2+1)) (by omega) ⟨k2+1,rfl,rfl,rfl,(by omega),(by rw[hT,parH_miss hz k63])⟩
 refine To.z 11 ?_
 refine To.sub [(0,pv fb),(3,nv h),(11, .slice Bn ((hnI ps (k:Int)).length) pn),(44, .slice x.An ((x.vers.take v).length) x.qn),(45,nv ((x.vers.take v).length)),(46,nv ((j+1)))] ⟨rfl,rfl,rfl,rfl,rfl,rfl,trivial⟩ ?_
 refine To.del2 ?_
 refine To.ag ((x.vers.take v).length-(j+1)) (by omega) ⟨j+1,rfl,rfl,rfl,(by omega),(by rw[hT,List.drop_eq_nil_of_le (by omega)];rfl)⟩
 refine To.z 12 ?_
 refine To.del2 (To.del1 (To.del0 (To.end2 (.inl rfl) Tryz.results17 rfl rfl ?_)))
 have hr:parV nm (x.vers.take v)=none:=by rw[hS,List.drop_eq_nil_of_le (by omega)];rfl
 rw[hr];exact⟨rfl,rfl⟩
theorem zslotX_fn(fb:Nat)(X:FB)(G:List Chunk)(hG:Lax G)(c p:Int)(hbad:p<0∨((cmI X.F c).vars.length:Int)≤p):
    Does Tryz.prog 12 [pv fb, .int .i64 c, .int .i64 p] [all (flk fb X G)] (fun v Γ'=>v= .tuple #[.int .i64 0, .bool false, .bool false]∧Γ'=[]):=by
 refine Does.enter Tryz.func12 rfl Tryz.ntmps12 rfl (fun w0=>?_)
 refine To.z 11 ?_
 refine To.cQ rfl rfl rfl (Ent.fn rfl rfl ca44) (zfcomp_fn fb X G hG c) (by show owns (flk fb X G)++[]=[];rw[(flk_lax hG).owns];rfl) (ocs (oca 0 rfl) (ocn _)) ?_
 rintro _ _ ⟨rfl,rfl⟩
 refine⟨rfl,?_⟩
 refine To.r (Rd.fieldV (vs:=[.string ((cmI X.F c).name), .slice ((cmI X.F c).Av) ((cmI X.F c).vars.length) ((cmI X.F c).qv), .slice ((cmI X.F c).An) ((cmI X.F c).vers.length) ((cmI X.F c).qn)]) rfl Tryz.underlying107 rfl Tryz.underlying88 rfl rfl rfl) ?_
 refine To.z 8 ?_
 refine To.rdP rfl rfl rfl (Rd.move rfl rfl) (fun g18=>?_) (fun g18=>?_)
 refine To.z 17 ?_
 refine To.del0 (To.end3 (.inl rfl) Tryz.results12 rfl rfl rfl ?_)
 exact⟨rfl,rfl⟩
 refine To.z 7 ?_
 refine To.cp rfl (fun k23=>?_) (fun k23=>?_)
 refine To.z 9 ?_
 refine To.del0 (To.end3 (.inl rfl) Tryz.results12 rfl rfl rfl ?_)
 exact⟨rfl,rfl⟩
 exact absurd hbad (by omega)
theorem zslot0_fn(c p:Int):
    Does Tryz.prog 12 [.pointer none, .int .i64 c, .int .i64 p] [] (fun v Γ'=>v= .tuple #[.int .i64 0, .bool false, .bool false]∧Γ'=[]):=by
 refine Does.enter Tryz.func12 rfl Tryz.ntmps12 rfl (fun w0=>?_)
 refine To.z 11 ?_
 refine To.cQ rfl rfl rfl (Ent.fn rfl rfl ca44) (zfcomp0_fn c) rfl (ocn _) ?_
 rintro _ _ ⟨rfl,rfl⟩
 refine⟨rfl,?_⟩
 refine To.r (Rd.fieldV (vs:=[.string nE, .slice none 0 0, .slice none 0 0]) rfl Tryz.underlying107 rfl Tryz.underlying88 rfl rfl rfl) ?_
 refine To.z 8 ?_
 refine To.rdP rfl rfl rfl (Rd.move rfl rfl) (fun g18=>?_) (fun g18=>?_)
 refine To.z 17 ?_
 refine To.end3 (.inl rfl) Tryz.results12 rfl rfl rfl ?_
 exact⟨rfl,rfl⟩
 refine To.z 7 ?_
 refine To.cp rfl (fun k23=>?_) (fun k23=>?_)
 refine To.z 9 ?_
 refine To.end3 (.inl rfl) Tryz.results12 rfl rfl rfl ?_
 exact⟨rfl,rfl⟩
 first|exact absurd c23 (by omega)|exact absurd k23 (by omega)|exact absurd g23 (by omega)
theorem zslotK_fn(fb:Nat)(X:FB)(G:List Chunk)(hG:Lax G)(hC:X.F.Cap)(k:Nat)(x:Cm)(hx:X.F.comps[k]?=some x)(p:Nat)(z:Vr)(hz:x.vars[p]?=some z)(hvl:x.vars.length≤1000):
    Does Tryz.prog 12 [pv fb,nv k,nv p] [all (flk fb X G)] (fun r Γ'=>r= .tuple #[nv (vkN (decide (z.ty=3)) (x.vars.take p)), .bool (decide (z.ty=3)), .bool true]∧Γ'=[]):=by
 have hpl:p<x.vars.length:=(List.getElem?_eq_some_iff.1 hz).1
 have hqv:x.vars.length≤x.qv:=(hC.2 x (mog hx)).1.1
 have htk:(x.vars.take p).length=p:=by rw[List.length_take];omega
 refine Does.enter Tryz.func12 rfl Tryz.ntmps12 rfl (fun w0=>?_)
 refine To.z 11 ?_
 refine To.cQ rfl rfl rfl (Ent.fn rfl rfl ca44) (zfcompK_fn fb X G hG k x hx) (by show owns (flk fb X G)++[]=[];rw[(flk_lax hG).owns];rfl) (ocs (oca 0 rfl) (ocn _)) ?_
 rintro _ _ ⟨rfl,rfl⟩
 refine⟨rfl,?_⟩
 refine To.r (Rd.fieldV (vs:=[.string x.name, .slice x.Av x.vars.length x.qv, .slice x.An x.vers.length x.qn]) rfl Tryz.underlying107 rfl Tryz.underlying88 rfl rfl rfl) ?_
 refine To.z 8 ?_
 refine To.rdP rfl rfl rfl (Rd.move rfl rfl) (fun g18=>?_) (fun g18=>?_)
 first|exact absurd c18 (by omega)|exact absurd k18 (by omega)|exact absurd g18 (by omega)
 refine To.z 7 ?_
 refine To.cp rfl (fun k23=>?_) (fun k23=>?_)
 first|exact absurd c23 (by omega)|exact absurd k23 (by omega)|exact absurd g23 (by omega)
 refine To.z 3 ?_
 refine To.one 0 rfl (ros encVx x.Av x.vars) rfl (flk_F _ (Fl.comp_k hx _ (Cm.vars_k (k:=eX)))) ?_
 refine To.z 6 ?_
 refine To.r (Rd.as (v':= .bool (decide (z.ty=3))) (by rw[eqI3z]) (Rd.eql rfl rfl rfl)) ?_
 refine To.z 5 ?_
 refine To.rosTake p 0 rfl ?_
 refine To.z 3 ?_
 refine To.r (Rd.as (v':= .slice x.Av (x.vars.take p).length x.qv) (by rw[htk]) (Rd.sliceHi (hi:=p) rfl s88 rfl rfl (by omega))) ?_
 refine To.z 5 ?_
 refine To.sub [(6,nv 0),(7, .bool (decide (z.ty=3))),(32, .slice x.Av ((x.vars.take p).length) x.qv),(33,nv ((x.vars.take p).length)),(34,nv 0)] ⟨rfl,rfl,rfl,rfl,rfl,trivial⟩ ?_
 refine To.del1 (To.up1 ?_)
 refine To.loop (fun mz ρ Γ=>∃(n:Nat) (j:Nat),ρ=[(6,nv n),(7, .bool (decide (z.ty=3))),(32, .slice x.Av ((x.vars.take p).length) x.qv),(33,nv ((x.vars.take p).length)),(34,nv j)]∧Γ=[all (flk fb X G),ros encVx x.Av (x.vars.take p)]∧mz=(x.vars.take p).length-j∧(j≤(x.vars.take p).length)∧(n≤j)∧(vkN (decide (z.ty=3)) (x.vars.take p)=n+vkN (decide (z.ty=3)) ((x.vars.take p).drop j))) ((x.vars.take p).length-0) ⟨0,0,rfl,rfl,rfl,(Nat.zero_le _),(Nat.le_refl _),(by rw[List.drop_zero];omega)⟩ ?_
 rintro mz _ _ ⟨n,j,rfl,rfl,rfl,hj,hn,hS⟩
 refine To.z 6 ?_
 refine To.cp rfl (fun k35=>?_) (fun k35=>?_)
 obtain⟨y,hy⟩:∃z0,(x.vars.take p)[j]?=some z0:=⟨(x.vars.take p)[j]'(by omega),gge _⟩
 refine To.z 8 ?_
 refine To.al fun b11=>?_
 refine To.z 7 ?_
 refine To.r (Rd.as (v':= .bool (decide (y.ty=3))) (by rw[eqI3z]) (Rd.eql rfl rfl rfl)) ?_
 refine To.m ?_
 refine To.r (Rd.eqlB rfl Tryz.underlying4 rfl rfl) ?_
 refine To.n (To.t ?_)
 refine To.cond rfl (fun k42=>?_) (fun k42=>?_)
 have h42:decide (y.ty=3)=(decide (z.ty=3)):=by simpa using k42
 refine To.z 12 ?_
 refine To.sub [(6,nv ((n+1))),(7, .bool (decide (z.ty=3))),(32, .slice x.Av ((x.vars.take p).length) x.qv),(33,nv ((x.vars.take p).length)),(34,nv ((j+1)))] ⟨rfl,rfl,rfl,rfl,rfl,trivial⟩ ?_
 refine To.del0 ?_
 refine To.ag ((x.vars.take p).length-(j+1)) (by omega) ⟨n+1,j+1,rfl,rfl,rfl,(by omega),(by omega),(by rw[hS,vkN_hit hy h42];omega)⟩
 have h42:¬decide (y.ty=3)=(decide (z.ty=3)):=by simpa using k42
 refine To.z 8 ?_
 refine To.sub [(6,nv n),(7, .bool (decide (z.ty=3))),(32, .slice x.Av ((x.vars.take p).length) x.qv),(33,nv ((x.vars.take p).length)),(34,nv ((j+1)))] ⟨rfl,rfl,rfl,rfl,rfl,trivial⟩ ?_
 refine To.del0 ?_
 refine To.ag ((x.vars.take p).length-(j+1)) (by omega) ⟨n,j+1,rfl,rfl,rfl,(by omega),(by omega),(by rw[hS,vkN_miss hy h42])⟩
 refine To.z 15 ?_
 refine To.del1 (To.del0 (To.end3 (.inl rfl) Tryz.results12 rfl rfl rfl ?_))
 have hr:vkN (decide (z.ty=3)) (x.vars.take p)=n:=by rw[hS,List.drop_eq_nil_of_le (by omega)];rfl
 rw[hr];exact⟨rfl,rfl⟩
theorem zlatX_fn(fb:Nat)(X:FB)(G:List Chunk)(hG:Lax G)(a b:Int)(hbad:a<0∨(X.F.comps.length:Int)≤a∨b<0∨(X.F.comps.length:Int)≤b):
    Does Tryz.prog 24 [pv fb, .int .i64 a, .int .i64 b] [all (flk fb X G)] (fun v Γ'=>v= .int .i64 0∧Γ'=[]):=by
 refine Does.enter Tryz.func24 rfl Tryz.ntmps24 rfl (fun w0=>?_)
 refine To.z 8 ?_
 refine To.cQ rfl rfl rfl (Ent.fn rfl rfl ca28) (zfcomps_fn fb X G hG) (by show owns (flk fb X G)++[]=[];rw[(flk_lax hG).owns];rfl) (ocs (oca 0 rfl) (ocn _)) ?_
 rintro _ _ ⟨rfl,rfl⟩
 refine⟨rfl,?_⟩
 refine To.z 8 ?_
 refine To.rdP rfl rfl rfl (Rd.move rfl rfl) (fun g14=>?_) (fun g14=>?_)
 refine To.z 23 ?_
 refine To.del0 (To.end1 (.inl rfl) Tryz.results24 rfl ?_)
 exact⟨rfl,rfl⟩
 refine To.z 4 ?_
 refine To.rdP rfl rfl rfl (Rd.move rfl rfl) (fun g19=>?_) (fun g19=>?_)
 refine To.z 18 ?_
 refine To.del0 (To.end1 (.inl rfl) Tryz.results24 rfl ?_)
 exact⟨rfl,rfl⟩
 refine To.z 3 ?_
 refine To.rdP rfl rfl rfl (Rd.move rfl rfl) (fun g23=>?_) (fun g23=>?_)
 refine To.z 14 ?_
 refine To.del0 (To.end1 (.inl rfl) Tryz.results24 rfl ?_)
 exact⟨rfl,rfl⟩
 refine To.z 6 ?_
 refine To.cp rfl (fun k27=>?_) (fun k27=>?_)
 refine To.z 7 ?_
 refine To.del0 (To.end1 (.inl rfl) Tryz.results24 rfl ?_)
 exact⟨rfl,rfl⟩
 exact absurd hbad (by omega)
theorem zlat0_fn(a b:Int):
    Does Tryz.prog 24 [.pointer none, .int .i64 a, .int .i64 b] [] (fun v Γ'=>v= .int .i64 0∧Γ'=[]):=by
 refine Does.enter Tryz.func24 rfl Tryz.ntmps24 rfl (fun w0=>?_)
 refine To.z 8 ?_
 refine To.cQ rfl rfl rfl (Ent.fn rfl rfl ca28) (zfcomps0_fn) rfl (ocn _) ?_
 rintro _ _ ⟨rfl,rfl⟩
 refine⟨rfl,?_⟩
 refine To.z 8 ?_
 refine To.rdP rfl rfl rfl (Rd.move rfl rfl) (fun g14=>?_) (fun g14=>?_)
 refine To.z 23 ?_
 refine To.end1 (.inl rfl) Tryz.results24 rfl ?_
 exact⟨rfl,rfl⟩
 refine To.z 4 ?_
 refine To.rdP rfl rfl rfl (Rd.move rfl rfl) (fun g19=>?_) (fun g19=>?_)
 refine To.z 18 ?_
 refine To.end1 (.inl rfl) Tryz.results24 rfl ?_
 exact⟨rfl,rfl⟩
 refine To.z 3 ?_
 refine To.rdP rfl rfl rfl (Rd.move rfl rfl) (fun g23=>?_) (fun g23=>?_)
 refine To.z 14 ?_
 refine To.end1 (.inl rfl) Tryz.results24 rfl ?_
 exact⟨rfl,rfl⟩
 refine To.z 6 ?_
 refine To.cp rfl (fun k27=>?_) (fun k27=>?_)
 refine To.z 7 ?_
 refine To.end1 (.inl rfl) Tryz.results24 rfl ?_
 exact⟨rfl,rfl⟩
 first|exact absurd c27 (by omega)|exact absurd k27 (by omega)|exact absurd g27 (by omega)
theorem zlatK_fn(fb:Nat)(X:FB)(G:List Chunk)(hG:Lax G)(a b:Int)(ha:0≤a∧a<X.F.comps.length)(hb:0≤b∧b<X.F.comps.length)(hll:X.F.links.length≤1000):
    Does Tryz.prog 24 [pv fb, .int .i64 a, .int .i64 b] [all (flk fb X G)] (fun v Γ'=>v= .int .i64 (latL (cmI X.F a).name (cmI X.F b).name X.F.links)∧Γ'=[]):=by
 refine Does.enter Tryz.func24 rfl Tryz.ntmps24 rfl (fun w0=>?_)
 refine To.z 8 ?_
 refine To.cQ rfl rfl rfl (Ent.fn rfl rfl ca28) (zfcomps_fn fb X G hG) (by show owns (flk fb X G)++[]=[];rw[(flk_lax hG).owns];rfl) (ocs (oca 0 rfl) (ocn _)) ?_
 rintro _ _ ⟨rfl,rfl⟩
 refine⟨rfl,?_⟩
 refine To.z 8 ?_
 refine To.rdP rfl rfl rfl (Rd.move rfl rfl) (fun g14=>?_) (fun g14=>?_)
 first|exact absurd c14 (by omega)|exact absurd k14 (by omega)|exact absurd g14 (by omega)
 refine To.z 4 ?_
 refine To.rdP rfl rfl rfl (Rd.move rfl rfl) (fun g19=>?_) (fun g19=>?_)
 first|exact absurd c19 (by omega)|exact absurd k19 (by omega)|exact absurd g19 (by omega)
 refine To.z 3 ?_
 refine To.rdP rfl rfl rfl (Rd.move rfl rfl) (fun g23=>?_) (fun g23=>?_)
 first|exact absurd c23 (by omega)|exact absurd k23 (by omega)|exact absurd g23 (by omega)
 refine To.z 6 ?_
 refine To.cp rfl (fun k27=>?_) (fun k27=>?_)
 first|exact absurd c27 (by omega)|exact absurd k27 (by omega)|exact absurd g27 (by omega)
 refine To.z 4 ?_
 refine To.one 0 rfl (ro (some ⟨fb,0,none⟩) [.string X.F.name, .slice X.F.Af X.F.flags.length X.F.qf, .slice X.F.Al X.F.links.length X.F.ql, .slice X.F.Ac X.F.comps.length X.F.qc, .string X.src, .int .u8 ((X.id 0:Nat):Int), .int .u8 ((X.id 1:Nat):Int), .int .u8 ((X.id 2:Nat):Int), .int .u8 ((X.id 3:Nat):Int), .int .u8 ((X.id 4:Nat):Int), .int .u8 ((X.id 5:Nat):Int), .int .u8 ((X.id 6:Nat):Int), .int .u8 ((X.id 7:Nat):Int), .int .u8 ((X.id 8:Nat):Int), .int .u8 ((X.id 9:Nat):Int), .int .u8 ((X.id 10:Nat):Int), .int .u8 ((X.id 11:Nat):Int), .int .u8 ((X.id 12:Nat):Int), .int .u8 ((X.id 13:Nat):Int), .int .u8 ((X.id 14:Nat):Int), .int .u8 ((X.id 15:Nat):Int), .int .u8 ((X.id 16:Nat):Int), .int .u8 ((X.id 17:Nat):Int), .int .u8 ((X.id 18:Nat):Int), .int .u8 ((X.id 19:Nat):Int), .int .u8 ((X.id 20:Nat):Int), .int .u8 ((X.id 21:Nat):Int), .int .u8 ((X.id 22:Nat):Int), .int .u8 ((X.id 23:Nat):Int), .int .u8 ((X.id 24:Nat):Int), .int .u8 ((X.id 25:Nat):Int), .int .u8 ((X.id 26:Nat):Int), .int .u8 ((X.id 27:Nat):Int), .int .u8 ((X.id 28:Nat):Int), .int .u8 ((X.id 29:Nat):Int), .int .u8 ((X.id 30:Nat):Int), .int .u8 ((X.id 31:Nat):Int), .pointer (some ⟨X.pb,0,none⟩)]) rfl (flk_ro) (To.one 1 rfl (ros encLk X.F.Al X.F.links) rfl (flk_F _ (Fl.links_k (k:=eX))) ?_)
 refine To.z 5 ?_
 refine To.r (Rd.ld (i:=1) rfl rfl c71 rfl (ro_gives (A:=some ⟨fb,0,none⟩) (o:=2) (k:=1) rfl)) ?_
 refine To.z 5 ?_
 refine To.sub [(0,pv fb),(1, .int .i64 a),(2, .int .i64 b),(32, .slice X.F.Al X.F.links.length X.F.ql),(33,nv X.F.links.length),(34,nv 0)] ⟨rfl,rfl,rfl,rfl,rfl,rfl,trivial⟩ ?_
 refine To.del1 (To.up1 ?_)
 refine To.loop (fun mz ρ Γ=>∃(j:Nat),ρ=[(0,pv fb),(1, .int .i64 a),(2, .int .i64 b),(32, .slice X.F.Al X.F.links.length X.F.ql),(33,nv X.F.links.length),(34,nv j)]∧Γ=[all (flk fb X G),ros encLk X.F.Al X.F.links]∧mz=X.F.links.length-j∧(j≤X.F.links.length)∧(latL (cmI X.F a).name (cmI X.F b).name X.F.links=latL (cmI X.F a).name (cmI X.F b).name (X.F.links.drop j))) (X.F.links.length-0) ⟨0,rfl,rfl,rfl,(Nat.zero_le _),rfl⟩ ?_
 rintro mz _ _ ⟨j,rfl,rfl,rfl,hj,hS⟩
 refine To.z 6 ?_
 refine To.cp rfl (fun k35=>?_) (fun k35=>?_)
 obtain⟨y,hy⟩:∃z0,X.F.links[j]?=some z0:=⟨X.F.links[j]'(by omega),gge _⟩
 refine To.z 8 ?_
 refine To.al fun b9=>?_
 refine To.z 4 ?_
 refine To.flow [] [⟨0,[],0⟩,⟨2,[],0⟩,⟨3,[],0⟩,⟨4,[],3⟩,⟨1,[],1⟩,⟨5,[],0⟩,⟨6,[],0⟩,⟨7,[],0⟩,⟨9,[],0⟩,⟨10,[],0⟩,⟨11,[],3⟩,⟨8,[],1⟩,⟨12,[],0⟩,⟨13,[],0⟩] mixed (by kernel_rfl) (ocn _) ?_
 refine To.z 3 ?_
 refine Fw.callQ rfl rfl rfl rfl (Ent.fn rfl rfl ca34) ((zfname_fn fb X G hG a).mono fun _ _ h=>h.1) (by show owns (flk fb X G)++[]=[];rw[(flk_lax hG).owns];rfl) (ocs (oca 1 rfl) (ocn _)) ?_
 refine To.z 1 ?_
 refine Fw.f rfl (Rd.eqlZ rfl rfl rfl) ?_
 refine Fw.rdP rfl rfl rfl rfl (Rd.move rfl rfl) (fun g44=>?_) (fun g44=>?_)
 refine To.z 3 ?_
 refine Fw.callQ rfl rfl rfl rfl (Ent.fn rfl rfl ca34) ((zfname_fn fb X G hG b).mono fun _ _ h=>h.1) (by show owns (flk fb X G)++[]=[];rw[(flk_lax hG).owns];rfl) (ocs (oca 1 rfl) (ocn _)) ?_
 refine To.z 1 ?_
 refine Fw.f rfl (Rd.eqlZ rfl rfl rfl) ?_
 refine To.z 3 ?_
 refine To.cp rfl (fun k51=>?_) (fun k51=>?_)
 refine To.z 13 ?_
 refine To.del2 (To.del1 (To.del0 (To.end1 (.inl rfl) Tryz.results24 rfl ?_)))
 have hr:latL (cmI X.F a).name (cmI X.F b).name X.F.links=y.lat:=by rw[hS];exact latL_hit hy (by simp_all) (by simp_all)
 rw[hr];exact⟨rfl,rfl⟩
 refine To.z 8 ?_
 refine To.sub [(0,pv fb),(1, .int .i64 a),(2, .int .i64 b),(32, .slice X.F.Al X.F.links.length X.F.ql),(33,nv X.F.links.length),(34,nv ((j+1)))] ⟨rfl,rfl,rfl,rfl,rfl,rfl,trivial⟩ ?_
 refine To.del0 ?_
 refine To.ag (X.F.links.length-(j+1)) (by omega) ⟨j+1,rfl,rfl,rfl,(by omega),(by rw[hS,latL_miss hy (fun h=>by simp_all)])⟩
 refine To.z 18 ?_
 refine To.sub [(0,pv fb),(1, .int .i64 a),(2, .int .i64 b),(32, .slice X.F.Al X.F.links.length X.F.ql),(33,nv X.F.links.length),(34,nv ((j+1)))] ⟨rfl,rfl,rfl,rfl,rfl,rfl,trivial⟩ ?_
 refine To.del0 ?_
 refine To.ag (X.F.links.length-(j+1)) (by omega) ⟨j+1,rfl,rfl,rfl,(by omega),(by rw[hS,latL_miss hy (fun h=>by simp_all)])⟩
 refine To.z 11 ?_
 refine To.del1 (To.del0 (To.end1 (.inl rfl) Tryz.results24 rfl ?_))
 have hr:latL (cmI X.F a).name (cmI X.F b).name X.F.links=1:=by rw[hS,List.drop_eq_nil_of_le (by omega)];rfl
 rw[hr];exact⟨rfl,rfl⟩
def parHp(s:ByteArray):List PH→Option Nat
 |[]=>none
 |h::r=>if h.name=s then some h.ps.length else parHp s r
def parVp(s:ByteArray):List (List PH)→Option Nat
 |[]=>none
 |v::r=>match parHp s v with|some n=>some n|none=>parVp s r
theorem parH_pure(s:ByteArray):∀l:List Hd,parH s l=parHp s (l.map Hd.pure)
 |[]=>rfl
 | h::r=>by
   show(if h.name=s then some h.ps.length else parH s r)=(if h.name=s then some h.ps.length else parHp s (r.map Hd.pure))
   rw[parH_pure s r]
theorem parV_pure(s:ByteArray):∀l:List Vs,parV s l=parVp s (l.map Vs.pure)
 |[]=>rfl
 | v::r=>by
   show(match parH s v.l with|some n=>some n|none=>parV s r)=(match parHp s (v.l.map Hd.pure)with|some n=>some n|none=>parVp s (r.map Vs.pure))
   rw[parV_pure s r,parH_pure]
def PcZ:PC:=⟨nE,[],[]⟩
def pcI(F:PF)(c:Int):PC:=(atI F.comps c).getD PcZ
theorem cmI_pure(F:Fl)(c:Int):(cmI F c).pure=pcI F.pure c:=by
 rcases atI_cases F.comps c with h|⟨k,x,rfl,h⟩
 ·rw[cmI_none h];unfold pcI;rw[atI_none (by show c<0∨((F.comps.map Cm.pure).length:Int)≤c;rw[List.length_map];exact h)];rfl
 ·rw[cmI_at h];unfold pcI;rw[atI_nat,show F.pure.comps[k]?=some x.pure by show(F.comps.map Cm.pure)[k]?=_;rw[List.getElem?_map,h];rfl];rfl
theorem cmI_name(F:Fl)(c:Int):(cmI F c).name=(pcI F.pure c).name:=by rw[←cmI_pure];rfl
theorem cmI_vars(F:Fl)(c:Int):(cmI F c).vars=(pcI F.pure c).vars:=by rw[←cmI_pure];rfl
theorem cmI_vers(F:Fl)(c:Int):(cmI F c).vers.map Vs.pure=(pcI F.pure c).vers:=by rw[←cmI_pure];rfl
def parP(F:PF)(ps:List PP)(c v h:Int):Option Nat:=
 if v<1∨((pcI F c).vers.length:Int)<v then none else match atI (hnI ps c) h with
  |some s=>parVp s ((pcI F c).vers.take v.toNat)
  |none=>none
def slotP(F:PF)(c p:Int):Option (Nat×Bool):=match atI (pcI F c).vars p with
 |some x=>some (vkN (decide (x.ty=3)) ((pcI F c).vars.take p.toNat),decide (x.ty=3))
 |none=>none
def latP(F:PF)(a b:Int):Int:=if a<0∨(F.comps.length:Int)≤a∨b<0∨(F.comps.length:Int)≤b then 0 else latL (pcI F a).name (pcI F b).name F.links
structure PFB(F:PF):Prop where
 links:F.links.length≤1000
 comps:∀c∈F.comps,c.vars.length≤1000∧c.vers.length≤1000∧∀v∈c.vers,v.length≤1000
theorem PFB.at_{F:Fl}(h:PFB F.pure){k:Nat}{x:Cm}(hx:F.comps[k]?=some x):x.vars.length≤1000∧x.vers.length≤1000∧∀y∈x.vers,y.l.length≤1000:=by
 obtain⟨h1,h2,h3⟩:=h.comps x.pure (List.mem_map.2 ⟨x,mog hx,rfl⟩)
 refine⟨h1,by have h4:(x.vers.map Vs.pure).length≤1000:=h2;rwa[List.length_map]at h4,fun y hy=>?_⟩
 have h4:(y.l.map Hd.pure).length≤1000:=h3 y.pure (List.mem_map.2 ⟨y,hy,rfl⟩)
 rwa[List.length_map]at h4
theorem zpar_fn(fb:Nat)(X:FB)(G:List Chunk)(A:Option Addr)(q:Nat)(ps:List PP)(hP:PgX X G A q ps)(hC:X.F.Cap)(hB:PFB X.F.pure)(c v h:Int):Does Tryz.prog 17 [pv fb, .int .i64 c, .int .i64 v, .int .i64 h] [all (flk fb X G)] (fun r Γ'=>r= .tuple #[nv ((parP X.F.pure ps c v h).getD 0), .bool (parP X.F.pure ps c v h).isSome]∧Γ'=[]):=by
 have hvl:(cmI X.F c).vers.length=(pcI X.F.pure c).vers.length:=by rw[←cmI_vers,List.length_map]
 by_cases hv:v<1∨((pcI X.F.pure c).vers.length:Int)<v
 · rw[show parP X.F.pure ps c v h=none by unfold parP;rw[if_pos hv]]
   exact zparX_fn fb X G A q ps hP c v h (by omega)
 rcases atI_cases (hnI ps c) h with hh|⟨m,nm,rfl,hm⟩
 · rw[show parP X.F.pure ps c v h=none by unfold parP;rw[if_neg hv,atI_none hh]]
   exact zparX_fn fb X G A q ps hP c v h (by omega)
 rcases atI_cases X.F.comps c with hc|⟨k,x,rfl,hx⟩
 · rw[←hvl,cmI_none hc]at hv
   exact(hv (by show v<1∨((0:Nat):Int)<v;omega)).elim
 · obtain⟨n,rfl⟩:∃n:Nat,v=(n:Int):=⟨v.toNat,by omega⟩
   rw[cmI_at hx]at hvl
   obtain⟨b1,b2,b3⟩:=hB.at_ hx
   have e:parP X.F.pure ps (k:Int) (n:Int) (m:Int)=parV nm (x.vers.take n):=by
    unfold parP
    rw[if_neg hv,atI_nat,hm,parV_pure,List.map_take,←cmI_vers,cmI_at hx];rfl
   rw[e]
   exact zparK_fn fb X G A q ps hP hC k x hx n m (by omega) (by omega) nm hm b2 b3
theorem zslot_fn(fb:Nat)(X:FB)(G:List Chunk)(hG:Lax G)(hC:X.F.Cap)(hB:PFB X.F.pure)(c p:Int):Does Tryz.prog 12 [pv fb, .int .i64 c, .int .i64 p] [all (flk fb X G)] (fun r Γ'=>r= .tuple #[nv (((slotP X.F.pure c p).map Prod.fst).getD 0), .bool (((slotP X.F.pure c p).map Prod.snd).getD false), .bool (slotP X.F.pure c p).isSome]∧Γ'=[]):=by
 rcases atI_cases (cmI X.F c).vars p with hp|⟨n,z,rfl,hz⟩
 · rw[show slotP X.F.pure c p=none by unfold slotP;rw[←cmI_vars,atI_none hp]]
   exact zslotX_fn fb X G hG c p hp
 rcases atI_cases X.F.comps c with hc|⟨k,x,rfl,hx⟩
 ·rw[cmI_none hc]at hz;cases hz
 · have e:slotP X.F.pure (k:Int) (n:Int)=some (vkN (decide (z.ty=3)) (x.vars.take n),decide (z.ty=3)):=by
     unfold slotP
     rw[←cmI_vars,atI_nat,hz,cmI_at hx];rfl
   rw[cmI_at hx]at hz
   rw[e]
   exact zslotK_fn fb X G hG hC k x hx n z hz (hB.at_ hx).1
theorem zlat_fn(fb:Nat)(X:FB)(G:List Chunk)(hG:Lax G)(hB:PFB X.F.pure)(a b:Int):Does Tryz.prog 24 [pv fb, .int .i64 a, .int .i64 b] [all (flk fb X G)] (fun r Γ'=>r= .int .i64 (latP X.F.pure a b)∧Γ'=[]):=by
 have hl:X.F.pure.comps.length=X.F.comps.length:=List.length_map ..
 by_cases h:a<0∨(X.F.comps.length:Int)≤a∨b<0∨(X.F.comps.length:Int)≤b
 · rw[show latP X.F.pure a b=0 by unfold latP;rw[if_pos (by omega)]]
   exact zlatX_fn fb X G hG a b h
 · rw[show latP X.F.pure a b=latL (cmI X.F a).name (cmI X.F b).name X.F.links by unfold latP;rw[if_neg (by omega),cmI_name,cmI_name];rfl]
   exact zlatK_fn fb X G hG a b (by omega) (by omega) hB.links
end Go.Proofs.YtihgdnjkofpgiaaGreatDoor
