/- Merged out of Cp0, Cp1 by merge.py. Own text. -/
import Derived.Test.YtihgdnjkofpgiaaGreatDoorQb
set_option linter.unusedVariables false
set_option linter.unusedSimpArgs false
set_option maxHeartbeats 2000000
set_option maxRecDepth 100000
namespace Go.Proofs.YtihgdnjkofpgiaaGreatDoor
open Go.RowKit Go.Flow Go.Mem Go.Sep Go.In
section
variable{α β:Type}{enc:α→List Value}{kf:α→List Chunk}{pr:α→β}{cp:α→Prop}
def krow(enc:α→List Value)(kf:α→List Chunk)(A:Option Addr)(l:List α):List Chunk:=ros enc A l::l.flatMap kf
def EachR(enc:α→List Value)(kf:α→List Chunk)(pr:α→β)(cp:α→Prop)(l:List α):Value→List Chunk→Prop:=fun v Γ'=>∃(A':Option Addr) (q':Nat) (l':List α),v= .slice A' l'.length q'∧Γ'=[all (krow enc kf A' l')]∧l'.map pr=l.map pr∧(∀y∈l',cp y)∧l'.length≤q'
def OneR(enc:α→List Value)(kf:α→List Chunk)(pr:α→β)(cp:α→Prop)(x:α):Value→List Chunk→Prop:=fun v Γ'=>∃y,v= .agg (enc y).toArray∧Γ'=[all (kf y)]∧pr y=pr x∧cp y
theorem krow_lax(h:∀x,Lax (kf x))(A:Option Addr)(l:List α):Lax (krow enc kf A l):=Lax.cons rfl (Lax.flat fun x _=>h x)
theorem krow_mem{A:Option Addr}{l:List α}{k:Nat}{x:α}(h:l[k]?=some x):∀c∈kf x,c∈krow enc kf A l:=fun _ hc=>List.mem_cons_of_mem _ (List.mem_flatMap.2 ⟨x,mog h,hc⟩)
theorem rep_get{O:List α}{n k:Nat}{z:α}(h:O.length=k)(hk:k<n):(O++List.replicate (n-k) z)[k]?=some z:=by
 rw[List.getElem?_append_right (by omega),h,Nat.sub_self,List.getElem?_replicate,if_pos (by omega)]
theorem rep_set{O:List α}{n k:Nat}{z e:α}(h:O.length=k)(hk:k<n):(O++List.replicate (n-k) z).set k e=(O++[e])++List.replicate (n-(k+1)) z:=by
 rw[List.set_append_right _ _ (by omega),h,Nat.sub_self,show n-k=(n-(k+1))+1 by omega,List.replicate_succ,List.set_cons_zero,List.append_assoc];rfl
theorem rep_len{O:List α}{n k:Nat}{z:α}(h:O.length=k)(hk:k≤n):(O++List.replicate (n-k) z).length=n:=by
 rw[lap,List.length_replicate];omega
end
theorem Mk.appendRo{P:Program}{o:Oper}{ρ:Slots}{Γ:List Chunk}{x y:Operand}{α:Type}{enc:α→List Value}{size:Nat}(E:Enc enc size){t e:TypeId}{bytes:Nat}{zs:List Value}{A B:Option Addr}{cb:Nat}{m:List α}(ho:o.op= .call {callee:= .builtin .append,args:=#[x,y],argTypes:=#[t,t]})(ht:SliceTy P t e size bytes zs)
    (hx:ev ρ x=some (.slice A 0 0)) (hy:ev ρ y=some (.slice B m.length cb)) (hs:∀w,oks Γ w→Src w B (m.flatMap enc)) (h63:m.length≤9223372036854775807) (hby:m.length*bytes≤140737488355328):
    Mk P o ρ Γ (fun v N=>∃A' cap',v= .slice A' m.length cap'∧N=[ros enc A' m]∧m.length≤cap'):=fun a w ha hG=>by
 rcases Nat.eq_zero_or_pos m.length with h0|h0
 · have hm:m=[]:=List.eq_nil_of_length_eq_zero h0
   subst hm
   refine⟨_,_,w,Rd.append0 (P:=P) (Γ:=Γ) ho ht hx hy h0 (Nat.le_refl 0) a w ha hG,⟨A,0,rfl,rfl,Nat.le_refl _⟩,⟨⟨fun c hc=>?_,by simp[owns,ros,ro],by simp[owns,ros,ro]⟩,Keeps.refl _ _,by simp[owns,ros,ro],by simp[reads,ros,ro,rblks]⟩⟩
   rw[List.mem_singleton.1 hc]
   exact .inl rfl
 · obtain⟨v,N,w',h1,⟨A',c',rfl,rfl⟩,h3⟩:=Mk.appendNew (Γ:=Γ) E ho ht hx hy hs h0 h63 hby a w ha hG
   have hr:=h3.sat.each (rows enc e size A' c' m) (by simp)
   obtain⟨A2,c2,h4,h5,h6,_⟩:=own_form hr
   cases h4
   refine⟨_,_,w',h1,⟨A',c',rfl,rfl,h6⟩,⟨⟨fun c hc=>?_,by simp[owns,ros,ro],by simp[owns,ros,ro]⟩,h3.keeps,by simp[owns,ros,ro],fun g hg hl=>?_⟩⟩
   ·rw[List.mem_singleton.1 hc];exact h5
   · have hb:g∈blks A':=by
       have h7:g∈rblks A' (m.flatMap enc):=by simpa[reads,ros,ro]using hg
       cases h:m.flatMap enc with
       |nil=>rw[h]at h7;simp[rblks]at h7
       |cons u us=>rw[h]at h7;exact h7
     exact absurd (h3.own g (by simpa[owns,rows,row]using hb) hl) (by simp[owns])
theorem Ex.kids_krow(f:Ex→List Value)(e:Ex):e.kids f=krow f (Ex.kids f) e.A e.args:=by rw[Ex.kids_eq,Ex.kidsL_map];rfl
theorem lsF_krow(f:Ex→List Value)(A:Option Addr)(l:List Ex):lsF f A l=krow f (Ex.kids f) A l:=by unfold lsF krow;rw[Ex.kidsL_map]
theorem lsG_krow(f:Ex→List Value)(g:St→List Value)(A:Option Addr)(l:List St):lsG f g A l=krow g (St.kids f g) A l:=by unfold lsG krow;rw[St.kidsL_map]
theorem St.kids_krow(f:Ex→List Value)(g:St→List Value)(s:St):s.kids f g=krow f (Ex.kids f) s.A s.exprs++(krow g (St.kids f g) s.At s.thn++krow g (St.kids f g) s.Ae s.els):=by rw[St.kids_eq,←lsF_krow,←lsG_krow,←lsG_krow];rfl
theorem Hd.kids_krow(k:Encs)(h:Hd):h.kids k=ros encZ h.Ap h.ps::krow k.g (St.kids k.f k.g) h.Ab h.body:=by unfold Hd.kids krow;rw[St.kidsL_map]
def zEx:Ex:=⟨0,nE,0,none,0,[]⟩
def zSt:St:=⟨0,nE,nE,none,0,[],none,0,[],none,0,[]⟩
def zHd:Hd:=⟨nE,none,0,[],none,0,[]⟩
def zVs:Vs:=⟨none,0,[]⟩
def zCm:Cm:=⟨nE,none,0,[],none,0,[]⟩
theorem To.krow{C:Cx}{ρ:Slots}{Γ:List Chunk}{K:Act→World→Prop}{α:Type}{enc:α→List Value}{kf:α→List Chunk}{A:Option Addr}{ty:TypeId}{z q:Nat}(l:List α)(k:To C ρ (all (Proofs.YtihgdnjkofpgiaaGreatDoor.krow enc kf A l)::Γ) K):To C ρ (rows enc ty z A q l::all (l.flatMap kf)::Γ) K:=To.layRow (To.allCons k)
theorem To.stK{C:Cx}{ρ:Slots}{Γ:List Chunk}{K:Act→World→Prop}(f:Ex→List Value)(g:St→List Value)(s:St)(k:To C ρ (all (s.kids f g)::Γ) K):To C ρ (all (Proofs.YtihgdnjkofpgiaaGreatDoor.krow f (Ex.kids f) s.A s.exprs)::all (Proofs.YtihgdnjkofpgiaaGreatDoor.krow g (St.kids f g) s.At s.thn)::all (Proofs.YtihgdnjkofpgiaaGreatDoor.krow g (St.kids f g) s.Ae s.els)::Γ) K:=by
 rw[←lsF_krow,←lsG_krow,←lsG_krow];exact To.stF s k
theorem eachEx_fn(l:List Ex)(A:Option Addr)(q:Nat)(hl:l.length≤64)(ih:∀x∈l,Does Tryz.prog 185 [.agg (encX x).toArray] [all ((Ex.kids encX) x)] (OneR encX (Ex.kids encX) Ex.pure (fun _:Ex=>True) x)):
    Does Tryz.prog 184 [.slice A l.length q, .func (.func 185) #[] #[]] [all (krow encX (Ex.kids encX) A l)] (EachR encX (Ex.kids encX) Ex.pure (fun _:Ex=>True) l):=by
 refine Does.enter Tryz.func184 rfl Tryz.ntmps184 rfl (fun w0=>?_)
 refine To.z 9 ?_
 refine To.mk rfl rfl rfl (Mk.makeRowsN (enc:=encX) (z:=zEx) (n:=l.length) rfl (by decide) rfl s210 rfl rfl (by omega) (by simp only[maxLen];omega)) ?_
 rintro _ _ ⟨b10,rfl,rfl⟩
 refine To.z 5 ?_
 refine To.one 1 rfl (ros encX A l) rfl (List.mem_cons_self ..) ?_
 refine To.z 7 ?_
 refine To.allNil ?_
 refine To.sub [(1, .func (.func 185) #[] #[]),(5, .slice (some ⟨b10,0,none⟩) (List.replicate l.length zEx).length l.length),(11, .slice A l.length q),(12,nv l.length),(13,nv 0)] ⟨rfl,rfl,rfl,rfl,rfl,trivial⟩ ?_
 refine To.up2 (To.up2 (To.up3 ?_))
 refine To.loop (fun mz ρ Γ=>∃(D:List Ex) (O:List Ex) (k:Nat),ρ=[(1, .func (.func 185) #[] #[]),(5, .slice (some ⟨b10,0,none⟩) D.length l.length),(11, .slice A l.length q),(12,nv l.length),(13,nv k)]∧Γ=[all (krow encX (Ex.kids encX) A l),ros encX A l,rows encX 241 4 (some ⟨b10,0,none⟩) l.length D,all (List.flatMap (Ex.kids encX) O)]∧mz=l.length-k∧(k≤l.length)∧(D=O++List.replicate (l.length-k) zEx)∧(O.length=k)∧(O.map Ex.pure=(l.take k).map Ex.pure)∧(∀y∈O,(fun _:Ex=>True) y)) (l.length-0) ⟨(List.replicate l.length zEx),([]:List Ex),0,rfl,rfl,rfl,(Nat.zero_le _),rfl,rfl,rfl,(fun _ h=>nomatch h)⟩ ?_
 rintro mz _ _ ⟨D,O,k,rfl,rfl,rfl,hk,hD,hOl,hO,hOc⟩
 have hDl:D.length=l.length:=by rw[hD];exact rep_len hOl hk
 refine To.z 6 ?_
 refine To.cp rfl (fun c14=>?_) (fun c14=>?_)
 obtain⟨x,hx⟩:∃z0,l[k]?=some z0:=⟨l[k]'(by omega),gge _⟩
 refine To.z 5 ?_
 refine To.part 0 rfl ((Ex.kids encX) x) (Ex.lax encX x) (krow_mem hx) ?_
 refine To.z 4 ?_
 refine To.al fun b7=>?_
 refine To.z 4 ?_
 have hz:D[k]?=some zEx:=by rw[hD];exact rep_get hOl (by omega)
 refine To.z 5 ?_
 refine To.cl [1] rfl rfl rfl (Ent.func (first:=[]) (captured:=[]) rfl rfl rfl ca185) rfl (ih x (mog hx)) ?_
 rintro _ _ ⟨y2,rfl,rfl,hp2,hc2⟩
 refine To.z 1 ?_
 refine To.u (Up.storeS (i:=4) (us:=encX y2) rfl rfl rfl r241 (encX_ok.len _) rfl rfl (rows_takes encX_ok (by decide) (by omega))) ?_
 refine To.z 3 ?_
 refine To.up5 (To.up1 (To.push (f:=(Ex.kids encX)) O y2 ?_))
 refine To.z 5 ?_
 refine To.sub [(1, .func (.func 185) #[] #[]),(5, .slice (some ⟨b10,0,none⟩) (D.set k y2).length l.length),(11, .slice A l.length q),(12,nv l.length),(13,nv ((k+1)))] ⟨rfl,(congrArg (fun n=>some (Value.slice (some ⟨b10,0,none⟩) n l.length)) List.length_set.symm),rfl,rfl,rfl,trivial⟩ ?_
 refine To.del1 (To.up3 (To.up3 (To.up3 ?_)))
 refine To.ag (l.length-(k+1)) (by omega) ⟨(D.set k y2),(O++[y2]),k+1,rfl,rfl,rfl,(by omega),(by rw[hD];exact rep_set hOl (by omega)),(by rw[lap,hOl];rfl),(by rw[take_of_get hx,List.map_append,List.map_append,hO];show _++[Ex.pure y2]=_++[Ex.pure x];rw[hp2]),(app_all hOc hc2)⟩
 refine To.z 12 ?_
 have hkl:k=l.length:=by omega
 obtain rfl:D=O:=by rw[hD,hkl,Nat.sub_self];exact List.append_nil _
 refine To.up3 (To.up3 (To.krow D (To.del2 (To.del1 (To.end1 (.inl rfl) Tryz.results184 rfl ?_)))))
 exact⟨_,_,D,rfl,rfl,by rw[hO,hkl,List.take_length],hOc,by omega⟩
theorem eachSt_fn(l:List St)(A:Option Addr)(q:Nat)(hl:l.length≤64)(ih:∀x∈l,Does Tryz.prog 135 [.agg (encT x).toArray] [all ((St.kids encX encT) x)] (OneR encT (St.kids encX encT) St.pure (fun _:St=>True) x)):
    Does Tryz.prog 134 [.slice A l.length q, .func (.func 135) #[] #[]] [all (krow encT (St.kids encX encT) A l)] (EachR encT (St.kids encX encT) St.pure (fun _:St=>True) l):=by
 refine Does.enter Tryz.func134 rfl Tryz.ntmps134 rfl (fun w0=>?_)
 refine To.z 9 ?_
 refine To.mk rfl rfl rfl (Mk.makeRowsN (enc:=encT) (z:=zSt) (n:=l.length) rfl (by decide) rfl s118 rfl rfl (by omega) (by simp only[maxLen];omega)) ?_
 rintro _ _ ⟨b10,rfl,rfl⟩
 refine To.z 5 ?_
 refine To.one 1 rfl (ros encT A l) rfl (List.mem_cons_self ..) ?_
 refine To.z 7 ?_
 refine To.allNil ?_
 refine To.sub [(1, .func (.func 135) #[] #[]),(5, .slice (some ⟨b10,0,none⟩) (List.replicate l.length zSt).length l.length),(11, .slice A l.length q),(12,nv l.length),(13,nv 0)] ⟨rfl,rfl,rfl,rfl,rfl,trivial⟩ ?_
 refine To.up2 (To.up2 (To.up3 ?_))
 refine To.loop (fun mz ρ Γ=>∃(D:List St) (O:List St) (k:Nat),ρ=[(1, .func (.func 135) #[] #[]),(5, .slice (some ⟨b10,0,none⟩) D.length l.length),(11, .slice A l.length q),(12,nv l.length),(13,nv k)]∧Γ=[all (krow encT (St.kids encX encT) A l),ros encT A l,rows encT 212 6 (some ⟨b10,0,none⟩) l.length D,all (List.flatMap (St.kids encX encT) O)]∧mz=l.length-k∧(k≤l.length)∧(D=O++List.replicate (l.length-k) zSt)∧(O.length=k)∧(O.map St.pure=(l.take k).map St.pure)∧(∀y∈O,(fun _:St=>True) y)) (l.length-0) ⟨(List.replicate l.length zSt),([]:List St),0,rfl,rfl,rfl,(Nat.zero_le _),rfl,rfl,rfl,(fun _ h=>nomatch h)⟩ ?_
 rintro mz _ _ ⟨D,O,k,rfl,rfl,rfl,hk,hD,hOl,hO,hOc⟩
 have hDl:D.length=l.length:=by rw[hD];exact rep_len hOl hk
 refine To.z 6 ?_
 refine To.cp rfl (fun c14=>?_) (fun c14=>?_)
 obtain⟨x,hx⟩:∃z0,l[k]?=some z0:=⟨l[k]'(by omega),gge _⟩
 refine To.z 5 ?_
 refine To.part 0 rfl ((St.kids encX encT) x) (St.lax encX encT x) (krow_mem hx) ?_
 refine To.z 4 ?_
 refine To.al fun b7=>?_
 refine To.z 4 ?_
 have hz:D[k]?=some zSt:=by rw[hD];exact rep_get hOl (by omega)
 refine To.z 5 ?_
 refine To.cl [1] rfl rfl rfl (Ent.func (first:=[]) (captured:=[]) rfl rfl rfl ca135) rfl (ih x (mog hx)) ?_
 rintro _ _ ⟨y2,rfl,rfl,hp2,hc2⟩
 refine To.z 1 ?_
 refine To.u (Up.storeS (i:=4) (us:=encT y2) rfl rfl rfl r212 (encT_ok.len _) rfl rfl (rows_takes encT_ok (by decide) (by omega))) ?_
 refine To.z 3 ?_
 refine To.up5 (To.up1 (To.push (f:=(St.kids encX encT)) O y2 ?_))
 refine To.z 5 ?_
 refine To.sub [(1, .func (.func 135) #[] #[]),(5, .slice (some ⟨b10,0,none⟩) (D.set k y2).length l.length),(11, .slice A l.length q),(12,nv l.length),(13,nv ((k+1)))] ⟨rfl,(congrArg (fun n=>some (Value.slice (some ⟨b10,0,none⟩) n l.length)) List.length_set.symm),rfl,rfl,rfl,trivial⟩ ?_
 refine To.del1 (To.up3 (To.up3 (To.up3 ?_)))
 refine To.ag (l.length-(k+1)) (by omega) ⟨(D.set k y2),(O++[y2]),k+1,rfl,rfl,rfl,(by omega),(by rw[hD];exact rep_set hOl (by omega)),(by rw[lap,hOl];rfl),(by rw[take_of_get hx,List.map_append,List.map_append,hO];show _++[St.pure y2]=_++[St.pure x];rw[hp2]),(app_all hOc hc2)⟩
 refine To.z 12 ?_
 have hkl:k=l.length:=by omega
 obtain rfl:D=O:=by rw[hD,hkl,Nat.sub_self];exact List.append_nil _
 refine To.up3 (To.up3 (To.krow D (To.del2 (To.del1 (To.end1 (.inl rfl) Tryz.results134 rfl ?_)))))
 exact⟨_,_,D,rfl,rfl,by rw[hO,hkl,List.take_length],hOc,by omega⟩
theorem eachHd_fn(l:List Hd)(A:Option Addr)(q:Nat)(hl:l.length≤64)(ih:∀x∈l,Does Tryz.prog 96 [.agg (encH x).toArray] [all ((Hd.kids eX) x)] (OneR encH (Hd.kids eX) Hd.pure (fun h:Hd=>h.ps.length≤h.qp) x)):
    Does Tryz.prog 95 [.slice A l.length q, .func (.func 96) #[] #[]] [all (krow encH (Hd.kids eX) A l)] (EachR encH (Hd.kids eX) Hd.pure (fun h:Hd=>h.ps.length≤h.qp) l):=by
 refine Does.enter Tryz.func95 rfl Tryz.ntmps95 rfl (fun w0=>?_)
 refine To.z 9 ?_
 refine To.mk rfl rfl rfl (Mk.makeRowsN (enc:=encH) (z:=zHd) (n:=l.length) rfl (by decide) rfl s115 rfl rfl (by omega) (by simp only[maxLen];omega)) ?_
 rintro _ _ ⟨b10,rfl,rfl⟩
 refine To.z 5 ?_
 refine To.one 1 rfl (ros encH A l) rfl (List.mem_cons_self ..) ?_
 refine To.z 7 ?_
 refine To.allNil ?_
 refine To.sub [(1, .func (.func 96) #[] #[]),(5, .slice (some ⟨b10,0,none⟩) (List.replicate l.length zHd).length l.length),(11, .slice A l.length q),(12,nv l.length),(13,nv 0)] ⟨rfl,rfl,rfl,rfl,rfl,trivial⟩ ?_
 refine To.up2 (To.up2 (To.up3 ?_))
 refine To.loop (fun mz ρ Γ=>∃(D:List Hd) (O:List Hd) (k:Nat),ρ=[(1, .func (.func 96) #[] #[]),(5, .slice (some ⟨b10,0,none⟩) D.length l.length),(11, .slice A l.length q),(12,nv l.length),(13,nv k)]∧Γ=[all (krow encH (Hd.kids eX) A l),ros encH A l,rows encH 120 3 (some ⟨b10,0,none⟩) l.length D,all (List.flatMap (Hd.kids eX) O)]∧mz=l.length-k∧(k≤l.length)∧(D=O++List.replicate (l.length-k) zHd)∧(O.length=k)∧(O.map Hd.pure=(l.take k).map Hd.pure)∧(∀y∈O,(fun h:Hd=>h.ps.length≤h.qp) y)) (l.length-0) ⟨(List.replicate l.length zHd),([]:List Hd),0,rfl,rfl,rfl,(Nat.zero_le _),rfl,rfl,rfl,(fun _ h=>nomatch h)⟩ ?_
 rintro mz _ _ ⟨D,O,k,rfl,rfl,rfl,hk,hD,hOl,hO,hOc⟩
 have hDl:D.length=l.length:=by rw[hD];exact rep_len hOl hk
 refine To.z 6 ?_
 refine To.cp rfl (fun c14=>?_) (fun c14=>?_)
 obtain⟨x,hx⟩:∃z0,l[k]?=some z0:=⟨l[k]'(by omega),gge _⟩
 refine To.z 5 ?_
 refine To.part 0 rfl ((Hd.kids eX) x) (Hd.lax eX x) (krow_mem hx) ?_
 refine To.z 4 ?_
 refine To.al fun b7=>?_
 refine To.z 4 ?_
 have hz:D[k]?=some zHd:=by rw[hD];exact rep_get hOl (by omega)
 refine To.z 5 ?_
 refine To.cl [1] rfl rfl rfl (Ent.func (first:=[]) (captured:=[]) rfl rfl rfl ca96) rfl (ih x (mog hx)) ?_
 rintro _ _ ⟨y2,rfl,rfl,hp2,hc2⟩
 refine To.z 1 ?_
 refine To.u (Up.storeS (i:=4) (us:=encH y2) rfl rfl rfl r120 (encH_ok.len _) rfl rfl (rows_takes encH_ok (by decide) (by omega))) ?_
 refine To.z 3 ?_
 refine To.up5 (To.up1 (To.push (f:=(Hd.kids eX)) O y2 ?_))
 refine To.z 5 ?_
 refine To.sub [(1, .func (.func 96) #[] #[]),(5, .slice (some ⟨b10,0,none⟩) (D.set k y2).length l.length),(11, .slice A l.length q),(12,nv l.length),(13,nv ((k+1)))] ⟨rfl,(congrArg (fun n=>some (Value.slice (some ⟨b10,0,none⟩) n l.length)) List.length_set.symm),rfl,rfl,rfl,trivial⟩ ?_
 refine To.del1 (To.up3 (To.up3 (To.up3 ?_)))
 refine To.ag (l.length-(k+1)) (by omega) ⟨(D.set k y2),(O++[y2]),k+1,rfl,rfl,rfl,(by omega),(by rw[hD];exact rep_set hOl (by omega)),(by rw[lap,hOl];rfl),(by rw[take_of_get hx,List.map_append,List.map_append,hO];show _++[Hd.pure y2]=_++[Hd.pure x];rw[hp2]),(app_all hOc hc2)⟩
 refine To.z 12 ?_
 have hkl:k=l.length:=by omega
 obtain rfl:D=O:=by rw[hD,hkl,Nat.sub_self];exact List.append_nil _
 refine To.up3 (To.up3 (To.krow D (To.del2 (To.del1 (To.end1 (.inl rfl) Tryz.results95 rfl ?_)))))
 exact⟨_,_,D,rfl,rfl,by rw[hO,hkl,List.take_length],hOc,by omega⟩
theorem eachVs_fn(l:List Vs)(A:Option Addr)(q:Nat)(hl:l.length≤64)(ih:∀x∈l,Does Tryz.prog 94 [.agg (encVs x).toArray] [all ((Vs.kids eX) x)] (OneR encVs (Vs.kids eX) Vs.pure Vs.Cap x)):
    Does Tryz.prog 93 [.slice A l.length q, .func (.func 94) #[] #[]] [all (krow encVs (Vs.kids eX) A l)] (EachR encVs (Vs.kids eX) Vs.pure Vs.Cap l):=by
 refine Does.enter Tryz.func93 rfl Tryz.ntmps93 rfl (fun w0=>?_)
 refine To.z 9 ?_
 refine To.mk rfl rfl rfl (Mk.makeRowsN (enc:=encVs) (z:=zVs) (n:=l.length) rfl (by decide) rfl s105 rfl rfl (by omega) (by simp only[maxLen];omega)) ?_
 rintro _ _ ⟨b10,rfl,rfl⟩
 refine To.z 5 ?_
 refine To.one 1 rfl (ros encVs A l) rfl (List.mem_cons_self ..) ?_
 refine To.z 7 ?_
 refine To.allNil ?_
 refine To.sub [(1, .func (.func 94) #[] #[]),(5, .slice (some ⟨b10,0,none⟩) (List.replicate l.length zVs).length l.length),(11, .slice A l.length q),(12,nv l.length),(13,nv 0)] ⟨rfl,rfl,rfl,rfl,rfl,trivial⟩ ?_
 refine To.up2 (To.up2 (To.up3 ?_))
 refine To.loop (fun mz ρ Γ=>∃(D:List Vs) (O:List Vs) (k:Nat),ρ=[(1, .func (.func 94) #[] #[]),(5, .slice (some ⟨b10,0,none⟩) D.length l.length),(11, .slice A l.length q),(12,nv l.length),(13,nv k)]∧Γ=[all (krow encVs (Vs.kids eX) A l),ros encVs A l,rows encVs 117 1 (some ⟨b10,0,none⟩) l.length D,all (List.flatMap (Vs.kids eX) O)]∧mz=l.length-k∧(k≤l.length)∧(D=O++List.replicate (l.length-k) zVs)∧(O.length=k)∧(O.map Vs.pure=(l.take k).map Vs.pure)∧(∀y∈O,Vs.Cap y)) (l.length-0) ⟨(List.replicate l.length zVs),([]:List Vs),0,rfl,rfl,rfl,(Nat.zero_le _),rfl,rfl,rfl,(fun _ h=>nomatch h)⟩ ?_
 rintro mz _ _ ⟨D,O,k,rfl,rfl,rfl,hk,hD,hOl,hO,hOc⟩
 have hDl:D.length=l.length:=by rw[hD];exact rep_len hOl hk
 refine To.z 6 ?_
 refine To.cp rfl (fun c14=>?_) (fun c14=>?_)
 obtain⟨x,hx⟩:∃z0,l[k]?=some z0:=⟨l[k]'(by omega),gge _⟩
 refine To.z 5 ?_
 refine To.part 0 rfl ((Vs.kids eX) x) (Vs.lax eX x) (krow_mem hx) ?_
 refine To.z 4 ?_
 refine To.al fun b7=>?_
 refine To.z 4 ?_
 have hz:D[k]?=some zVs:=by rw[hD];exact rep_get hOl (by omega)
 refine To.z 5 ?_
 refine To.cl [1] rfl rfl rfl (Ent.func (first:=[]) (captured:=[]) rfl rfl rfl ca94) rfl (ih x (mog hx)) ?_
 rintro _ _ ⟨y2,rfl,rfl,hp2,hc2⟩
 refine To.z 1 ?_
 refine To.u (Up.storeS (i:=4) (us:=encVs y2) rfl rfl rfl r117 (encVs_ok.len _) rfl rfl (rows_takes encVs_ok (by decide) (by omega))) ?_
 refine To.z 3 ?_
 refine To.up5 (To.up1 (To.push (f:=(Vs.kids eX)) O y2 ?_))
 refine To.z 5 ?_
 refine To.sub [(1, .func (.func 94) #[] #[]),(5, .slice (some ⟨b10,0,none⟩) (D.set k y2).length l.length),(11, .slice A l.length q),(12,nv l.length),(13,nv ((k+1)))] ⟨rfl,(congrArg (fun n=>some (Value.slice (some ⟨b10,0,none⟩) n l.length)) List.length_set.symm),rfl,rfl,rfl,trivial⟩ ?_
 refine To.del1 (To.up3 (To.up3 (To.up3 ?_)))
 refine To.ag (l.length-(k+1)) (by omega) ⟨(D.set k y2),(O++[y2]),k+1,rfl,rfl,rfl,(by omega),(by rw[hD];exact rep_set hOl (by omega)),(by rw[lap,hOl];rfl),(by rw[take_of_get hx,List.map_append,List.map_append,hO];show _++[Vs.pure y2]=_++[Vs.pure x];rw[hp2]),(app_all hOc hc2)⟩
 refine To.z 12 ?_
 have hkl:k=l.length:=by omega
 obtain rfl:D=O:=by rw[hD,hkl,Nat.sub_self];exact List.append_nil _
 refine To.up3 (To.up3 (To.krow D (To.del2 (To.del1 (To.end1 (.inl rfl) Tryz.results93 rfl ?_)))))
 exact⟨_,_,D,rfl,rfl,by rw[hO,hkl,List.take_length],hOc,by omega⟩
theorem eachCm_fn(l:List Cm)(A:Option Addr)(q:Nat)(hl:l.length≤64)(ih:∀x∈l,Does Tryz.prog 92 [.agg (encC x).toArray] [all ((Cm.kids eX) x)] (OneR encC (Cm.kids eX) Cm.pure Cm.Cap x)):
    Does Tryz.prog 91 [.slice A l.length q, .func (.func 92) #[] #[]] [all (krow encC (Cm.kids eX) A l)] (EachR encC (Cm.kids eX) Cm.pure Cm.Cap l):=by
 refine Does.enter Tryz.func91 rfl Tryz.ntmps91 rfl (fun w0=>?_)
 refine To.z 9 ?_
 refine To.mk rfl rfl rfl (Mk.makeRowsN (enc:=encC) (z:=zCm) (n:=l.length) rfl (by decide) rfl s72 rfl rfl (by omega) (by simp only[maxLen];omega)) ?_
 rintro _ _ ⟨b10,rfl,rfl⟩
 refine To.z 5 ?_
 refine To.one 1 rfl (ros encC A l) rfl (List.mem_cons_self ..) ?_
 refine To.z 7 ?_
 refine To.allNil ?_
 refine To.sub [(1, .func (.func 92) #[] #[]),(5, .slice (some ⟨b10,0,none⟩) (List.replicate l.length zCm).length l.length),(11, .slice A l.length q),(12,nv l.length),(13,nv 0)] ⟨rfl,rfl,rfl,rfl,rfl,trivial⟩ ?_
 refine To.up2 (To.up2 (To.up3 ?_))
 refine To.loop (fun mz ρ Γ=>∃(D:List Cm) (O:List Cm) (k:Nat),ρ=[(1, .func (.func 92) #[] #[]),(5, .slice (some ⟨b10,0,none⟩) D.length l.length),(11, .slice A l.length q),(12,nv l.length),(13,nv k)]∧Γ=[all (krow encC (Cm.kids eX) A l),ros encC A l,rows encC 107 3 (some ⟨b10,0,none⟩) l.length D,all (List.flatMap (Cm.kids eX) O)]∧mz=l.length-k∧(k≤l.length)∧(D=O++List.replicate (l.length-k) zCm)∧(O.length=k)∧(O.map Cm.pure=(l.take k).map Cm.pure)∧(∀y∈O,Cm.Cap y)) (l.length-0) ⟨(List.replicate l.length zCm),([]:List Cm),0,rfl,rfl,rfl,(Nat.zero_le _),rfl,rfl,rfl,(fun _ h=>nomatch h)⟩ ?_
 rintro mz _ _ ⟨D,O,k,rfl,rfl,rfl,hk,hD,hOl,hO,hOc⟩
 have hDl:D.length=l.length:=by rw[hD];exact rep_len hOl hk
 refine To.z 6 ?_
 refine To.cp rfl (fun c14=>?_) (fun c14=>?_)
 obtain⟨x,hx⟩:∃z0,l[k]?=some z0:=⟨l[k]'(by omega),gge _⟩
 refine To.z 5 ?_
 refine To.part 0 rfl ((Cm.kids eX) x) (Cm.lax eX x) (krow_mem hx) ?_
 refine To.z 4 ?_
 refine To.al fun b7=>?_
 refine To.z 4 ?_
 have hz:D[k]?=some zCm:=by rw[hD];exact rep_get hOl (by omega)
 refine To.z 5 ?_
 refine To.cl [1] rfl rfl rfl (Ent.func (first:=[]) (captured:=[]) rfl rfl rfl ca92) rfl (ih x (mog hx)) ?_
 rintro _ _ ⟨y2,rfl,rfl,hp2,hc2⟩
 refine To.z 1 ?_
 refine To.u (Up.storeS (i:=4) (us:=encC y2) rfl rfl rfl r107 (encC_ok.len _) rfl rfl (rows_takes encC_ok (by decide) (by omega))) ?_
 refine To.z 3 ?_
 refine To.up5 (To.up1 (To.push (f:=(Cm.kids eX)) O y2 ?_))
 refine To.z 5 ?_
 refine To.sub [(1, .func (.func 92) #[] #[]),(5, .slice (some ⟨b10,0,none⟩) (D.set k y2).length l.length),(11, .slice A l.length q),(12,nv l.length),(13,nv ((k+1)))] ⟨rfl,(congrArg (fun n=>some (Value.slice (some ⟨b10,0,none⟩) n l.length)) List.length_set.symm),rfl,rfl,rfl,trivial⟩ ?_
 refine To.del1 (To.up3 (To.up3 (To.up3 ?_)))
 refine To.ag (l.length-(k+1)) (by omega) ⟨(D.set k y2),(O++[y2]),k+1,rfl,rfl,rfl,(by omega),(by rw[hD];exact rep_set hOl (by omega)),(by rw[lap,hOl];rfl),(by rw[take_of_get hx,List.map_append,List.map_append,hO];show _++[Cm.pure y2]=_++[Cm.pure x];rw[hp2]),(app_all hOc hc2)⟩
 refine To.z 12 ?_
 have hkl:k=l.length:=by omega
 obtain rfl:D=O:=by rw[hD,hkl,Nat.sub_self];exact List.append_nil _
 refine To.up3 (To.up3 (To.krow D (To.del2 (To.del1 (To.end1 (.inl rfl) Tryz.results91 rfl ?_)))))
 exact⟨_,_,D,rfl,rfl,by rw[hO,hkl,List.take_length],hOc,by omega⟩
end Go.Proofs.YtihgdnjkofpgiaaGreatDoor
