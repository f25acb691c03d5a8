/- Own text. -/
import Derived.Test.YtlihklladkagpaaGreatDoorXg
import Derived.Test.YtlihklladkagpaaGreatDoorE1
set_option linter.unusedVariables false
set_option linter.unusedSimpArgs false
set_option maxHeartbeats 2000000
set_option maxRecDepth 100000
namespace Go.Proofs.YtlihklladkagpaaGreatDoor
open Go.Proofs.Tryz
open Go.RowKit Go.Flow Go.Mem Go.Sep
theorem cloneXI_fn(A:OA)(q:Nat)(l:List Int)(hl:l.length≤1000000):
    Dz 33 [vs A l q] [ros encI A l] (fun v Γ'=>∃B p,v=vs B l p∧Γ'=[rows encI 3 1 B p l]):=by
 refine Does.en func33 ntmps33 fun w0=>?_
 refine Jz 9 ?_
 refine Jr (Rd.as (v':= .bool A.isNone) rfl (Rd.eqlSl (A:=A) rfl underlying62 rfl rfl)) ?_
 refine To.n (Jt (Jcond rfl (fun c4=>?_) (fun c4=>?_)))
 refine Js (Jknow (p:=l=[]) (fun w hw=>ros_noneX encI_ok (by decide) c4 0 rfl hw) (fun hl0=>?_))
 subst hl0
 refine JnilRow (encI) 3 1 (Jz 6 ?_)
 refine Jonly [0] rfl (Je1 results33 ?_)
 exact⟨_,_,rfl,rfl⟩
 refine Jz 4 ?_
 refine Jmk rfl rfl rfl (Mk.slice0R (enc:=encI) rfl s62) ?_
 rintro _ _ ⟨A5,rfl,rfl⟩
 refine Jm ?_
 refine Jge rfl rfl rfl (Ge.appendL encI_ok (i:=0) (m:=l) rfl s62 rfl rfl rfl (src_ro (i:=1) rfl) om om) ?_
 rintro _ _ ⟨A7,q7,rfl,rfl⟩
 refine Jz 4 ?_
 refine Jonly [0] rfl (Je1 results33 ?_)
 exact⟨_,_,rfl,rfl⟩
theorem cloneTb_fn(A:OA)(q:Nat)(l:List Tb)(hl:l.length≤1000000):
    Dz 36 [vs A l q] [ros Tb.cells A l] (fun v Γ'=>∃B p,v=vs B l p∧Γ'=[rows Tb.cells 54 1 B p l]):=by
 refine Does.en func36 ntmps36 fun w0=>?_
 refine Jz 9 ?_
 refine Jr (Rd.as (v':= .bool A.isNone) rfl (Rd.eqlSl (A:=A) rfl underlying51 rfl rfl)) ?_
 refine To.n (Jt (Jcond rfl (fun c4=>?_) (fun c4=>?_)))
 refine Js (Jknow (p:=l=[]) (fun w hw=>ros_noneX encTb (by decide) c4 0 rfl hw) (fun hl0=>?_))
 subst hl0
 refine JnilRow (Tb.cells) 54 1 (Jz 6 ?_)
 refine Jonly [0] rfl (Je1 results36 ?_)
 exact⟨_,_,rfl,rfl⟩
 refine Jz 4 ?_
 refine Jmk rfl rfl rfl (Mk.slice0R (enc:=Tb.cells) rfl s51) ?_
 rintro _ _ ⟨A5,rfl,rfl⟩
 refine Jm ?_
 refine Jge rfl rfl rfl (Ge.appendL encTb (i:=0) (m:=l) rfl s51 rfl rfl rfl (src_ro (i:=1) rfl) om om) ?_
 rintro _ _ ⟨A7,q7,rfl,rfl⟩
 refine Jz 4 ?_
 refine Jonly [0] rfl (Je1 results36 ?_)
 exact⟨_,_,rfl,rfl⟩
structure Cl where
 Aa:OA
 qa:Nat
 args:List Int
 now:Int
 Ag:OA
 qg:Nat
 flags:List Bool
 dsk:Int
 Af:OA
 qf:Nat
 fail:List Int
def Cl.cells(c:Cl):List Value:=[vs c.Aa c.args c.qa, .int .i64 c.now,vs c.Ag c.flags c.qg, .int .i64 c.dsk,vs c.Af c.fail c.qf]
def Cl.sm(c:Cl)(l:List Ins):Sm:=⟨none,0,l,none,0,c.args,c.now,none,0,c.flags,c.dsk,none,0,isort cmpI c.fail⟩
def sameS(s t:Sm):Prop:=s.code=t.code∧s.args=t.args∧s.now=t.now∧s.flags=t.flags∧s.dsk=t.dsk∧s.fail=t.fail
theorem stepV_same{s t:Sm}(h:sameS s t)(x:Ins)(d:Dv):stepV s x d=stepV t x d:=by
 obtain⟨h1,h2,h3,h4,h5,h6⟩:=h
 unfold stepV diskV
 rw[h1,h2,h3,h4,h5,h6]
theorem runV_same{s t:Sm}(h:sameS s t):∀(f:Nat) (d:Dv),runV s f d=runV t f d
 |0,d=>by rw[runV,runV,h.1]
 | f+1,d=>by
   rw[runV,runV,h.1]
   simp only[stepV_same h,runV_same h f]
theorem runOk_fn(pr st:Int)(A:OA)(q:Nat)(l:List Ins)(a:Sx)(c:Cl)(hv0:verifyV pr st l=0)(hc:l.length≤4000)(hpr:(c.args.length:Int)=pr)(href:∀x∈l,referB x a.vars.length a.tabs.length c.flags.length=true)(hsm:a.vars.length≤1000000∧a.tabs.length≤1000000)(hfl:c.fail.length≤12)(hdsk:0≤c.dsk∧c.dsk≤1000000000)(hgt:∀y∈a.tabs,Good y.l)(hgd:Good a.dk.l)(hcaps:∀y∈a.tabs,y.l.length≤y.q)(hcapd:a.dk.l.length≤a.dk.q):
    Dz 12 [.agg #[.int .i64 pr, .int .i64 st,vs A l q], .agg #[vs a.Av a.vars a.qv,vs a.At a.tabs a.qt,vs a.dk.A a.dk.l a.dk.q], .agg #[vs c.Aa c.args c.qa, .int .i64 c.now,vs c.Ag c.flags c.qg, .int .i64 c.dsk,vs c.Af c.fail c.qf]] [ros Ins.cells A l,ros encI a.Av a.vars,ros Tb.cells a.At a.tabs,rosS encEn (a.tabs.map Tb.ar),ros encEn a.dk.A a.dk.l,ros encI c.Aa c.args,ros encB c.Ag c.flags,ros encI c.Af c.fail,tabC] (fun v Γ'=>∃d':Dm,v= .tuple #[.agg #[vs d'.Av d'.vars d'.qv,vs d'.At d'.tabs d'.qt,vs d'.dk.A d'.dk.l d'.dk.q,vs d'.Ae d'.effs d'.qe, .int .i64 d'.cost], .int .i64 0]∧Γ'=[rows encI 2 1 d'.Av d'.qv d'.vars,rows Tb.cells 54 1 d'.At d'.qt d'.tabs,rosS encEn (d'.tabs.map Tb.ar),ros encEn d'.dk.A d'.dk.l,rows Ef.cells 86 8 d'.Ae d'.qe d'.effs,all (efK d'.effs)]∧d'.val=runV (c.sm l) 1048576 (d0G a.vars (a.tabs.map Tb.l) a.dk.l)∧capsD d'):=by
 refine Does.en func12 ntmps12 fun w0=>?_
 refine Js (To.g (Jbo fun b3=>?_))
 refine Jbo fun b4=>?_
 refine Jbo fun b5=>?_
 refine Jal fun b6=>?_
 refine Jz 7 ?_
 refine Jvf ((verify_fn pr st A q l).mono (R':=fun v _=>v= .int .i64 0) (fun v _ h=>by rw[h,hv0])) rfl (ocs (oca 4 rfl) (ocs (oca 12 rfl) (ocn _))) ?_
 refine Jz 23 ?_
 refine Jcp rfl ?_ ?_<;>intro k23
 exact absurd hpr k23
 refine Jz 12 ?_
 refine Jup1 (Jup2 (Jup3 (JloopS (fun mz ρ Γ=>∃(i:Nat),ρ=[(3,pv b3),(4,pv b4),(5,pv b5),(6,pv b6),(26,vs A l q),(27,nv l.length),(28,nv i)]∧Γ=[box b3 [.int .i64 pr, .int .i64 st,vs A l q] 43,box b4 [vs a.Av a.vars a.qv,vs a.At a.tabs a.qt,vs a.dk.A a.dk.l a.dk.q] 56,box b5 [vs c.Aa c.args c.qa, .int .i64 c.now,vs c.Ag c.flags c.qg, .int .i64 c.dsk,vs c.Af c.fail c.qf] 64,box b6 [.slice none 0 0, .slice none 0 0, .slice none 0 0, .slice none 0 0, .int .i64 0] 70,ros Ins.cells A l,ros encI a.Av a.vars,ros Tb.cells a.At a.tabs,rosS encEn (a.tabs.map Tb.ar),ros encEn a.dk.A a.dk.l,ros encI c.Aa c.args,ros encB c.Ag c.flags,ros encI c.Af c.fail,tabC]∧mz=l.length-i∧(i≤l.length)) (l.length-0) ⟨⟨0,rfl,rfl,rfl,(Nat.zero_le _)⟩,sb⟩ ?_)))
 rintro mz _ _ ⟨i,rfl,rfl,rfl,hi⟩
 refine Jz 6 ?_
 refine Jcp rfl ?_ ?_<;>intro k29
 obtain⟨x,hx⟩:=exg l i om
 refine Jz 8 ?_
 refine Jal fun b10=>?_
 refine Jz 8 ?_
 refine Jvf ((refers_fn x a.Av a.At a.dk.A c.Aa c.Ag c.Af a.vars.length a.qv a.tabs.length a.qt a.dk.l.length a.dk.q c.args.length c.qa c.flags.length c.qg c.fail.length c.qf c.now c.dsk).mono (R':=fun v _=>v= .bool true) (fun v _ h=>by rw[h,href x (mog hx)])) rfl (ocn _) ?_
 refine Jz 12 ?_
 refine Jdel0 (JagS (l.length-(i+1)) om ⟨⟨i+1,rfl,rfl,rfl,om⟩,sb⟩)
 refine Jz 10 ?_
 refine Jr (.bd [.slice none 0 0, .slice none 0 0, .slice none 0 0, .slice none 0 0, .int .i64 0,vs A l q,vs c.Aa c.args c.qa, .int .i64 c.now,vs c.Ag c.flags c.qg, .int .i64 c.dsk,vs c.Af c.fail c.qf, .slice none 0 0, .int .i64 0, .int .i64 0, .int .i64 0, .bool false]) ?_
 refine Jbo fun b43=>?_
 refine Jz 8 ?_
 refine Jqf (cloneXI_fn c.Af c.qf c.fail om) rfl (ocs (oca 12 rfl) (ocn _)) ?_
 rintro _ _ ⟨Bf,pf,rfl,rfl⟩
 refine⟨rfl,?_⟩
 refine Jz 13 ?_
 refine Jcf [0] (sortI_fn Bf pf c.fail om) ?_
 rintro _ _ ⟨rfl,rfl⟩
 refine Jz 3 ?_
 refine Jas [rows encI 3 1 Bf pf (isort cmpI c.fail),box b43 [.slice none 0 0, .slice none 0 0, .slice none 0 0, .slice none 0 0, .int .i64 0,vs A l q,vs c.Aa c.args c.qa, .int .i64 c.now,vs c.Ag c.flags c.qg, .int .i64 c.dsk,vs Bf (isort cmpI c.fail) pf, .slice none 0 0, .int .i64 0, .int .i64 0, .int .i64 0, .bool false] 123,box b3 [.int .i64 pr, .int .i64 st,vs A l q] 43,box b4 [vs a.Av a.vars a.qv,vs a.At a.tabs a.qt,vs a.dk.A a.dk.l a.dk.q] 56,box b5 [vs c.Aa c.args c.qa, .int .i64 c.now,vs c.Ag c.flags c.qg, .int .i64 c.dsk,vs c.Af c.fail c.qf] 64,box b6 [.slice none 0 0, .slice none 0 0, .slice none 0 0, .slice none 0 0, .int .i64 0] 70,ros Ins.cells A l,ros encI a.Av a.vars,ros Tb.cells a.At a.tabs,rosS encEn (a.tabs.map Tb.ar),ros encEn a.dk.A a.dk.l,ros encI c.Aa c.args,ros encB c.Ag c.flags,ros encI c.Af c.fail,tabC] (by(try unfold vs);rw[isort_len]<;>rfl) (JlayRow (Jflow [box b4 [vs a.Av a.vars a.qv,vs a.At a.tabs a.qt,vs a.dk.A a.dk.l a.dk.q] 56] [⟨0,[],0⟩,⟨1,[],0⟩,⟨2,[],0⟩,⟨4,[],0⟩,⟨5,[],0⟩,⟨7,[],0⟩,⟨8,[],0⟩,⟨3,[],4⟩,⟨6,[3],4⟩,⟨9,[3,6],0⟩,⟨10,[3,6],0⟩,⟨11,[3,6],0⟩,⟨12,[3,6],0⟩,⟨13,[3,6],5⟩] mixed.h (by kernel_rfl) (ocs (oca 3 rfl) (ocn _)) (Jz 6 ?_)))
 refine Fw.f rfl (Rd.lS (i:=0) (us:=[vs a.dk.A a.dk.l a.dk.q]) rfl rfl r54 rfl (box_gives (n:=1) rfl) rfl) ?_
 refine Fw.callM rfl rfl rfl rfl rfl .fc (clone64_fn a.Av a.qv a.vars hsm.1) rfl (ocs (oca 7 rfl) (ocn _)) ?_
 rintro _ _ ⟨Bv,pv,rfl,rfl⟩
 refine⟨rfl,?_⟩
 refine Fw.callM rfl rfl rfl rfl rfl .fc (cloneTb_fn a.At a.qt a.tabs hsm.2) rfl (ocs (oca 9 rfl) (ocn _)) ?_
 rintro _ _ ⟨Bt,pt,rfl,rfl⟩
 refine⟨rfl,?_⟩
 refine Fw.f rfl (.bd [vs Bv a.vars pv,vs Bt a.tabs pt,vs a.dk.A a.dk.l a.dk.q]) ?_
 refine Jz 3 ?_
 refine Fw.up rfl rfl rfl (Up.storeS (i:=3) rfl rfl rfl r56 rfl rfl rfl (box_takes (ds:=[vs Bv a.vars pv,vs Bt a.tabs pt,vs a.dk.A a.dk.l a.dk.q, .slice none 0 0, .int .i64 0,vs A l q,vs c.Aa c.args c.qa, .int .i64 c.now,vs c.Ag c.flags c.qg, .int .i64 c.dsk,vs Bf (isort cmpI c.fail) pf, .slice none 0 0, .int .i64 0, .int .i64 0, .int .i64 0, .bool false]) rfl rfl)) (ocs (oca 5 rfl) (ocn _)) ?_
 refine Jz 3 ?_
 refine JnilRow (encI) 2 1 (JnilRow (Ef.cells) 86 8 (JallNil ?_))
 obtain⟨I,hR,hI⟩:=all_run (s:=(⟨A,q,l,c.Aa,c.qa,c.args,c.now,c.Ag,c.qg,c.flags,c.dsk,Bf,pf,isort cmpI c.fail⟩:Sm)) (V:=a.vars) (tb:=a.tabs.map Tb.l) (dk:=a.dk.l) hv0 (fun x hx=>by rw[List.length_map];exact href x hx) hpr (isortI_asc _) (by show(isort cmpI c.fail).length≤1000000;rw[isort_len];omega) hdsk (fun t ht=>by obtain⟨y,hy,rfl⟩:=List.mem_map.1 ht;exact hgt y hy) hgd
 refine Jz 2 ?_
 refine Jcf [6,4,3,11,11,1,0,0,8,8,0,4] (run_fn b43 (⟨A,q,l,c.Aa,c.qa,c.args,c.now,c.Ag,c.qg,c.flags,c.dsk,Bf,pf,isort cmpI c.fail⟩:Sm) I hR hc (⟨Bv,pv,a.vars,Bt,pt,a.tabs,a.dk,none,0,[],0,none,0,[],0,0,0,false⟩:Dm) hI ⟨hcaps,hcapd⟩) ?_
 rintro _ _ ⟨rfl,d',rfl,hv,hcap⟩
 refine Jz 7 ?_
 refine Jr (Rd.lS (i:=0) (us:=[vs d'.Av d'.vars d'.qv,vs d'.At d'.tabs d'.qt,vs d'.dk.A d'.dk.l d'.dk.q,vs d'.Ae d'.effs d'.qe, .int .i64 d'.cost]) rfl rfl r70 rfl (box_gives (n:=5) rfl) rfl) ?_
 refine Jz 5 ?_
 refine JendCT [1,1,1,1,1,1] rfl (.inl rfl) results12 rfl (i:=11) rfl r70 rfl rfl ?_
 have e0:(⟨Bv,pv,a.vars,Bt,pt,a.tabs,a.dk,none,0,[],0,none,0,[],0,0,0,false⟩:Dm).val=d0G a.vars (a.tabs.map Tb.l) a.dk.l:=rfl
 rw[e0,runV_same (s:=(⟨A,q,l,c.Aa,c.qa,c.args,c.now,c.Ag,c.qg,c.flags,c.dsk,Bf,pf,isort cmpI c.fail⟩:Sm)) (t:=c.sm l) ⟨rfl,rfl,rfl,rfl,rfl,rfl⟩ 1048576]at hv
 exact⟨d',rfl,rfl,hv,hcap⟩
open Go.RowKit Go.Flow Go.Mem Go.Sep Go.In
theorem he2:exC0[2]?=some ⟨28,8,0,0⟩:=rfl
theorem one_of{l:List Ef}{e:EfV}(h:l.map Ef.val=[e]):∃e0,l=[e0]∧e0.k=e.k:=by
 cases l with
 |nil=>simp at h
 | cons e0 l=>cases l with
   |nil=>simp at h;exact⟨e0,rfl,by rw[←h];rfl⟩
   |cons e1 l=>simp at h
theorem ex_run2:runV (Cl.sm (⟨none,0,[],0,none,0,[],0,none,0,[]⟩:Cl) exC) 1048576 (d0G [5] ([]:List (List (Int×Int))) [])=⟨[105],[],[],[faultE],200,[],1,0,0,true⟩:=by decide+kernel
theorem runEx_fn(A Av:OA)(q:Nat):Dz 12 [.agg #[.int .i64 0, .int .i64 2,vs A exC q], .agg #[vs Av ([5]:List Int) 1, .slice none 0 0, .slice none 0 0], .agg #[.slice none 0 0, .int .i64 0, .slice none 0 0, .int .i64 0, .slice none 0 0]] [ros Ins.cells A exC,ros encI Av ([5]:List Int),ros Tb.cells none ([]:List Tb),rosS encEn (([]:List Tb).map Tb.ar),ros encEn none ([]:List (Int×Int)),ros encI none ([]:List Int),ros encB none ([]:List Bool),ros encI none ([]:List Int),tabC] (fun v Γ'=>∃d':Dm,v= .tuple #[.agg #[vs d'.Av d'.vars d'.qv,vs d'.At d'.tabs d'.qt,vs d'.dk.A d'.dk.l d'.dk.q,vs d'.Ae d'.effs d'.qe, .int .i64 d'.cost], .int .i64 0]∧Γ'=[rows encI 2 1 d'.Av d'.qv d'.vars,rows Ef.cells 86 8 d'.Ae d'.qe d'.effs]∧d'.val=runV (Cl.sm (⟨none,0,[],0,none,0,[],0,none,0,[]⟩:Cl) exC) 1048576 (d0G [5] ([]:List (List (Int×Int))) [])):=
 Does.turned (runOk_fn 0 2 A q exC (⟨Av,1,[5],none,0,[],⟨none,0,[]⟩⟩:Sx) (⟨none,0,[],0,none,0,[],0,none,0,[]⟩:Cl) ex_verify (by decide) rfl ex_refers (show 1≤1000000∧0≤1000000 by decide) (Nat.zero_le _) ⟨Int.le_refl _,by decide⟩ (fun y hy=>by cases hy) ⟨List.Pairwise.nil,Nat.zero_le _⟩ (fun y hy=>by cases hy) (Nat.le_refl _)) fun v Γ' h=>by
  obtain⟨d',h1,rfl,hv,_⟩:=h
  exact⟨_,_,⟨d',h1,rfl,hv⟩,List.Perm.cons _ (List.perm_middle (l₁:=[_,_,_]) (l₂:=[_]))⟩
theorem awake_fn:
    Dz 10 [] [tabC] (fun v _=>v= .bool true):=by
 refine Does.en func10 ntmps10 fun w0=>?_
 refine Jz 7 ?_
 refine Jr (.bd [.int .u8 29, .int .i64 0, .int .i64 0, .int .i64 0]) ?_
 refine Jr (.bd [.int .u8 1, .int .i64 0, .int .i64 0, .int .i64 1]) ?_
 refine Jr (.bd [.int .u8 28, .int .i64 8, .int .i64 0, .int .i64 0]) ?_
 refine Jr (.bd [.int .u8 29, .int .i64 0, .int .i64 0, .int .i64 0]) ?_
 refine Jr (.bd [.int .u8 2, .int .i64 0, .int .i64 0, .int .i64 0]) ?_
 refine Jr (.bd [.int .u8 1, .int .i64 0, .int .i64 0, .int .i64 1]) ?_
 refine Jr (.bd [.int .u8 14, .int .i64 0, .int .i64 0, .int .i64 0]) ?_
 refine Jr (.bd [.int .u8 24, .int .i64 0, .int .i64 0, .int .i64 0]) ?_
 refine Jr (.bd [.int .u8 27, .int .i64 0, .int .i64 0, .int .i64 0]) ?_
 refine To.sn [.int .u8 29, .int .i64 0, .int .i64 0, .int .i64 0, .int .u8 1, .int .i64 0, .int .i64 0, .int .i64 1, .int .u8 28, .int .i64 8, .int .i64 0, .int .i64 0, .int .u8 29, .int .i64 0, .int .i64 0, .int .i64 0, .int .u8 2, .int .i64 0, .int .i64 0, .int .i64 0, .int .u8 1, .int .i64 0, .int .i64 0, .int .i64 1, .int .u8 14, .int .i64 0, .int .i64 0, .int .i64 0, .int .u8 24, .int .i64 0, .int .i64 0, .int .i64 0, .int .u8 27, .int .i64 0, .int .i64 0, .int .i64 0] fun b13=>?_
 refine Jas [rows Ins.cells 116 4 (some ⟨b13,0,none⟩) 9 exC0,tabC] rfl (Jr (.bd [.int .i64 0, .int .i64 2, .slice (some ⟨b13,0,none⟩) 9 9]) ?_)
 refine Jal fun b1=>?_
 refine Jz 7 ?_
 refine Jr (Rd.ixr (l:=exC0) (i:=1) (j:=2) rfl rfl rfl s41 rfl he2) ?_
 refine Jz 1 ?_
 refine To.u (Up.store (i:=1) rfl rfl rfl c3 rfl rfl (row_takes (size:=4) (n:=9) (off:=9) (xs:=exC0.flatMap Ins.cells) (ds:=exC.flatMap Ins.cells) (by decide) (by simp) rfl)) ?_
 refine Jz 3 ?_
 refine Jas [box b1 [.int .i64 0, .int .i64 2, .slice (some ⟨b13,0,none⟩) 9 9] 43,rows Ins.cells 116 4 (some ⟨b13,0,none⟩) 9 exC,tabC] rfl (Jfree (c:=ros Tb.cells none ([]:List Tb)) rfl rfl (fun w=> .inl rfl) (JnilS (enc:=encEn) (Jfree (c:=ros encEn none ([]:List (Int×Int))) rfl rfl (fun w=> .inl rfl) (Jfree (c:=ros encI none ([]:List Int)) rfl rfl (fun w=> .inl rfl) (Jfree (c:=ros encB none ([]:List Bool)) rfl rfl (fun w=> .inl rfl) (Jz 2 ?_))))))
 refine To.sn [.int .i64 5] fun b21=>?_
 refine Jr (.bd [.slice (some ⟨b21,0,none⟩) 1 1, .slice none 0 0, .slice none 0 0]) ?_
 refine Jr (.bd [.slice none 0 0, .int .i64 0, .slice none 0 0, .int .i64 0, .slice none 0 0]) ?_
 refine Jqf (runEx_fn (some ⟨b13,0,none⟩) (some ⟨b21,0,none⟩) 9) rfl (ocs (oks_row 7 rfl) (ocs (oks_row 0 rfl) (ocs (oca 5 rfl) (ocs (oca 4 rfl) (ocs (oca 3 rfl) (ocs (oca 2 rfl) (ocs (oca 1 rfl) (ocs (oca 2 rfl) (ocs (oca 8 rfl) (ocn _)))))))))) ?_
 rintro _ _ ⟨d',rfl,rfl,hv⟩
 refine⟨rfl,?_⟩
 refine Jz 3 ?_
 refine Jal fun b2=>?_
 refine Jz 5 ?_
 rw[ex_run2]at hv
 have hr1:(⟨[105],[],[],[faultE],200,[],1,0,0,true⟩:Dv).vars=[105]:=rfl
 have hr2:(⟨[105],[],[],[faultE],200,[],1,0,0,true⟩:Dv).cost=200:=rfl
 have hr3:(⟨[105],[],[],[faultE],200,[],1,0,0,true⟩:Dv).effs=[faultE]:=rfl
 have hvars:d'.vars=[105]:=by have:=congrArg Dv.vars hv;simpa[Dm.val]using this.trans hr1
 have hcost:d'.cost=200:=by have:=congrArg Dv.cost hv;simpa[Dm.val]using this.trans hr2
 obtain⟨e0,hef,hk⟩:=one_of (by have:=congrArg Dv.effs hv;exact this.trans hr3)
 have hk:e0.k=5:=hk
 rw[hvars,hcost,hef]
 refine Jz 19 ?_
 refine Jr (Rd.ixr (i:=1) (j:=0) rfl rfl rfl s28 rfl (show[(105:Int)][0]?=some 105 from rfl)) ?_
 refine Jr (Rd.ld (i:=1) rfl rfl c2 rfl (gives_1 (rwg encI_ok (show[(105:Int)][0]?=some 105 from rfl)) rfl)) ?_
 refine Jz 11 ?_
 refine Jr (Rd.ixr (i:=2) (j:=0) rfl rfl rfl s68 rfl (show[e0][0]?=some e0 from rfl)) ?_
 refine Jz 1 ?_
 refine Jr (Rd.ld (i:=2) rfl rfl c84 rfl (gvt (f:=0) (rwg encEf (show[e0][0]?=some e0 from rfl)) rfl)) ?_
 refine Jz 6 ?_
 refine Je1 results10 ?_
 exact congrArg Value.bool (decide_eq_true hk)
end Go.Proofs.YtlihklladkagpaaGreatDoor
