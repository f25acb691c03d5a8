/- Own text. -/
import Derived.Test.YtllalpnmagpkfaaGreatDoorCa
set_option linter.unusedVariables false
set_option linter.unusedSimpArgs false
set_option maxHeartbeats 2000000
set_option maxRecDepth 100000
namespace Go.Proofs.YtllalpnmagpkfaaGreatDoor
open Go.Proofs.Tryz
open Go.RowKit Go.Flow Go.Mem Go.Sep
def Ins.rc(e:Ins):List Value:=[nv e.op, .int .i64 e.a, .int .i64 e.b, .int .i64 e.n]
instance encRi:Enc Ins.rc 4:=⟨fun _=>rfl,fun e u hu=>by
 simp only[Ins.rc,List.mem_cons,List.not_mem_nil,or_false]at hu
 rcases hu with rfl|rfl|rfl|rfl<;>rfl⟩
def uA(o:Int):Bool:=decide ((2≤o∧o≤4)∨(6≤o∧o≤8)∨(24≤o∧o≤28)∨o=30∨o=33)
def uB(o:Int):Bool:=decide (30≤o∧o≤33)
def uN(o:Int):Bool:=decide (o=1∨o=30∨o=31)
def jR(x:Ins):Int:=if((x.op:Nat):Int)=27∨((x.op:Nat):Int)=28 then x.a else if((x.op:Nat):Int)=32∨((x.op:Nat):Int)=33 then x.b else-1
def mvP(x:Ins):Int:=if((x.op:Nat):Int)≤5∨((x.op:Nat):Int)=8 then 0 else if((x.op:Nat):Int)≤10 then 1 else if((x.op:Nat):Int)≤23 then 2 else
 if((x.op:Nat):Int)=24∨((x.op:Nat):Int)=26∨((x.op:Nat):Int)=28∨((x.op:Nat):Int)=33 then 1 else if((x.op:Nat):Int)=25∨((x.op:Nat):Int)=32 then 2 else
 if((x.op:Nat):Int)=30 then x.n else if((x.op:Nat):Int)=31 then x.n+1 else 0
def mvQ(x:Ins):Int:=if((x.op:Nat):Int)≤23 then 1 else 0
theorem rjump_fn(x:Ins):
    Dz 105 [.agg (Ins.rc x).toArray] [] (fun v _=>v= .int .i64 (jR x)):=by
 refine Does.en func105 ntmps105 fun w0=>?_
 refine Js (To.g (Jbo fun b1=>?_))
 refine Jz 18 ?_
 refine Jcp rfl ?_ ?_<;>intro k5
 refine Jsp (Jt (JcondT (congrArg (fun b=>some (Value.bool b)) (decide_eq_true k5)) (Jz 10 ?_)))
 refine Je1 results105 ?_
 simp[jR,k5]
 refine Jz 5 ?_
 refine Jcp rfl ?_ ?_<;>intro k5_2
 refine Jz 10 ?_
 refine Je1 results105 ?_
 simp[jR,k5_2]
 refine Jz 7 ?_
 refine Jcp rfl ?_ ?_<;>intro k10
 refine Jsp (Jt (JcondT (congrArg (fun b=>some (Value.bool b)) (decide_eq_true k10)) (Jz 10 ?_)))
 refine Je1 results105 ?_
 simp[jR,k10]
 refine Jz 5 ?_
 refine Jcp rfl ?_ ?_<;>intro k10_2
 refine Jz 10 ?_
 refine Je1 results105 ?_
 simp[jR,k10_2]
 refine Jz 9 ?_
 refine Je1 results105 ?_
 simp[jR,k5,k5_2,k10,k10_2]
theorem rmoves_fn(x:Ins)(hn:((x.op:Nat):Int)=31→0≤x.n∧x.n≤4):
    Dz 104 [.agg (Ins.rc x).toArray] [] (fun v _=>v= .tuple #[.int .i64 (mvP x), .int .i64 (mvQ x)]):=by
 refine Does.en func104 ntmps104 fun w0=>?_
 refine Js (To.g (Jbo fun b1=>?_))
 refine Jz 11 ?_
 refine JgP ?_ ?_<;>intro g8
 refine Jz 17 ?_
 refine Jend2 (.inl rfl) results104 rfl rfl ?_
 have e1:mvP x=0:=by simp only[mvP];(repeat' split)<;>omega
 have e2:mvQ x=1:=by simp only[mvQ];split<;>omega
 rw[e1,e2]
 refine Jz 7 ?_
 refine Jcp rfl ?_ ?_<;>intro k4
 refine Jz 9 ?_
 refine Jend2 (.inl rfl) results104 rfl rfl ?_
 have e1:mvP x=0:=by simp only[mvP];(repeat' split)<;>omega
 have e2:mvQ x=1:=by simp only[mvQ];split<;>omega
 rw[e1,e2]
 refine Jz 8 ?_
 refine Jcp rfl ?_ ?_<;>intro k13
 refine Jz 9 ?_
 refine Jend2 (.inl rfl) results104 rfl rfl ?_
 have e1:mvP x=1:=by simp only[mvP];(repeat' split)<;>omega
 have e2:mvQ x=1:=by simp only[mvQ];split<;>omega
 rw[e1,e2]
 refine Jz 8 ?_
 refine Jcp rfl ?_ ?_<;>intro k17
 refine Jz 9 ?_
 refine Jend2 (.inl rfl) results104 rfl rfl ?_
 have e1:mvP x=2:=by simp only[mvP];(repeat' split)<;>omega
 have e2:mvQ x=1:=by simp only[mvQ];split<;>omega
 rw[e1,e2]
 refine Jz 5 ?_
 refine JgP ?_ ?_<;>intro g25
 refine Jz 27 ?_
 refine Jend2 (.inl rfl) results104 rfl rfl ?_
 have e1:mvP x=1:=by simp only[mvP];(repeat' split)<;>omega
 have e2:mvQ x=0:=by simp only[mvQ];split<;>omega
 rw[e1,e2]
 refine Jz 4 ?_
 refine JgP ?_ ?_<;>intro g30
 refine Jz 22 ?_
 refine Jend2 (.inl rfl) results104 rfl rfl ?_
 have e1:mvP x=1:=by simp only[mvP];(repeat' split)<;>omega
 have e2:mvQ x=0:=by simp only[mvQ];split<;>omega
 rw[e1,e2]
 refine Jz 4 ?_
 refine JgP ?_ ?_<;>intro g35
 refine Jz 17 ?_
 refine Jend2 (.inl rfl) results104 rfl rfl ?_
 have e1:mvP x=1:=by simp only[mvP];(repeat' split)<;>omega
 have e2:mvQ x=0:=by simp only[mvQ];split<;>omega
 rw[e1,e2]
 refine Jz 7 ?_
 refine Jcp rfl ?_ ?_<;>intro k21
 refine Jz 9 ?_
 refine Jend2 (.inl rfl) results104 rfl rfl ?_
 have e1:mvP x=1:=by simp only[mvP];(repeat' split)<;>omega
 have e2:mvQ x=0:=by simp only[mvQ];split<;>omega
 rw[e1,e2]
 refine Jz 5 ?_
 refine JgP ?_ ?_<;>intro g44
 refine Jz 17 ?_
 refine Jend2 (.inl rfl) results104 rfl rfl ?_
 have e1:mvP x=2:=by simp only[mvP];(repeat' split)<;>omega
 have e2:mvQ x=0:=by simp only[mvQ];split<;>omega
 rw[e1,e2]
 refine Jz 7 ?_
 refine Jcp rfl ?_ ?_<;>intro k40
 refine Jz 9 ?_
 refine Jend2 (.inl rfl) results104 rfl rfl ?_
 have e1:mvP x=2:=by simp only[mvP];(repeat' split)<;>omega
 have e2:mvQ x=0:=by simp only[mvQ];split<;>omega
 rw[e1,e2]
 refine Jz 8 ?_
 refine Jcp rfl ?_ ?_<;>intro k49
 refine Jz 11 ?_
 refine Jend2 (.inl rfl) results104 rfl rfl ?_
 have e1:mvP x=x.n:=by simp only[mvP];(repeat' split)<;>omega
 have e2:mvQ x=0:=by simp only[mvQ];split<;>omega
 rw[e1,e2]
 refine Jz 8 ?_
 refine Jcp rfl ?_ ?_<;>intro k55
 refine Jz 4 ?_
 refine Jr (Rd.add64 rfl rfl rfl om) ?_
 refine Jz 7 ?_
 refine Jend2 (.inl rfl) results104 rfl rfl ?_
 have e1:mvP x=x.n+1:=by simp only[mvP];(repeat' split)<;>omega
 have e2:mvQ x=0:=by simp only[mvQ];split<;>omega
 rw[e1,e2]
 refine Jz 10 ?_
 refine Jend2 (.inl rfl) results104 rfl rfl ?_
 have e1:mvP x=0:=by simp only[mvP];(repeat' split)<;>omega
 have e2:mvQ x=0:=by simp only[mvQ];split<;>omega
 rw[e1,e2]
def formR(pr:Int)(nc:Nat)(x:Ins):Bool:=!((decide (((x.op:Nat):Int)<1))||decide (34<((x.op:Nat):Int)))&&(!((!uA ((x.op:Nat):Int)&&decide (x.a≠0))||((!uB ((x.op:Nat):Int)&&decide (x.b≠0))||(!uN ((x.op:Nat):Int)&&decide (x.n≠0))))&&(!((uA ((x.op:Nat):Int)&&(!((decide (((x.op:Nat):Int)=27))||decide (((x.op:Nat):Int)=28))&&(decide (x.a<0)||decide (63<x.a))))||(decide (((x.op:Nat):Int)=3)&&decide (pr≤x.a)))&&(!(((decide (((x.op:Nat):Int)=30))||decide (((x.op:Nat):Int)=31))&&(decide (x.b<0)||(decide (63<x.b)||(decide (x.n<0)||decide (4<x.n)))))&&(!(((decide (((x.op:Nat):Int)=27))||decide (((x.op:Nat):Int)=28))||(decide (((x.op:Nat):Int)=32)||decide (((x.op:Nat):Int)=33)))||(decide (0≤jR x)&&decide (jR x≤((nc:Nat):Int)))))))
def mR(y:Int):Int:=if y<0 then 0 else y
def goesR(x:Ins)(i:Nat):List Int:=(if((x.op:Nat):Int)≠27∧((x.op:Nat):Int)≠34 then [((i+1:Nat):Int)]else [])++(if 0≤jR x then [jR x]else [])
def putR1(v:Int)(s:List Int×Bool)(k:Int):List Int×Bool:=(if s.1.getD k.toNat 0<0 then s.1.set k.toNat v else s.1,s.2&& !(decide (0≤s.1.getD k.toNat 0∧s.1.getD k.toNat 0≠v)))
def vR(m:Int)(x:Ins):Int:=m-mvP x+mvQ x
def stepR(h:List Int)(most:Int)(ok:Bool)(i:Nat)(x:Ins):Option (List Int×Int×Bool):=
 let m:=mR (h.getD i 0)
 if m<mvP x∨(((x.op:Nat):Int)=34∧m≠0)then none else
 let r:=(goesR x i).foldl (putR1 (vR m x)) (if h.getD i 0<0 then h.set i 0 else h,ok)
 some (r.1,max (max most m) (vR m x),r.2)
def goR:Nat→List Ins→List Int→Int→Bool→Int×Bool
 |i,[],h,most,ok=>(most,ok&&decide (h.getD i 0≤0))
 | i,x::r,h,most,ok=>match stepR h most ok i x with
   |none=>(most,false)
   |some p=>goR (i+1) r p.1 p.2.1 p.2.2
def heightR(l:List Ins):Int×Bool:=goR 0 l (List.replicate (l.length+1) (-1)) 0 true
theorem goR_none{l:List Ins}{i:Nat}{x:Ins}{h:List Int}{most:Int}{ok:Bool}(hx:l[i]?=some x)(hs:stepR h most ok i x=none):goR i (l.drop i) h most ok=(most,false):=by
 rw[dog hx,goR,hs]
theorem goR_some{l:List Ins}{i:Nat}{x:Ins}{h h':List Int}{most most':Int}{ok ok':Bool}(hx:l[i]?=some x)(hs:stepR h most ok i x=some (h',most',ok')):goR i (l.drop i) h most ok=goR (i+1) (l.drop (i+1)) h' most' ok':=by
 rw[dog hx,goR,hs]
theorem goR_end{l:List Ins}{i:Nat}{h:List Int}{most:Int}{ok:Bool}(hi:i=l.length):goR i (l.drop i) h most ok=(most,ok&&decide (h.getD l.length 0≤0)):=by
 subst hi;rw[List.drop_eq_nil_of_le (Nat.le_refl _),goR]
theorem rform_facts{pr:Int}{nc:Nat}{x:Ins}(h:formR pr nc x=true):(((x.op:Nat):Int)=30∨((x.op:Nat):Int)=31→0≤x.n∧x.n≤4)∧jR x≤nc:=by
 unfold formR at h
 simp only[Bool.and_eq_true,Bool.or_eq_true,decide_eq_true_eq,Bool.not_eq_true',Bool.and_eq_false_iff,Bool.or_eq_false_iff,decide_eq_false_iff_not]at h
 obtain⟨_,_,_,h9,h11⟩:=h
 constructor
 ·omega
 · unfold jR
   unfold jR at h11
   split<;>omega
theorem mv_bound{x:Ins}(h:((x.op:Nat):Int)=30∨((x.op:Nat):Int)=31→0≤x.n∧x.n≤4):0≤mvP x∧mvP x≤5∧0≤mvQ x∧mvQ x≤1:=by
 unfold mvP mvQ
 refine⟨?_,?_,?_,?_⟩<;>(repeat' split)<;>omega
theorem goes_len(x:Ins)(i:Nat):(goesR x i).length≤2:=by
 unfold goesR
 rw[lap]
 split<;>split<;>simp
theorem goes_mem{x:Ins}{i n:Nat}(hi:i<n)(hj:jR x≤n):∀k∈goesR x i,0≤k∧k≤((n:Nat):Int):=by
 intro k hk
 unfold goesR at hk
 rcases List.mem_append.1 hk with h|h
 · split at h
   ·rw[List.mem_singleton.1 h];omega
   ·cases h
 · split at h
   ·rw[List.mem_singleton.1 h];omega
   ·cases h
theorem rheight_fn(pr st:Int)(A:OA)(q:Nat)(l:List Ins)(hl:l.length≤4000)(hform:∀x∈l,formR pr l.length x=true):
    Dz 45 [.agg #[.int .i64 pr, .int .i64 st, .slice A l.length q]] [ros Ins.rc A l] (fun v _=>v= .tuple #[.int .i64 (heightR l).1, .bool (heightR l).2]):=by
 refine Does.en func45 ntmps45 fun w0=>?_
 refine Js (To.g (Jbo fun b1=>?_))
 refine Jz 6 ?_
 refine Jmk rfl rfl rfl (Mk.slice0R (α:=Int) (enc:=encI) rfl s203) ?_
 rintro _ _ ⟨A0,rfl,rfl⟩
 refine Jz 10 ?_
 refine Jonly [1,0,0] rfl (To.loG (fun s g mz ρ Γ=>∃(Ah:OA) (qh:Nat) (h:List Int) (k:Nat),ρ=[s 1,(4, .slice Ah h.length qh),(5,nv k)]∧Γ=[g 0,rows encI 3 1 Ah qh h,g 2]∧mz=l.length+1-k∧(k≤l.length+1)∧(h=List.replicate k (-1))) ⟨⟨A0,0,([]:List Int),0,rfl,rfl,rfl,om,rfl⟩,sb⟩ ?_)
 rintro mz _ _ ⟨Ah,qh,h,k,rfl,rfl,rfl,hk,hh⟩
 have hhl:h.length=k:=by rw[hh,List.length_replicate]
 refine Jz 10 ?_
 refine Jcp rfl ?_ ?_<;>intro c22
 refine Jz 6 ?_
 refine To.sn [.int .i64 (-1)] fun b26=>?_
 refine Jge rfl rfl rfl (Ge.append1 encI_ok (i:=2) (j:=0) (el:=(-1)) rfl s203 rfl rfl rfl rfl rfl om om) ?_
 rintro _ _ ⟨A27,q27,rfl,rfl⟩
 refine Jz 10 ?_
 refine Jonly [1,1,1] rfl (To.agT ⟨⟨A27,q27,(h++[-1]),k+1,rfl,rfl,rfl,om,(by rw[hh,List.replicate_succ'])⟩,sb⟩)
 refine Jz 25 ?_
 have hh0:h=List.replicate (l.length+1) (-1):=by rw[hh,show k=l.length+1 from by omega]
 subst hh0
 refine Jonly [0,0,0] rfl (To.loG (fun s g mz ρ Γ=>∃(h:List Int) (most:Int) (ok:Bool) (i:Nat),ρ=[s 1,(4, .slice Ah h.length qh),(6, .int .i64 most),(7, .bool ok),s 29,s 30,(31,nv i)]∧Γ=[g 0,rows encI 3 1 Ah qh h,g 2]∧mz=l.length-i∧(i≤l.length)∧(h.length=l.length+1)∧(∀y0∈h,(-1:Int)≤y0∧y0≤((i:Nat):Int))∧(heightR l=goR i (l.drop i) h most ok)) ⟨⟨(List.replicate (l.length+1) (-1)),0,true,0,rfl,rfl,rfl,om,(by simp),(fun y0 hy0=>by rw[List.eq_of_mem_replicate hy0];omega),rfl⟩,sb⟩ ?_)
 rintro mz _ _ ⟨h,most,ok,i,rfl,rfl,rfl,hi,hhl,hB,hI⟩
 refine Jz 6 ?_
 refine Jcp rfl ?_ ?_<;>intro c32
 obtain⟨x,hx⟩:=exg l i om
 obtain⟨y,hy⟩:=exg h i om
 have hyb:=hB y (mog hy)
 have hix:i<h.length:=om
 refine Jz 9 ?_
 refine Jal fun b9=>?_
 refine Jz 14 ?_
 refine JmeetC (T:=(List Int)×(Int)) (fun t=>([(1,pv b1),(6, .int .i64 most),(7, .bool ok),(9,pv b9),(29, .slice A l.length q),(30,nv l.length),(31,nv i),(4, .slice Ah (t.1).length qh),(8,nv i)],[box b9 [nv x.op, .int .i64 x.a, .int .i64 x.b, .int .i64 x.n] 54,box b1 [.int .i64 pr, .int .i64 st, .slice A l.length q] 37,rows encI 3 1 Ah qh (t.1),ros Ins.rc A l])) (fun t=>((t.1)=if h.getD i 0<0 then h.set i 0 else h)∧((t.1).length=l.length+1)∧((t.1)[i]?=some (t.2))∧(∀y0∈(t.1),(-1:Int)≤y0∧y0≤((i:Nat):Int))∧(mR (h.getD i 0)=(t.2))∧(0≤(t.2)∧(t.2)≤((i:Nat):Int))) ?_ ?_
 refine Jcp rfl ?_ ?_<;>intro c40
 refine Jz 4 ?_
 refine To.u (Up.store (i:=2) rfl rfl rfl c3 rfl rfl (rows_takes encI_ok (y:=0) (by decide) om)) ?_
 refine Jn (Jt (Jonly [0,0,0,0] rfl (Jhe ((h.set i 0),mR y) ⟨(by rw[getD_of hy];exact(if_pos om).symm),(by rw[List.length_set];exact hhl),(by rw[show mR y=0 from if_pos om];exact List.getElem?_set_self hix),(all_set hB om),(by rw[getD_of hy]),(by unfold mR;split<;>omega)⟩ ⟨rfl,rfl,rfl,rfl,rfl,rfl,rfl,(congrArg (fun n:Nat=>some (Value.slice Ah n qh)) List.length_set.symm),rfl,trivial⟩ rfl)))
 refine Jsp (Jt (Jonly [0,0,0,0] rfl (Jhe (h,mR y) ⟨(by rw[getD_of hy];exact(if_neg om).symm),hhl,(by rw[show mR y=y from if_neg om];exact hy),hB,(by rw[getD_of hy]),(by unfold mR;split<;>omega)⟩ sb rfl)))
 rintro⟨h1,m⟩ ⟨hh2,hl1,hy1,hB1,hm2,hmb⟩
 replace hh2:h1=if h.getD i 0<0 then h.set i 0 else h:=hh2
 replace hl1:h1.length=l.length+1:=hl1
 replace hy1:h1[i]?=some m:=hy1
 replace hB1:∀y0∈h1,(-1:Int)≤y0∧y0≤((i:Nat):Int):=hB1
 replace hm2:mR (h.getD i 0)=m:=hm2
 replace hmb:0≤m∧m≤((i:Nat):Int):=hmb
 dsimp only
 have hxf:=rform_facts (hform x (mog hx))
 have hpb:=mv_bound hxf.1
 have hmv:((x.op:Nat):Int)=31→0≤x.n∧x.n≤4:=fun h31=>hxf.1 (.inr h31)
 refine Jz 3 ?_
 refine Jvf (rmoves_fn x hmv) rfl (ocn _) ?_
 refine Jz 10 ?_
 refine Jmeet (T:=Bool) (fun t=>([(1,pv b1),(6, .int .i64 most),(7, .bool ok),(9,pv b9),(29, .slice A l.length q),(30,nv l.length),(31,nv i),(4, .slice Ah h1.length qh),(8,nv i),(10, .int .i64 (mvP x)),(11, .int .i64 (mvQ x)),(66, .bool t)],[box b9 [nv x.op, .int .i64 x.a, .int .i64 x.b, .int .i64 x.n] 54,box b1 [.int .i64 pr, .int .i64 st, .slice A l.length q] 37,rows encI 3 1 Ah qh h1,ros Ins.rc A l])) (fun t=>t=((decide (m<mvP x))||((decide (((x.op:Nat):Int)=34))&&(decide (m≠0))))) ?_ (fun t ht=>?_)
 refine Jz 6 ?_
 refine JgP ?_ ?_<;>intro g55
 refine Jz 13 ?_
 refine Jonly [0,0,0,0] rfl (Jhe true (by simp[g55]) sb rfl)
 refine Jz 3 ?_
 refine JgP ?_ ?_<;>intro g59
 refine Jz 9 ?_
 refine Jonly [0,0,0,0] rfl (Jhe (decide (m≠0)) (by simp[g55,g59]) sb rfl)
 refine Jz 9 ?_
 refine Jonly [0,0,0,0] rfl (Jhe false (by simp[g55,g59]) sb rfl)
 subst ht
 dsimp only
 refine Jcond rfl ?_ ?_<;>intro c66
 simp only[Bool.or_eq_true,Bool.and_eq_true,decide_eq_true_eq]at c66
 refine Jz 14 ?_
 refine Jend2 (.inl rfl) results45 rfl rfl ?_
 rw[show heightR l=(most,false)from by rw[hI];exact goR_none hx (by unfold stepR;simp only[hm2];rw[if_pos om])]
 simp only[Bool.or_eq_false_iff,Bool.and_eq_false_iff,decide_eq_false_iff_not]at c66
 refine Jz 9 ?_
 refine Jr (Rd.sub64 rfl rfl rfl om) ?_
 refine Jm ?_
 refine Jr (Rd.add64 rfl rfl rfl om) ?_
 refine Jz 4 ?_
 refine To.nm ?_
 obtain⟨v,hv⟩:∃z0,z0=((m-(mvP x))+(mvQ x)):=⟨_,rfl⟩
 rw[←hv]
 have hv2:vR m x=v:=by rw[hv,vR]
 have hvb:0≤v∧v≤i+1:=om
 refine Jz 7 ?_
 refine Jr (Rd.max3 rfl rfl rfl rfl) ?_
 refine Jz 4 ?_
 refine To.nm ?_
 obtain⟨most',hmost'⟩:∃z0,z0=(max (max most m) v):=⟨_,rfl⟩
 rw[←hmost']
 refine To.g (Jmk rfl rfl rfl (Mk.slice0R (α:=Int) (enc:=encI) rfl s203) ?_)
 rintro _ _ ⟨A5,rfl,rfl⟩
 refine Jz 6 ?_
 refine Jmeet (T:=Bool) (fun t=>([(1,pv b1),(6, .int .i64 most'),(7, .bool ok),(9,pv b9),(29, .slice A l.length q),(30,nv l.length),(31,nv i),(4, .slice Ah h1.length qh),(8,nv i),(12, .int .i64 v),(13, .slice A5 (([]:List Int).length) 0),(91, .bool t)],[rows encI 3 1 A5 0 ([]:List Int),box b9 [nv x.op, .int .i64 x.a, .int .i64 x.b, .int .i64 x.n] 54,box b1 [.int .i64 pr, .int .i64 st, .slice A l.length q] 37,rows encI 3 1 Ah qh h1,ros Ins.rc A l])) (fun t=>t=((decide (((x.op:Nat):Int)≠27))&&decide (((x.op:Nat):Int)≠34))) ?_ (fun t ht=>?_)
 refine Jz 3 ?_
 refine JgP ?_ ?_<;>intro g87
 refine Jz 6 ?_
 refine Jonly [0,0,0,0,0] rfl (Jhe (decide (((x.op:Nat):Int)≠34)) (by simp[g87]) sb rfl)
 refine Jz 6 ?_
 refine Jonly [0,0,0,0,0] rfl (Jhe false (by simp[g87]) sb rfl)
 subst ht
 dsimp only
 refine JmeetC (T:=(OA)×(Nat)×(List Int)) (fun t=>([(1,pv b1),(4, .slice Ah h1.length qh),(6, .int .i64 most'),(7, .bool ok),(8,nv i),(9,pv b9),(12, .int .i64 v),(13, .slice (t.1) (t.2.2).length (t.2.1)),(29, .slice A l.length q),(30,nv l.length),(31,nv i)],[box b9 [nv x.op, .int .i64 x.a, .int .i64 x.b, .int .i64 x.n] 54,box b1 [.int .i64 pr, .int .i64 st, .slice A l.length q] 37,rows encI 3 1 Ah qh h1,ros Ins.rc A l,rows encI 3 1 (t.1) (t.2.1) (t.2.2)])) (fun t=>((t.2.2)=(if((x.op:Nat):Int)≠27∧((x.op:Nat):Int)≠34 then [((i+1:Nat):Int)]else []))∧((t.2.2).length≤1)) ?_ ?_
 refine Jcond rfl ?_ ?_<;>intro c91
 refine Jz 4 ?_
 refine To.sn [nv (i+1)] fun b95=>?_
 refine Jge rfl rfl rfl (Ge.append1 encI_ok (i:=1) (j:=0) (el:=((i+1:Nat):Int)) rfl s203 rfl rfl rfl rfl rfl om om) ?_
 rintro _ _ ⟨A96,q96,rfl,rfl⟩
 refine Jz 3 ?_
 refine Jonly [2,2,2,2,1] rfl (Jhe (A96,q96,([]:List Int)++[((i+1:Nat):Int)]) ⟨(by simp only[Bool.and_eq_true,decide_eq_true_eq]at c91;rw[if_pos c91];rfl),(by simp)⟩ sb rfl)
 refine Jsp (Jt (Jonly [1,1,1,1,0] rfl (Jhe (A5,0,([]:List Int)) ⟨(by rw[if_neg (fun h=>by rw[decide_eq_true h.1,decide_eq_true h.2]at c91;cases c91)]),(by simp)⟩ sb rfl)))
 rintro⟨Ag,qg,gs⟩ ⟨hgs1,hgl1⟩
 replace hgs1:gs=(if((x.op:Nat):Int)≠27∧((x.op:Nat):Int)≠34 then [((i+1:Nat):Int)]else []):=hgs1
 replace hgl1:gs.length≤1:=hgl1
 dsimp only
 refine Jz 4 ?_
 refine Jvf (rjump_fn x) rfl (ocn _) ?_
 refine Jz 9 ?_
 refine JmeetC (T:=(OA)×(Nat)×(List Int)) (fun t=>([(1,pv b1),(4, .slice Ah h1.length qh),(6, .int .i64 most'),(7, .bool ok),(8,nv i),(12, .int .i64 v),(13, .slice (t.1) (t.2.2).length (t.2.1)),(29, .slice A l.length q),(30,nv l.length),(31,nv i)],[box b1 [.int .i64 pr, .int .i64 st, .slice A l.length q] 37,rows encI 3 1 Ah qh h1,ros Ins.rc A l,rows encI 3 1 (t.1) (t.2.1) (t.2.2)])) (fun t=>((t.2.2)=goesR x i)) ?_ ?_
 refine Jcp rfl ?_ ?_<;>intro c100
 refine Jz 3 ?_
 refine To.sn [.int .i64 (jR x)] fun b103=>?_
 refine Jge rfl rfl rfl (Ge.append1 encI_ok (i:=5) (j:=0) (el:=(jR x)) rfl s203 rfl rfl rfl rfl rfl om om) ?_
 rintro _ _ ⟨A104,q104,rfl,rfl⟩
 refine Jz 3 ?_
 refine Jonly [2,2,2,2] rfl (Jhe (A104,q104,gs++[(jR x)]) (by rw[goesR,←hgs1,if_pos c100]) sb rfl)
 refine Jsp (Jt (Jonly [1,1,1,1] rfl (Jhe (Ag,qg,gs) (by rw[goesR,←hgs1,if_neg c100,List.append_nil]) sb rfl)))
 rintro⟨Ag2,qg2,gs2⟩ hgs2
 replace hgs2:gs2=goesR x i:=hgs2
 dsimp only
 have hgm:∀k∈gs2,0≤k∧k≤((l.length:Nat):Int):=by rw[hgs2];exact goes_mem om hxf.2
 have hgl:gs2.length≤2:=by rw[hgs2];exact goes_len x i
 refine Jz 8 ?_
 refine Jonly [0,0,1,0] rfl (To.loG (fun s g mz ρ Γ=>∃(h2:List Int) (ok2:Bool) (j:Nat),ρ=[s 1,(4, .slice Ah h2.length qh),s 6,(7, .bool ok2),s 12,s 29,s 30,s 31,s 105,s 106,(107,nv j)]∧Γ=[g 0,rows encI 3 1 Ah qh h2,g 2,g 3]∧mz=gs2.length-j∧(j≤gs2.length)∧(h2.length=l.length+1)∧(∀y0∈h2,(-1:Int)≤y0∧y0≤((i+1:Nat):Int))∧(gs2.foldl (putR1 v) (if h.getD i 0<0 then h.set i 0 else h,ok)=(gs2.drop j).foldl (putR1 v) (h2,ok2))) ⟨⟨h1,ok,0,rfl,rfl,rfl,om,hl1,(fun y0 h0=>by have:=hB1 y0 h0;omega),(by rw[←hh2];rfl)⟩,sb⟩ ?_)
 rintro mz _ _ ⟨h2,ok2,j,rfl,rfl,rfl,hj,hl2,hB2,hJ⟩
 refine Jz 6 ?_
 refine Jcp rfl ?_ ?_<;>intro c108
 obtain⟨z5,hz⟩:=exg gs2 j om
 refine Jz 13 ?_
 have hz5:=hgm z5 (mog hz)
 obtain⟨tn,htn⟩:∃tn:Nat,z5=((tn:Nat):Int):=⟨z5.toNat,by omega⟩
 subst htn
 obtain⟨y6,hy6⟩:=exg h2 tn om
 refine To.g (Jmeet (T:=Bool) (fun t=>([(1,pv b1),(4, .slice Ah h2.length qh),(6, .int .i64 most'),(7, .bool ok2),(12, .int .i64 v),(29, .slice A l.length q),(30,nv l.length),(31,nv i),(105, .slice Ag2 gs2.length qg2),(106,nv gs2.length),(107,nv j),(16,nv tn),(123, .bool t)],[box b1 [.int .i64 pr, .int .i64 st, .slice A l.length q] 37,rows encI 3 1 Ah qh h2,rows encI 3 1 Ag2 qg2 gs2,ros Ins.rc A l])) (fun t=>t=((decide (0≤y6))&&(decide (y6≠v)))) ?_ (fun t ht=>?_))
 refine Jz 5 ?_
 refine JgP ?_ ?_<;>intro g116
 refine Jz 9 ?_
 refine Jonly [0,0,0,0] rfl (Jhe (decide (y6≠v)) (by simp[g116]) sb rfl)
 refine Jz 9 ?_
 refine Jonly [0,0,0,0] rfl (Jhe false (by simp[g116]) sb rfl)
 subst ht
 dsimp only
 refine JmeetC (T:=(Bool)) (fun t=>([(1,pv b1),(4, .slice Ah h2.length qh),(6, .int .i64 most'),(7, .bool (t)),(12, .int .i64 v),(16,nv tn),(29, .slice A l.length q),(30,nv l.length),(31,nv i),(105, .slice Ag2 gs2.length qg2),(106,nv gs2.length),(107,nv j)],[box b1 [.int .i64 pr, .int .i64 st, .slice A l.length q] 37,rows encI 3 1 Ah qh h2,rows encI 3 1 Ag2 qg2 gs2,ros Ins.rc A l])) (fun t=>((t)=(ok2&& !((decide (0≤y6))&&(decide (y6≠v)))))) ?_ ?_
 refine Jcond rfl ?_ ?_<;>intro c123
 refine Jz 4 ?_
 refine Jonly [0,0,0,0] rfl (Jhe (false) (by rw[c123];simp) sb rfl)
 refine Jsp (Jt (Jonly [0,0,0,0] rfl (Jhe (ok2) (by rw[c123];simp) sb rfl)))
 rintro ok3 hok3
 replace hok3:ok3=(ok2&& !((decide (0≤y6))&&(decide (y6≠v)))):=hok3
 dsimp only
 refine Jz 9 ?_
 refine Jcp rfl ?_ ?_<;>intro c128
 refine Jz 5 ?_
 refine To.u (Up.store (i:=1) rfl rfl rfl c3 rfl rfl (rows_takes encI_ok (y:=v) (by decide) om)) ?_
 refine Jz 8 ?_
 have hP:putR1 v (h2,ok2) ((tn:Nat):Int)=((h2.set tn v),ok3):=by
  unfold putR1;simp only[Int.toNat_natCast,getD_of hy6]
  rw[if_pos om,hok3,Bool.decide_and]
 refine Jonly [0,0,0,0] rfl (To.agT ⟨⟨(h2.set tn v),ok3,j+1,rfl,rfl,rfl,om,(by rw[List.length_set];exact hl2),(all_set hB2 om),(by rw[hJ,dog hz,List.foldl_cons,hP])⟩,⟨rfl,(congrArg (fun n:Nat=>some (Value.slice Ah n qh)) List.length_set.symm),rfl,rfl,rfl,rfl,rfl,rfl,rfl,rfl,rfl,trivial⟩⟩)
 refine Jz 8 ?_
 have hP:putR1 v (h2,ok2) ((tn:Nat):Int)=(h2,ok3):=by
  unfold putR1;simp only[Int.toNat_natCast,getD_of hy6]
  rw[if_neg om,hok3,Bool.decide_and]
 refine Jonly [0,0,0,0] rfl (To.agT ⟨⟨h2,ok3,j+1,rfl,rfl,rfl,om,hl2,hB2,(by rw[hJ,dog hz,List.foldl_cons,hP])⟩,sb⟩)
 refine Jz 11 ?_
 have hnf:¬(m<mvP x∨(((x.op:Nat):Int)=34∧m≠0)):=om
 have hS:stepR h most ok i x=some (h2,most',ok2):=by
  unfold stepR;simp only[hm2,hv2,←hgs2];rw[if_neg hnf,hJ,List.drop_eq_nil_of_le om];simp only[List.foldl_nil,←hmost']
 refine Jonly [0,0,1] rfl (To.agT ⟨⟨h2,most',ok2,i+1,rfl,rfl,rfl,om,hl2,hB2,(by rw[hI,goR_some hx hS])⟩,sb⟩)
 refine Jz 6 ?_
 obtain⟨y4,hy4⟩:∃z0,h[l.length]?=some z0:=⟨h[l.length]'om,gge _⟩
 refine Jfw [] [0,1,2,3,4,11,105,6,107,108,9,10,12] (ocn _) ?_
 refine Jz 2 ?_
 refine Fw.rdB rfl rfl rfl rfl (Rd.move rfl rfl) (fun g137=>?_) (fun g137=>?_)
 refine Jz 13 ?_
 refine Jend2 (.inl rfl) results45 rfl rfl ?_
 rw[show heightR l=(most,ok&&decide (y4≤0))from by rw[hI,goR_end om,getD_of hy4]]
 simp[g137]
 refine Jz 13 ?_
 refine Jend2 (.inl rfl) results45 rfl rfl ?_
 rw[show heightR l=(most,ok&&decide (y4≤0))from by rw[hI,goR_end om,getD_of hy4]]
 simp[g137]
theorem uses_all:((List.range 35).all fun o=>o==0||(usesB o 65==uA ((o:Nat):Int)&&usesB o 66==uB ((o:Nat):Int)&&usesB o 78==uN ((o:Nat):Int)))=true:=by kernel_rfl
theorem uses_eq{o:Nat}(h1:1≤o)(h2:o≤34):usesB o 65=uA ((o:Nat):Int)∧usesB o 66=uB ((o:Nat):Int)∧usesB o 78=uN ((o:Nat):Int):=by
 have h:=List.all_eq_true.1 uses_all o (List.mem_range.2 om)
 simp only[Bool.or_eq_true,Bool.and_eq_true,beq_iff_eq]at h
 rcases h with h|⟨⟨ha,hb⟩,hn⟩
 ·omega
 ·exact⟨ha,hb,hn⟩
theorem moves_all:((List.range 35).all fun o=>o==0||((o==31||(rowOf o).pops==mvP ⟨o,0,0,0⟩)&&(rowOf o).pushes==mvQ ⟨o,0,0,0⟩))=true:=by kernel_rfl
theorem row31:(rowOf 31).pops=1:=by kernel_rfl
theorem row30:(rowOf 30).pops=0:=by kernel_rfl
theorem moves_eq{x:Ins}(h1:1≤x.op)(h2:x.op≤34):popsN x=mvP x∧(rowOf x.op).pushes=mvQ x:=by
 have h:(x.op==0||((x.op==31||(rowOf x.op).pops==mvP ⟨x.op,0,0,0⟩)&&(rowOf x.op).pushes==mvQ ⟨x.op,0,0,0⟩))=true:=List.all_eq_true.1 moves_all x.op (List.mem_range.2 om)
 rw[Bool.or_eq_true,Bool.and_eq_true,Bool.or_eq_true]at h
 rcases h with h|⟨hp,hq⟩
 ·have:=eq_of_beq h;omega
 refine⟨?_,eq_of_beq hq⟩
 unfold popsN
 by_cases h30:x.op=30
 · rw[if_pos om,h30,row30]
   unfold mvP
   rw[if_neg om,if_neg om,if_neg om,if_neg om,if_neg om,if_pos om]
   omega
 by_cases h31:x.op=31
 · rw[if_pos om,h31,row31]
   unfold mvP
   rw[if_neg om,if_neg om,if_neg om,if_neg om,if_neg om,if_neg om,if_pos om]
   omega
 rw[if_neg om]
 rcases hp with hp|hp
 ·exact absurd (eq_of_beq hp) h31
 rw[eq_of_beq hp]
 have e30:¬((x.op:Nat):Int)=30:=om
 have e31:¬((x.op:Nat):Int)=31:=om
 simp only[mvP,if_neg e30,if_neg e31]
theorem tgt_jR{x:Ins}:((tgt x).isSome=true→(tgt x).getD 0=jR x)∧((tgt x).isSome=false→jR x=-1)∧((tgt x).isSome=decide (((x.op:Nat):Int)=27∨((x.op:Nat):Int)=28∨((x.op:Nat):Int)=32∨((x.op:Nat):Int)=33)):=by
 unfold tgt jR
 by_cases h1:((x.op:Nat):Int)=27∨((x.op:Nat):Int)=28
 · rw[if_pos h1,if_pos h1];refine⟨fun _=>rfl,(by simp),?_⟩
   exact(decide_eq_true om).symm
 · rw[if_neg h1,if_neg h1]
   by_cases h2:((x.op:Nat):Int)=32∨((x.op:Nat):Int)=33
   · rw[if_pos h2,if_pos h2];refine⟨fun _=>rfl,(by simp),?_⟩
     exact(decide_eq_true om).symm
   · rw[if_neg h2,if_neg h2];refine⟨(by simp),fun _=>rfl,?_⟩
     exact(decide_eq_false om).symm
theorem form_eq{pr:Int}{nc:Nat}{x:Ins}(hp:0≤pr∧pr≤4):formR pr nc x=formedB pr nc x:=by
 obtain⟨o,a,b,n⟩:=x
 by_cases ho:1≤o∧o≤34
 · obtain⟨ea,eb,en⟩:=uses_eq ho.1 ho.2
   rw[Bool.eq_iff_iff]
   unfold formR formedB
   rw[ea,eb,en]
   clear ea eb en
   rcases(by omega:o=1∨o=2∨o=3∨o=4∨o=5∨o=6∨o=7∨o=8∨o=9∨o=10∨o=11∨o=12∨o=13∨o=14∨o=15∨o=16∨o=17∨o=18∨o=19∨o=20∨o=21∨o=22∨o=23∨o=24∨o=25∨o=26∨o=27∨o=28∨o=29∨o=30∨o=31∨o=32∨o=33∨o=34)with rfl|rfl|rfl|rfl|rfl|rfl|rfl|rfl|rfl|rfl|rfl|rfl|rfl|rfl|rfl|rfl|rfl|rfl|rfl|rfl|rfl|rfl|rfl|rfl|rfl|rfl|rfl|rfl|rfl|rfl|rfl|rfl|rfl|rfl<;>simp[uA,uB,uN,tgt,jR]<;>omega
 · rw[Bool.eq_iff_iff]
   unfold formR formedB
   simp only[Bool.and_eq_true,Bool.or_eq_true,decide_eq_true_eq,Bool.not_eq_true',Bool.or_eq_false_iff,decide_eq_false_iff_not]
   constructor<;>intro h<;>omega
theorem set_same(h:List Int)(i:Nat):h.set i (h.getD i 0)=h:=by
 by_cases hi:i<h.length
 ·rw[List.getD_eq_getElem?_getD,gge hi];exact List.set_getElem_self hi
 ·exact List.set_eq_of_length_le om
theorem put_ok{v:Int}{h:List Int}{ok:Bool}{k:Int}(hk:okH (h.getD k.toNat 0) v):putR1 v (h,ok) k=(h.set k.toNat v,ok):=by
 unfold putR1
 have e:decide (0≤h.getD k.toNat 0∧h.getD k.toNat 0≠v)=false:=decide_eq_false (by unfold okH at hk;omega)
 simp only[e,Bool.not_false,Bool.and_true]
 by_cases hn:h.getD k.toNat 0<0
 ·rw[if_pos hn]
 · rw[if_neg hn]
   have:h.getD k.toNat 0=v:=by unfold okH at hk;omega
   rw[←this,set_same]
theorem put_bad{v:Int}{h:List Int}{ok:Bool}{k:Int}(hk:¬okH (h.getD k.toNat 0) v):(putR1 v (h,ok) k).2=false:=by
 unfold putR1
 have e:decide (0≤h.getD k.toNat 0∧h.getD k.toNat 0≠v)=true:=decide_eq_true (by unfold okH at hk;omega)
 simp only[e,Bool.not_true,Bool.and_false]
theorem put_false{v:Int}{s:List Int×Bool}{k:Int}(h:s.2=false):(putR1 v s k).2=false:=by
 unfold putR1;simp only[h,Bool.false_and]
theorem fold_false{v:Int}:∀(l:List Int) (s:List Int×Bool),s.2=false→(l.foldl (putR1 v) s).2=false
 |[],_,h=>h
 |_::r,_,h=>fold_false r _ (put_false h)
theorem stepR_false{h:List Int}{most:Int}{i:Nat}{x:Ins}{p:List Int×Int×Bool}(hp:stepR h most false i x=some p):p.2.2=false:=by
 unfold stepR at hp
 simp only at hp
 split at hp
 ·cases hp
 ·rw[←Option.some.inj hp];exact fold_false _ _ rfl
theorem goR_false:∀(l:List Ins) (i:Nat) (h:List Int) (most:Int),(goR i l h most false).2=false
 |[],i,h,most=>by simp[goR]
 | x ::r,i,h,most=>by
   rw[goR]
   cases hs:stepR h most false i x with
   |none=>rfl
   | some p=>
     obtain⟨h',m',o'⟩:=p
     have:o'=false:=stepR_false hs
     subst this
     exact goR_false r _ _ _
theorem step_eq{pr:Int}{nc:Nat}{h:List Int}{top:Int}{i:Nat}{x:Ins}(hf:formedB pr nc x=true):
    (∀p,stepH h top i x=some p→stepR h top true i x=some (p.1,p.2,true))∧
    (stepH h top i x=none→∀p,stepR h top true i x=some p→p.2.2=false):=by
 have hff:=form_facts hf
 have ho:1≤x.op∧x.op≤34:=by
  unfold formedB at hf
  simp only[Bool.and_eq_true,decide_eq_true_eq]at hf
  omega
 obtain⟨ep,eq⟩:=moves_eq ho.1 ho.2
 obtain⟨ht1,ht2,ht3⟩:=tgt_jR (x:=x)
 have em:mR (h.getD i 0)=max (h.getD i 0) 0:=by unfold mR;split<;>omega
 have e1:(if h.getD i 0<0 then h.set i 0 else h)=h.set i (max (h.getD i 0) 0):=by
  by_cases hn:h.getD i 0<0
  ·rw[if_pos hn,show max (h.getD i 0) 0=0 from by omega]
  ·rw[if_neg hn,show max (h.getD i 0) 0=h.getD i 0 from by omega,set_same]
 have ev:∀m,vR m x=aftH m x:=fun m=>by rw[vR,aftH,ep,eq]
 unfold stepR stepH
 simp only[em,e1,ev,ep]
 generalize max (h.getD i 0) 0=m
 by_cases hc:m<mvP x∨(((x.op:Nat):Int)=34∧m≠0)
 · rw[if_pos hc,if_pos hc]
   exact⟨fun p hp=>(by cases hp),fun _ p hp=>(by cases hp)⟩
 · rw [if_neg hc,if_neg hc]
   generalize h.set i m=h1
   generalize aftH m x=v
   have key:(∀h3,((nextH h1 i x v).bind fun h2=>jumpH h2 x v)=some h3→(goesR x i).foldl (putR1 v) (h1,true)=(h3,true))∧
       (((nextH h1 i x v).bind fun h2=>jumpH h2 x v)=none→((goesR x i).foldl (putR1 v) (h1,true)).2=false):=by
    have jmp:∀h2:List Int,(∀h3,jumpH h2 x v=some h3→(if 0≤jR x then [jR x]else []).foldl (putR1 v) (h2,true)=(h3,true))∧
        (jumpH h2 x v=none→((if 0≤jR x then [jR x]else []).foldl (putR1 v) (h2,true)).2=false):=by
     intro h2
     unfold jumpH
     by_cases hs:(tgt x).isSome=true
     · rw[if_pos hs,ht1 hs,if_pos (show 0≤jR x by have:=ht1 hs;omega)]
       by_cases hk:okH (h2.getD (jR x).toNat 0) v
       · rw[if_pos hk]
         exact⟨fun h3 e=>by rw[←Option.some.inj e];exact put_ok hk,fun e=>by cases e⟩
       · rw[if_neg hk]
         exact⟨fun h3 e=>(by cases e),fun _=>put_bad hk⟩
     · have hs':(tgt x).isSome=false:=by simpa using hs
       rw[if_neg hs,if_neg (show¬0≤jR x by have:=ht2 hs';omega)]
       exact⟨fun h3 e=>by rw[←Option.some.inj e];rfl,fun e=>by cases e⟩
    unfold goesR nextH
    by_cases hn:((x.op:Nat):Int)≠27∧((x.op:Nat):Int)≠34
    · rw[if_pos hn,if_pos hn]
      have et:(((i+1:Nat):Int)).toNat=i+1:=Int.toNat_natCast _
      by_cases hk:okH (h1.getD (i+1) 0) v
      · rw[if_pos hk,List.foldl_append]
        simp only[List.foldl_cons,List.foldl_nil,Option.bind_some]
        rw[put_ok (by rw[et];exact hk),et]
        exact jmp _
      · rw[if_neg hk,List.foldl_append]
        simp only[List.foldl_cons,List.foldl_nil,Option.bind_none]
        exact⟨fun h3 e=>(by cases e),fun _=>fold_false _ _ (put_bad (by rw[et];exact hk))⟩
    · rw[if_neg hn,if_neg hn,List.nil_append]
      simp only[Option.bind_some]
      exact jmp _
   constructor
   · intro p hp
     cases hb:(nextH h1 i x v).bind fun h2=>jumpH h2 x v with
     | none=>
       cases hn:nextH h1 i x v with
       |none=>rw[hn]at hp;cases hp
       | some h2=>
         rw[hn]at hp hb
         simp only[Option.bind_some]at hp hb
         rw[hb]at hp;cases hp
     | some h3=>
       rw[key.1 h3 hb]
       cases hn:nextH h1 i x v with
       |none=>rw[hn]at hb;cases hb
       | some h2=>
         rw[hn]at hp hb
         simp only[Option.bind_some]at hp hb
         rw[hb]at hp
         rw[←Option.some.inj hp]
   · intro hp p hr
     rw[←Option.some.inj hr]
     refine key.2 ?_
     cases hn:nextH h1 i x v with
     |none=>rfl
     | some h2=>
       rw[hn]at hp
       simp only[Option.bind_some,Option.map_eq_none_iff]at hp⊢
       exact hp
theorem go_eq{pr:Int}{nc n:Nat}:∀(l:List Ins) (i:Nat) (h:List Int) (top:Int),(∀x∈l,formedB pr nc x=true)→i+l.length=n→
    (∀p,goH i l h top=some p→goR i l h top true=(p.2,decide (p.1.getD n 0≤0)))∧(goH i l h top=none→(goR i l h top true).2=false)
 |[],i,h,top,_,hn=>⟨fun p hp=>by rw[←Option.some.inj hp,goR,Bool.true_and,←hn];rfl,fun hp=>by cases hp⟩
 | x ::r,i,h,top,hf,hn=>by
   have hs:=step_eq (h:=h) (top:=top) (i:=i) (hf x (List.mem_cons_self ..))
   rw[goH,goR]
   cases hh:stepH h top i x with
   | none=>
     refine⟨fun p hp=>(by cases hp),fun _=>?_⟩
     cases hr:stepR h top true i x with
     |none=>rfl
     | some p=>
       obtain⟨h',m',o'⟩:=p
       have:o'=false:=hs.2 hh _ hr
       subst this
       exact goR_false r _ _ _
   | some p=>
     rw[hs.1 p hh]
     exact go_eq r (i+1) p.1 p.2 (fun y hy=>hf y (List.mem_cons_of_mem _ hy)) (by rw[←hn,lc1];omega)
theorem height_eq{pr:Int}{l:List Ins}(hf:∀x∈l,formedB pr l.length x=true):heightR l=heightsV l∨((heightR l).2=false∧(heightsV l).2=false):=by
 have h:=go_eq (n:=l.length) l 0 (List.replicate (l.length+1) (-1)) 0 hf om
 cases hh:goH 0 l (List.replicate (l.length+1) (-1)) 0 with
 |none=>refine .inr ⟨h.2 hh,?_⟩;rw[heights_none hh]
 |some p=>refine .inl ?_;rw[heightR,h.1 p hh,heightsV,hh]
structure Sp where
 t:Nat
 f:Nat
 v:Int
def Sp.cells(e:Sp):List Value:=[.int .u8 ((e.t:Nat):Int), .int .u8 ((e.f:Nat):Int), .int .i32 e.v]
instance encSp:Enc Sp.cells 3:=⟨fun _=>rfl,fun e u hu=>by
 simp only[Sp.cells,List.mem_cons,List.not_mem_nil,or_false]at hu
 rcases hu with rfl|rfl|rfl<;>rfl⟩
theorem back_fn(pr st:Int)(A:OA)(q:Nat)(l:List Ins)(hl:l.length≤1000000)(hop:∀x∈l,x.op<256):
    Dz 17 [.agg #[.int .i64 pr, .int .i64 st, .slice A l.length q]] [ros Ins.rc A l] (fun v Γ'=>∃(B:OA) (q':Nat),v= .agg #[.int .i64 pr, .int .i64 st, .slice B l.length q']∧Γ'=[rows Ins.cells 109 4 B q' l]):=by
 refine Does.en func17 ntmps17 fun w0=>?_
 refine Js (To.g (Jbo fun b1=>?_))
 refine Jal fun b2=>?_
 refine Jz 8 ?_
 refine Jr (.bd [.int .i64 pr, .int .i64 st, .slice none 0 0]) ?_
 refine Jal fun b3=>?_
 refine Jz 13 ?_
 refine JnilRow (Ins.cells) 109 4 (Jonly [3,2,1,1,0] rfl (To.loG (fun s g mz ρ Γ=>∃(Ao:OA) (qo:Nat) (O:List Ins) (i:Nat),ρ=[s 1,s 2,s 3,s 12,s 13,(14,nv i)]∧Γ=[g 0,g 1,box b3 [.int .i64 pr, .int .i64 st, .slice Ao O.length qo] 42,g 3,rows Ins.cells 109 4 Ao qo O]∧mz=l.length-i∧(i≤l.length)∧(O=l.take i)) ⟨⟨none,0,([]:List Ins),0,rfl,rfl,rfl,om,rfl⟩,sb⟩ ?_))
 rintro mz _ _ ⟨Ao,qo,O,i,rfl,rfl,rfl,hi,hO⟩
 have hOl:O.length≤l.length:=by rw[hO,List.length_take];omega
 refine Jz 6 ?_
 refine Jcp rfl ?_ ?_<;>intro k15
 obtain⟨x,hx⟩:=exg l i om
 have hop2:=hop x (mog hx)
 refine Jz 8 ?_
 refine Jal fun b5=>?_
 refine Jz 8 ?_
 refine Jr (Rd.conv rfl rfl underlying3 underlying107 (IntWalk.u8_in _ om)) ?_
 refine Jz 6 ?_
 refine Jr (.bd (Ins.cells x)) ?_
 refine To.sn (Ins.cells x) fun b30=>?_
 refine Jge rfl rfl rfl (Ge.append1 encIn (i:=6) (j:=0) (el:=x) rfl s40 rfl rfl rfl rfl rfl om om) ?_
 rintro _ _ ⟨A31,q31,rfl,rfl⟩
 refine Jz 10 ?_
 refine Jonly [2,2,2,2,2] rfl (To.agT ⟨⟨A31,q31,(O++[x]),i+1,rfl,rfl,rfl,om,(by rw[take_of_get hx,hO])⟩,sb⟩)
 refine Jz 12 ?_
 refine To.ec [4] results17 ?_
 rw[show l.take i=l from List.take_of_length_le om]at hO
 exact⟨_,_,by rw[hO],by rw[hO]⟩
def encY(n:Nat):List Value:=[.int .u8 ((n:Nat):Int)]
instance encY_ok:Enc encY 1:=⟨fun _=>rfl,fun x u hu=>by simp[encY]at hu;subst hu;rfl⟩
section
variable{P:Program}{o:Oper}{ρ:Slots}{Γ:List Chunk}{x y:Operand}{t t':TypeId}{a b j:Nat}
end
end Go.Proofs.YtllalpnmagpkfaaGreatDoor
