/- Own text. -/
import Derived.Test.YtlihklladkagpaaGreatDoorCa
set_option linter.unusedVariables false
set_option linter.unusedSimpArgs false
set_option maxHeartbeats 2000000
set_option maxRecDepth 100000
namespace Go.Proofs.YtlihklladkagpaaGreatDoor
open Go.Proofs.Tryz
open Go.RowKit Go.Flow Go.Mem Go.Sep
def tru(b:Bool):Int:=if b=true then 1 else 0
def unV(op a:Int):Int:=if op=9 then W64 (-a)else if op=10 then tru (decide (a=0))else 0
def unE(op:Int):Int:=if op=9∨op=10 then 0 else 1
def Vu(op:Int):Int:=if op=11∨op=12∨op=13∨op=14∨op=15∨op=16∨op=17∨op=18∨op=19∨op=20∨op=21∨op=22∨op=23 then 0 else 1
def Po(op a b:Int):Int:=if b=0 then 0 else if b=-1∧op=12 then W64 (-a)else if b=-1 then 0 else if op=12 then W64 (a.tdiv b)else a.tmod b
def Ha(op a b:Int):Int:=
 if op=11 then W64 (a*b)else if op=12∨op=13 then Po op a b else if op=14 then W64 (a+b)else if op=15 then W64 (a-b)else
 if op=16 then tru (decide (a=b))else if op=17 then tru (decide (a≠b))else if op=18 then tru (decide (a<b))else if op=19 then tru (decide (a≤b))else
 if op=20 then tru (decide (b<a))else if op=21 then tru (decide (b≤a))else if op=22 then tru (decide (a≠0∧b≠0))else if op=23 then tru (decide (a≠0∨b≠0))else 0
theorem Pf(b:Bool):
    Dz 158 [.bool b] [] (fun v _=>v=iv (tru b)):=by
 refine Am func158 ntmps158 fun w0=>?_
 refine Jz 11 ?_
 refine Ed rfl ?_ ?_<;>intro c3
 refine Jz 7 ?_
 refine Je1 results158 ?_
 subst c3;rfl
 refine Jz 8 ?_
 refine Je1 results158 ?_
 subst c3;rfl
theorem zX(b:Bool):
    Dz 112 [.bool b] [] (fun v _=>v=iv (tru b)):=by
 refine Am func112 ntmps112 fun w0=>?_
 refine Jz 11 ?_
 refine Ed rfl ?_ ?_<;>intro c3
 refine Jz 7 ?_
 refine Je1 results112 ?_
 subst c3;rfl
 refine Jz 8 ?_
 refine Je1 results112 ?_
 subst c3;rfl
theorem UW(op a:Int):
    Dz 113 [.int .u8 op,iv a] [] (fun v _=>v= .tuple #[iv (unV op a),iv (unE op)]):=by
 refine Am func113 ntmps113 fun w0=>?_
 refine Jz 19 ?_
 refine Jcp rfl ?_ ?_<;>intro k7
 refine Jz 3 ?_
 refine Jr (eO rfl rfl) ?_
 refine Jz 7 ?_
 refine Gc (.inl rfl) results113 rfl rfl ?_
 simp[unV,unE,k7]
 refine Jz 6 ?_
 refine Jcp rfl ?_ ?_<;>intro k11
 refine Jz 4 ?_
 refine Jvf (Pf (decide (a=0))) rfl (ocn _) ?_
 refine Jz 7 ?_
 refine Gc (.inl rfl) results113 rfl rfl ?_
 simp[unV,unE,k11]
 refine Jz 10 ?_
 refine Gc (.inl rfl) results113 rfl rfl ?_
 simp[unV,unE,k7,k11]
theorem JZ(op a b:Int):
    Dz 163 [.int .u8 op,iv a,iv b] [] (fun v _=>v=iv (Po op a b)):=by
 refine Am func163 ntmps163 fun w0=>?_
 refine Jz 14 ?_
 refine Jcp rfl ?_ ?_<;>intro k7
 refine Jz 8 ?_
 refine Je1 results163 ?_
 first|(exfalso;omega)|simp[Po,k7]
 refine Jz 4 ?_
 refine JgP ?_ ?_<;>intro g13
 refine Jz 6 ?_
 refine Jcp rfl ?_ ?_<;>intro k10
 refine Jz 3 ?_
 refine Jr (eO rfl rfl) ?_
 refine Jz 6 ?_
 refine Je1 results163 ?_
 first|(exfalso;omega)|simp[Po,k7,g13,k10]
 refine Jz 7 ?_
 refine Jcp rfl ?_ ?_<;>intro k19
 refine Jz 8 ?_
 refine Je1 results163 ?_
 first|(exfalso;omega)|simp[Po,k7,g13,k10,k19]
 refine Jz 7 ?_
 refine vZ (congrArg (fun b=>some (Value.bool b)) (aEo k10)) (Jz 7 ?_)
 refine Jr (oK rfl rfl rfl (by assumption)) ?_
 refine Jz 4 ?_
 refine Je1 results163 ?_
 first|(exfalso;omega)|simp[Po,k7,g13,k10,k19]
 refine Jz 14 ?_
 refine Jcp rfl ?_ ?_<;>intro k19
 refine Jz 8 ?_
 refine Je1 results163 ?_
 first|(exfalso;omega)|simp[Po,k7,g13,k19]
 refine Jz 7 ?_
 refine Jcp rfl ?_ ?_<;>intro k22
 refine Jz 4 ?_
 refine Jr (zJ rfl rfl rfl (by assumption)) ?_
 refine Jz 6 ?_
 refine Je1 results163 ?_
 first|(exfalso;omega)|simp[Po,k7,g13,k19,k22]
 refine Jz 7 ?_
 refine Jr (oK rfl rfl rfl (by assumption)) ?_
 refine Jz 4 ?_
 refine Je1 results163 ?_
 first|(exfalso;omega)|simp[Po,k7,g13,k19,k22]
theorem WX(op a b:Int):
    Dz 118 [.int .u8 op,iv a,iv b] [] (fun v _=>v= .tuple #[iv (Ha op a b),iv (Vu op)]):=by
 refine Am func118 ntmps118 fun w0=>?_
 refine Jz 19 ?_
 refine Jcp rfl ?_ ?_<;>intro k9
 refine Jz 4 ?_
 refine Jr (zI rfl rfl rfl) ?_
 refine Jz 7 ?_
 refine Gc (.inl rfl) results118 rfl rfl ?_
 simp[Ha,Vu,k9]
 refine Jz 7 ?_
 refine Jcp rfl ?_ ?_<;>intro k14
 refine Jsp (Jt (Gm (congrArg (fun b=>some (Value.bool b)) (aEk k14)) (Jz 5 ?_)))
 refine Jvf (JZ op a b) rfl (ocn _) ?_
 refine Jz 7 ?_
 refine Gc (.inl rfl) results118 rfl rfl ?_
 simp[Ha,Vu,k14]
 refine Jz 5 ?_
 refine Jcp rfl ?_ ?_<;>intro k14_2
 refine Jz 5 ?_
 refine Jvf (JZ op a b) rfl (ocn _) ?_
 refine Jz 7 ?_
 refine Gc (.inl rfl) results118 rfl rfl ?_
 simp[Ha,Vu,k14_2]
 refine Jz 6 ?_
 refine Jcp rfl ?_ ?_<;>intro k21
 refine Jz 4 ?_
 refine Jr (zF rfl rfl rfl) ?_
 refine Jz 7 ?_
 refine Gc (.inl rfl) results118 rfl rfl ?_
 simp[Ha,Vu,k21]
 refine Jz 6 ?_
 refine Jcp rfl ?_ ?_<;>intro k26
 refine Jz 4 ?_
 refine Jr (zG rfl rfl rfl) ?_
 refine Jz 7 ?_
 refine Gc (.inl rfl) results118 rfl rfl ?_
 simp[Ha,Vu,k26]
 refine Jz 6 ?_
 refine Jcp rfl ?_ ?_<;>intro k31
 refine Jz 5 ?_
 refine Jvf (Pf (decide (a=b))) rfl (ocn _) ?_
 refine Jz 7 ?_
 refine Gc (.inl rfl) results118 rfl rfl ?_
 simp[Ha,Vu,k31]
 refine Jz 6 ?_
 refine Jcp rfl ?_ ?_<;>intro k37
 refine Jz 5 ?_
 refine Jvf (Pf (decide (a≠b))) rfl (ocn _) ?_
 refine Jz 7 ?_
 refine Gc (.inl rfl) results118 rfl rfl ?_
 simp[Ha,Vu,k37]
 refine Jz 6 ?_
 refine Jcp rfl ?_ ?_<;>intro k43
 refine Jz 5 ?_
 refine Jvf (Pf (decide (a<b))) rfl (ocn _) ?_
 refine Jz 7 ?_
 refine Gc (.inl rfl) results118 rfl rfl ?_
 simp[Ha,Vu,k43]
 refine Jz 6 ?_
 refine Jcp rfl ?_ ?_<;>intro k49
 refine Jz 5 ?_
 refine Jvf (Pf (decide (a≤b))) rfl (ocn _) ?_
 refine Jz 7 ?_
 refine Gc (.inl rfl) results118 rfl rfl ?_
 simp[Ha,Vu,k49]
 refine Jz 6 ?_
 refine Jcp rfl ?_ ?_<;>intro k55
 refine Jz 5 ?_
 refine Jvf (Pf (decide (b<a))) rfl (ocn _) ?_
 refine Jz 7 ?_
 refine Gc (.inl rfl) results118 rfl rfl ?_
 simp[Ha,Vu,k55]
 refine Jz 6 ?_
 refine Jcp rfl ?_ ?_<;>intro k61
 refine Jz 5 ?_
 refine Jvf (Pf (decide (b≤a))) rfl (ocn _) ?_
 refine Jz 7 ?_
 refine Gc (.inl rfl) results118 rfl rfl ?_
 simp[Ha,Vu,k61]
 refine Jz 6 ?_
 refine Jcp rfl ?_ ?_<;>intro k67
 refine Jz 4 ?_
 refine JgP ?_ ?_<;>intro g71
 refine Jz 3 ?_
 refine Jvf (Pf (decide (b≠0))) rfl (ocn _) ?_
 refine Jz 7 ?_
 refine Gc (.inl rfl) results118 rfl rfl ?_
 simp[Ha,Vu,k67,g71]
 refine Jz 3 ?_
 refine Jvf (Pf false) rfl (ocn _) ?_
 refine Jz 7 ?_
 refine Gc (.inl rfl) results118 rfl rfl ?_
 simp[Ha,Vu,k67,g71]
 refine Jz 6 ?_
 refine Jcp rfl ?_ ?_<;>intro k76
 refine Jz 4 ?_
 refine JgP ?_ ?_<;>intro g80
 refine Jz 3 ?_
 refine Jvf (Pf true) rfl (ocn _) ?_
 refine Jz 7 ?_
 refine Gc (.inl rfl) results118 rfl rfl ?_
 simp[Ha,Vu,k76,g80]
 refine Jz 3 ?_
 refine Jvf (Pf (decide (b≠0))) rfl (ocn _) ?_
 refine Jz 7 ?_
 refine Gc (.inl rfl) results118 rfl rfl ?_
 simp[Ha,Vu,k76,g80]
 refine Jz 10 ?_
 refine Gc (.inl rfl) results118 rfl rfl ?_
 simp[Ha,Vu,k9,k14,k14_2,k21,k26,k31,k37,k43,k49,k55,k61,k67,k76]
structure Sm where
 Ac:OA
 qc:Nat
 code:List Ins
 Aa:OA
 qa:Nat
 args:List Int
 now:Int
 Ag:OA
 qg:Nat
 flags:List Bool
 dsk:Int
 Af:OA
 qf:Nat
 fail:List Int
structure Dm where
 Av:OA
 qv:Nat
 vars:List Int
 At:OA
 qt:Nat
 tabs:List Tb
 dk:Tb
 Ae:OA
 qe:Nat
 effs:List Ef
 cost:Int
 As:OA
 qs:Nat
 stack:List Int
 next:Int
 sends:Int
 disks:Int
 fault:Bool
abbrev cQ(s:Sm)(d:Dm):List Value:=[vs s.Aa s.args s.qa,iv s.now,vs s.Ag s.flags s.qg,iv s.dsk,vs s.Af s.fail s.qf,vs d.Av d.vars d.qv,vs d.At d.tabs d.qt,vs d.dk.A d.dk.l d.dk.q,vs d.Ae d.effs d.qe,iv d.cost,vs d.As d.stack d.qs,iv d.disks,iv d.sends, .bool d.fault, .string bE,nz,nz, .string bE,nz,nz,nz,iv 0]
abbrev cD(s:Sm)(d:Dm):List Value:=[vs d.Av d.vars d.qv,vs d.At d.tabs d.qt,vs d.dk.A d.dk.l d.dk.q,vs d.Ae d.effs d.qe,iv d.cost,vs s.Ac s.code s.qc,vs s.Aa s.args s.qa,iv s.now,vs s.Ag s.flags s.qg,iv s.dsk,vs s.Af s.fail s.qf,vs d.As d.stack d.qs,iv d.next,iv d.sends,iv d.disks, .bool d.fault]
def mc(s:Sm)(d:Dm):List Value:=(cD s d)
theorem KA{Γ:List Ai}{w:World}{α:Type}{enc:α→List Value}{size:Nat}{e:TypeId}{A:OA}{cap:Nat}{l:List α}(i:Nat)(h:Γ[i]?=some (rows enc e size A cap l))(hs:sat Γ w):l.length≤cap:=by
 obtain⟨A',cap',h1,_,h2,_⟩:=Qn (show w.ownsRow 0 e size (vs A l cap) l.length _ from hs.each _ (mog h))
 simp only[Value.slice.injEq]at h1
 omega
theorem last_at{l:List Int}(h:0<l.length):l[l.length-1]?=some (l.getLastD 0):=by
 rw[←List.getLast?_eq_getElem?,List.getLastD_eq_getLast?]
 cases hl:l.getLast? with
 |none=>rw[List.getLast?_eq_none_iff]at hl;rw[hl]at h;simp at h
 |some x=>rfl
theorem Pg(b:Nat)(s:Sm)(d:Dm)(x:Int)(hl:d.stack.length≤1000000):
    Dz 111 [pv b,iv x] [box b (cD s d) 123,rows aLz 2 1 d.As d.qs d.stack] (fun v Γ'=>v= .tuple #[]∧∃A q,Γ'=[box b (mc s {d with As:=A,qs:=q,stack:=d.stack++[x]}) 123,rows aLz 2 1 A q (d.stack++[x])]):=by
 refine Am func111 ntmps111 fun w0=>?_
 refine Jz 7 ?_
 refine Eg [iv x] fun b10=>?_
 refine Jge rfl rfl rfl (Bg Cy (i:=2) (j:=0) (el:=x) rfl s28 rfl rfl rfl rfl rfl om om) ?_
 rintro _ _ ⟨A11,q11,rfl,rfl⟩
 refine Jz 4 ?_
 refine Ce [1,1] rfl (Co (.inr rfl) results111 ?_)
 exact⟨rfl,_,_,rfl⟩
theorem Ni(b:Nat)(s:Sm)(d:Dm)(hl:0<d.stack.length∧d.stack.length≤1000000):
    Dz 114 [pv b] [box b (cD s d) 123,rows aLz 2 1 d.As d.qs d.stack] (fun v Γ'=>v=iv (d.stack.getLastD 0)∧Γ'=[box b (mc s {d with stack:=d.stack.dropLast}) 123,rows aLz 2 1 d.As d.qs d.stack.dropLast]):=by
 refine Am func114 ntmps114 fun w0=>?_
 refine Jz 6 ?_
 refine Lt (p:=d.stack.length≤d.qs) (fun w hw=>KA 1 rfl hw) (fun hcap=>?_)
 refine Jz 6 ?_
 refine Jr (Cr (v':=nv (d.stack.length-1)) (congrArg iv om) (Gi rfl rfl rfl om)) ?_
 refine Jz 10 ?_
 refine Jr (Ga (i:=1) (j:=(d.stack.length-1)) rfl rfl rfl s28 rfl (last_at hl.1)) ?_
 refine Jr (Ck (i:=1) rfl rfl c2 rfl (Dc (rwg Cy (last_at hl.1)) rfl)) ?_
 refine Jz 11 ?_
 refine Jr (Eo (hi:=(d.stack.length-1)) rfl s28 rfl rfl om) ?_
 refine Jz 12 ?_
 refine Ce [1,0] rfl (eP Cy (d.stack.length-1) om ?_)
 rw[←List.dropLast_eq_take]
 refine Ce [1,0] rfl ?_
 (try unfold vs);rw[←aEf]
 refine Ce [0,0] rfl (Je1 results114 ?_)
 exact⟨rfl,rfl⟩
structure EfV where
 k:Int
 to:Int
 h:Int
 d:Int
 key:Int
 v:Int
 f:Bool
 args:List Int
deriving DecidableEq
def Ef.val(e:Ef):EfV:=⟨e.k,e.to,e.h,e.d,e.key,e.v,e.f,e.args⟩
structure Dv where
 vars:List Int
 tabs:List (List (Int×Int))
 disk:List (Int×Int)
 effs:List EfV
 cost:Int
 stack:List Int
 next:Int
 sends:Int
 disks:Int
 fault:Bool
deriving DecidableEq
def Dm.val(d:Dm):Dv:=⟨d.vars,d.tabs.map Tb.l,d.dk.l,d.effs.map Ef.val,d.cost,d.stack,d.next,d.sends,d.disks,d.fault⟩
def Fp(l:List (Int×Int))(k:Int):Option Int:=(l.find? fun e=>decide (e.1=k)).map Prod.snd
def Jp:List (Int×Int)→Int→Int→List (Int×Int)
 |[],k,v=>[(k,v)]
 |e::r,k,v=>if e.1<k then e::Jp r k v else if e.1=k then(k,v)::r else(k,v)::e::r
def Im(l:List (Int×Int))(k:Int):List (Int×Int):=l.filter fun e=>decide (e.1≠k)
def Oq(l:List (Int×Int))(k v:Int):List (Int×Int):=if(Fp l k).isSome=true∨l.length<16 then Jp l k v else l
def Ps(i:Ins)(d:Dv):Dv:=
 if d.sends=8 then{d with fault:=true}else
 let m:=d.stack.length-i.n.toNat
 if(i.op:Int)=31 then{d with sends:=d.sends+1,stack:=(d.stack.take m).dropLast,effs:=d.effs++[⟨2,i.a,i.b,(d.stack.take m).getLastD 0,0,0,false,d.stack.drop m⟩]}
 else{d with sends:=d.sends+1,stack:=d.stack.take m,effs:=d.effs++[⟨1,i.a,i.b,0,0,0,false,d.stack.drop m⟩]}
def Ng(s:Sm)(i:Ins)(d:Dv):Dv:=
 let bad:=decide (s.dsk+d.disks∈s.fail)
 if(i.op:Int)=32 then
  let v:=d.stack.getLastD 0
  let k:=d.stack.dropLast.getLastD 0
  {d with disks:=d.disks+1,stack:=d.stack.dropLast.dropLast,next:=if bad=true then i.b else d.next,disk:=if bad=true then d.disk else Oq d.disk k v,effs:=d.effs++[⟨3,0,0,0,k,v,bad,[]⟩]}
 else
  let k:=d.stack.getLastD 0
  let v:=(Fp d.disk k).getD 0
  if bad=true then{d with disks:=d.disks+1,stack:=d.stack.dropLast,next:=i.b,effs:=d.effs++[⟨4,0,0,0,k,0,true,[]⟩]}
  else{d with disks:=d.disks+1,stack:=d.stack.dropLast,vars:=d.vars.set i.a.toNat v,effs:=d.effs++[⟨4,0,0,0,k,v,false,[]⟩]}
def Gb(i:Ins)(d:Dv):Dv:=
 let t:=d.tabs.getD i.a.toNat []
 if(i.op:Int)=6 then{d with stack:=d.stack.dropLast++[(Fp t (d.stack.getLastD 0)).getD 0]}else
 if(i.op:Int)=7 then{d with stack:=d.stack.dropLast++[tru (Fp t (d.stack.getLastD 0)).isSome]}else
 if(i.op:Int)=8 then{d with stack:=d.stack++[(t.length:Int)]}else
 if(i.op:Int)=25 then{d with stack:=d.stack.dropLast.dropLast,tabs:=d.tabs.set i.a.toNat (Oq t (d.stack.dropLast.getLastD 0) (d.stack.getLastD 0))}else
 {d with stack:=d.stack.dropLast,tabs:=d.tabs.set i.a.toNat (Im t (d.stack.getLastD 0))}
def Bj(s:Sm)(i:Ins)(d:Dv):Dv:=
 if(i.op:Int)=1 then{d with stack:=d.stack++[i.n]}else
 if(i.op:Int)=2 then{d with stack:=d.stack++[d.vars.getD i.a.toNat 0]}else
 if(i.op:Int)=3 then{d with stack:=d.stack++[s.args.getD i.a.toNat 0]}else
 if(i.op:Int)=4 then{d with stack:=d.stack++[tru (s.flags.getD i.a.toNat false)]}else
 if(i.op:Int)=5 then{d with stack:=d.stack++[s.now]}else
 if(i.op:Int)=9∨(i.op:Int)=10 then{d with stack:=d.stack.dropLast++[unV i.op (d.stack.getLastD 0)]}else
 if(i.op:Int)=24 then{d with stack:=d.stack.dropLast,vars:=d.vars.set i.a.toNat (d.stack.getLastD 0)}else
 if(i.op:Int)=27 then{d with next:=i.a}else
 if(i.op:Int)=28 then{d with stack:=d.stack.dropLast,next:=if d.stack.getLastD 0=0 then i.a else d.next}else
 if(i.op:Int)=29 then{d with fault:=decide (d.cost=200),cost:=min (d.cost+1) 200}else
 if(i.op:Int)=30∨(i.op:Int)=31 then Ps i d else
 if(i.op:Int)=32∨(i.op:Int)=33 then Ng s i d else
 if(i.op:Int)=34 then{d with next:=s.code.length}else
 if(i.op:Int)=6∨(i.op:Int)=7∨(i.op:Int)=8∨(i.op:Int)=25∨(i.op:Int)=26 then Gb i d else
 {d with stack:=d.stack.dropLast.dropLast++[Ha i.op (d.stack.dropLast.getLastD 0) (d.stack.getLastD 0)]}
def Dm.keeps(d' d:Dm):Prop:=d'.At=d.At∧d'.qt=d.qt∧d'.tabs=d.tabs∧d'.dk=d.dk∧d'.Ae=d.Ae∧d'.qe=d.qe∧d'.effs=d.effs
structure Fit(s:Sm)(i:Ins)(d:Dv):Prop where
 var:(i.op:Int)=2∨(i.op:Int)=24∨(i.op:Int)=33→0≤i.a∧i.a<d.vars.length
 par:(i.op:Int)=3→0≤i.a∧i.a<s.args.length
 flag:(i.op:Int)=4→0≤i.a∧i.a<s.flags.length
 tab:(i.op:Int)=6∨(i.op:Int)=7∨(i.op:Int)=8∨(i.op:Int)=25∨(i.op:Int)=26→0≤i.a∧i.a<d.tabs.length
 sends:(i.op:Int)=30∨(i.op:Int)=31→0≤i.n∧i.n≤4
 ops:1≤(i.op:Int)∧(i.op:Int)≤34
 pops:Fx i≤d.stack.length
 height:d.stack.length≤4001
 cost:0≤d.cost∧d.cost≤200
theorem Ql(i:Ins):((i.op:Int)=9∨(i.op:Int)=10∨(i.op:Int)=24∨(i.op:Int)=28∨(i.op:Int)=6∨(i.op:Int)=7∨(i.op:Int)=26∨(i.op:Int)=33→Fx i=1)∧((11≤(i.op:Int)∧(i.op:Int)≤23)∨(i.op:Int)=25∨(i.op:Int)=32→Fx i=2)∧((i.op:Int)=30→Fx i=i.n)∧((i.op:Int)=31→Fx i=1+i.n):=by
 have key:∀o:Nat,o<35→((o=9∨o=10∨o=24∨o=28∨o=6∨o=7∨o=26∨o=33→(rowOf o).pops=1)∧((11≤o∧o≤23)∨o=25∨o=32→(rowOf o).pops=2))∧(o=30→(rowOf o).pops=0)∧(o=31→(rowOf o).pops=1):=by decide
 have h:=key i.op
 unfold Fx
 refine⟨fun h1=>?_,fun h1=>?_,fun h1=>?_,fun h1=>?_⟩
 ·rw[aEa om];exact((h om).1.1 om)
 ·rw[aEa om];exact((h om).1.2 om)
 ·rw[aEh om,(h om).2.1 om];omega
 ·rw[aEh om,(h om).2.2 om]
theorem iK{Γ:List Ai}{b:Nat}{cs us:List Value}{t:TypeId}(i n:Nat)(h:Γ[i]?=some (box b cs t))(hu:cs.take n=us):∀w,oks Γ w→(ro (some ⟨b,0,none⟩) us).holds w:=fun w hw=>by
 rw[←hu]
 exact .inr ⟨b,0,rfl,vY (Ip (hw _ (mog h)))⟩
theorem KC(b:Nat)(s:Sm)(d:Dm)(x:Ins)(hf:Fit s x d.val)(hop:((x.op:Nat):Int)≠6∧((x.op:Nat):Int)≠7∧((x.op:Nat):Int)≠8∧((x.op:Nat):Int)≠25∧((x.op:Nat):Int)≠26∧((x.op:Nat):Int)≠30∧((x.op:Nat):Int)≠31∧((x.op:Nat):Int)≠32∧((x.op:Nat):Int)≠33):
    Dz 63 [pv b, .agg (Ins.cells x).toArray] [box b (cD s d) 123,rows aLz 2 1 d.Av d.qv d.vars,rows aLz 2 1 d.As d.qs d.stack,ros aLz s.Aa s.args,ros Qv s.Ag s.flags] (fun v Γ'=>v= .tuple #[]∧∃d',Γ'=[box b (mc s d') 123,rows aLz 2 1 d'.Av d'.qv d'.vars,rows aLz 2 1 d'.As d'.qs d'.stack]∧d'.keeps d∧d'.val=Bj s x d.val):=by
 have hvar:((x.op:Nat):Int)=2∨((x.op:Nat):Int)=24∨((x.op:Nat):Int)=33→0≤x.a∧x.a<((d.vars.length:Nat):Int):=hf.var
 have hht:d.stack.length≤4001:=hf.height
 have hpp:Fx x≤((d.stack.length:Nat):Int):=hf.pops
 have hpo:=Ql x
 have hops:=hf.ops
 have hcs:0≤d.cost∧d.cost≤200:=hf.cost
 refine Am func63 ntmps63 fun w0=>?_
 refine Js (To.g (Jbo fun b3=>?_))
 refine Jz 15 ?_
 refine Jcp rfl ?_ ?_<;>intro k25
 refine Jz 4 ?_
 refine Jcf [1,2] (Pg b s d x.n (by first|omega|(simp only[lap,aEf,lc1,ln0];omega))) ?_
 rintro _ _ ⟨rfl,As,qs,rfl⟩
 refine Jn (Jbn (Ce [0,2,0] rfl (Co (.inr rfl) results63 ?_)))
 exact⟨rfl,(⟨d.Av,d.qv,d.vars,d.At,d.qt,d.tabs,⟨d.dk.A,d.dk.q,d.dk.l⟩,d.Ae,d.qe,d.effs,d.cost,As,qs,(d.stack++[x.n]),d.next,d.sends,d.disks,d.fault⟩:Dm),rfl,⟨rfl,rfl,rfl,rfl,rfl,rfl,rfl⟩,by first|(simp[Bj,Dm.val,-List.getLastD_eq_getLast?,k25];done)|(simp[Bj,Dm.val,-List.getLastD_eq_getLast?,k25];rfl)⟩
 refine Jz 6 ?_
 refine Jcp rfl ?_ ?_<;>intro k31
 obtain⟨ka,hka⟩:∃ka:Nat,x.a=((ka:Nat):Int):=⟨x.a.toNat,by have:=hvar om;omega⟩
 have hkl:ka<d.vars.length:=by have:=hvar om;omega
 obtain⟨y,hel⟩:=exg d.vars ka om
 have hgd:d.vars[x.a.toNat]?=some y:=by rw[hka,Int.toNat_natCast];exact hel
 refine Jfw [] [0,1,2,3,4,5,7,106,108,109,110,511] (ocn _) ?_
 refine Jz 9 ?_
 refine Fw.r rfl (Gt (i:=2) (j:=ka) rfl rfl rfl hka s28 rfl hel) ?_
 refine Jz 1 ?_
 refine Da [1,2] (Pg b s d y (by first|omega|(simp only[lap,aEf,lc1,ln0];omega))) ?_
 rintro _ _ ⟨rfl,As_2,qs_2,rfl⟩
 refine⟨ocn _,?_⟩
 refine Jz 2 ?_
 refine Ce [0,2,0] rfl (Co (.inr rfl) results63 ?_)
 exact⟨rfl,(⟨d.Av,d.qv,d.vars,d.At,d.qt,d.tabs,⟨d.dk.A,d.dk.q,d.dk.l⟩,d.Ae,d.qe,d.effs,d.cost,As_2,qs_2,(d.stack++[y]),d.next,d.sends,d.disks,d.fault⟩:Dm),rfl,⟨rfl,rfl,rfl,rfl,rfl,rfl,rfl⟩,by first|(simp[Bj,Dm.val,-List.getLastD_eq_getLast?,k31,hgd];done)|(simp[Bj,Dm.val,-List.getLastD_eq_getLast?,k31,hgd];rfl)⟩
 refine Jz 6 ?_
 refine Jcp rfl ?_ ?_<;>intro k45
 obtain⟨ka,hka⟩:∃ka:Nat,x.a=((ka:Nat):Int):=⟨x.a.toNat,by have:=hf.par om;omega⟩
 have hkl:ka<s.args.length:=by have:=hf.par om;omega
 obtain⟨y,hel⟩:=exg s.args ka om
 have hgd:s.args[x.a.toNat]?=some y:=by rw[hka,Int.toNat_natCast];exact hel
 refine Jfw [] [0,1,2,3,4,6,105,107,108,109,510] (ocn _) ?_
 refine Jz 8 ?_
 refine Fw.r rfl (Ow Cy (i:=4) (j:=ka) rfl rfl rfl hka s28 rfl hel) ?_
 refine Jz 1 ?_
 refine Da [1,2] (Pg b s d y (by first|omega|(simp only[lap,aEf,lc1,ln0];omega))) ?_
 rintro _ _ ⟨rfl,As_3,qs_3,rfl⟩
 refine⟨ocn _,?_⟩
 refine Jz 2 ?_
 refine Ce [0,2,0] rfl (Co (.inr rfl) results63 ?_)
 exact⟨rfl,(⟨d.Av,d.qv,d.vars,d.At,d.qt,d.tabs,⟨d.dk.A,d.dk.q,d.dk.l⟩,d.Ae,d.qe,d.effs,d.cost,As_3,qs_3,(d.stack++[y]),d.next,d.sends,d.disks,d.fault⟩:Dm),rfl,⟨rfl,rfl,rfl,rfl,rfl,rfl,rfl⟩,by first|(simp[Bj,Dm.val,-List.getLastD_eq_getLast?,k45,hgd];done)|(simp[Bj,Dm.val,-List.getLastD_eq_getLast?,k45,hgd];rfl)⟩
 refine Jz 6 ?_
 refine Jcp rfl ?_ ?_<;>intro k58
 obtain⟨ka,hka⟩:∃ka:Nat,x.a=((ka:Nat):Int):=⟨x.a.toNat,by have:=hf.flag om;omega⟩
 have hkl:ka<s.flags.length:=by have:=hf.flag om;omega
 obtain⟨y,hel⟩:=exg s.flags ka om
 have hgd:s.flags[x.a.toNat]?=some y:=by rw[hka,Int.toNat_natCast];exact hel
 refine Jfw [] [0,1,2,3,4,6,105,107,108,109,310,511] (ocn _) ?_
 refine Jz 8 ?_
 refine Fw.r rfl (Ow oW (i:=5) (j:=ka) rfl rfl rfl hka s61 rfl hel) ?_
 refine Jz 1 ?_
 refine Fw.qf (zX y) (ocn _) ?_
 refine Da [1,2] (Pg b s d (tru y) (by first|omega|(simp only[lap,aEf,lc1,ln0];omega))) ?_
 rintro _ _ ⟨rfl,As_4,qs_4,rfl⟩
 refine⟨ocn _,?_⟩
 refine Jz 2 ?_
 refine Ce [0,2,0] rfl (Co (.inr rfl) results63 ?_)
 exact⟨rfl,(⟨d.Av,d.qv,d.vars,d.At,d.qt,d.tabs,⟨d.dk.A,d.dk.q,d.dk.l⟩,d.Ae,d.qe,d.effs,d.cost,As_4,qs_4,(d.stack++[tru y]),d.next,d.sends,d.disks,d.fault⟩:Dm),rfl,⟨rfl,rfl,rfl,rfl,rfl,rfl,rfl⟩,by first|(simp[Bj,Dm.val,-List.getLastD_eq_getLast?,k58,hgd];done)|(simp[Bj,Dm.val,-List.getLastD_eq_getLast?,k58,hgd];rfl)⟩
 refine Jz 6 ?_
 refine Jcp rfl ?_ ?_<;>intro k72
 refine Jz 7 ?_
 refine Jcf [1,2] (Pg b s d s.now (by first|omega|(simp only[lap,aEf,lc1,ln0];omega))) ?_
 rintro _ _ ⟨rfl,As_5,qs_5,rfl⟩
 refine Jn (Jbn (Ce [0,2,0] rfl (Co (.inr rfl) results63 ?_)))
 exact⟨rfl,(⟨d.Av,d.qv,d.vars,d.At,d.qt,d.tabs,⟨d.dk.A,d.dk.q,d.dk.l⟩,d.Ae,d.qe,d.effs,d.cost,As_5,qs_5,(d.stack++[s.now]),d.next,d.sends,d.disks,d.fault⟩:Dm),rfl,⟨rfl,rfl,rfl,rfl,rfl,rfl,rfl⟩,by first|(simp[Bj,Dm.val,-List.getLastD_eq_getLast?,k72];done)|(simp[Bj,Dm.val,-List.getLastD_eq_getLast?,k72];rfl)⟩
 refine Jz 7 ?_
 refine Jcp rfl ?_ ?_<;>intro k81
 refine Jsp (Jt (Gm (congrArg (fun b=>some (Value.bool b)) (aEk k81)) (Js (Jfw [box b3 (Ins.cells x) 116] [0,1,2,503,304,5,6,7,8,9] (ocs (oca 0 rfl) (ocn _)) ?_))))
 refine Jz 3 ?_
 refine Da [1,2] (Ni b s d (by first|omega|(simp only[lap,aEf,lc1,ln0];omega))) ?_
 rintro _ _ ⟨rfl,rfl⟩
 refine⟨ocs (oca 2 rfl) (ocn _),?_⟩
 refine Fw.qf (UW ((x.op:Nat):Int) (d.stack.getLastD 0)) (ocn _) ?_
 refine Jz 10 ?_
 refine Jcf [0,0] (Pg b s (⟨d.Av,d.qv,d.vars,d.At,d.qt,d.tabs,⟨d.dk.A,d.dk.q,d.dk.l⟩,d.Ae,d.qe,d.effs,d.cost,d.As,d.qs,(d.stack.dropLast),d.next,d.sends,d.disks,d.fault⟩:Dm) (unV ((x.op:Nat):Int) (d.stack.getLastD 0)) (by first|omega|(simp only[lap,aEf,lc1,ln0];omega))) ?_
 rintro _ _ ⟨rfl,As_6,qs_6,rfl⟩
 refine Jn (Jbn (Ce [0,2,0] rfl (Co (.inr rfl) results63 ?_)))
 exact⟨rfl,(⟨d.Av,d.qv,d.vars,d.At,d.qt,d.tabs,⟨d.dk.A,d.dk.q,d.dk.l⟩,d.Ae,d.qe,d.effs,d.cost,As_6,qs_6,((d.stack.dropLast)++[unV ((x.op:Nat):Int) (d.stack.getLastD 0)]),d.next,d.sends,d.disks,d.fault⟩:Dm),rfl,⟨rfl,rfl,rfl,rfl,rfl,rfl,rfl⟩,by first|(simp[Bj,Dm.val,-List.getLastD_eq_getLast?,k81];done)|(simp[Bj,Dm.val,-List.getLastD_eq_getLast?,k81];rfl)⟩
 refine Jz 5 ?_
 refine Jcp rfl ?_ ?_<;>intro k81_2
 refine Js (Jfw [box b3 (Ins.cells x) 116] [0,1,2,503,304,5,6,7,8,9] (ocs (oca 0 rfl) (ocn _)) ?_)
 refine Jz 3 ?_
 refine Da [1,2] (Ni b s d (by first|omega|(simp only[lap,aEf,lc1,ln0];omega))) ?_
 rintro _ _ ⟨rfl,rfl⟩
 refine⟨ocs (oca 2 rfl) (ocn _),?_⟩
 refine Fw.qf (UW ((x.op:Nat):Int) (d.stack.getLastD 0)) (ocn _) ?_
 refine Jz 10 ?_
 refine Jcf [0,0] (Pg b s (⟨d.Av,d.qv,d.vars,d.At,d.qt,d.tabs,⟨d.dk.A,d.dk.q,d.dk.l⟩,d.Ae,d.qe,d.effs,d.cost,d.As,d.qs,(d.stack.dropLast),d.next,d.sends,d.disks,d.fault⟩:Dm) (unV ((x.op:Nat):Int) (d.stack.getLastD 0)) (by first|omega|(simp only[lap,aEf,lc1,ln0];omega))) ?_
 rintro _ _ ⟨rfl,As_7,qs_7,rfl⟩
 refine Jn (Jbn (Ce [0,2,0] rfl (Co (.inr rfl) results63 ?_)))
 exact⟨rfl,(⟨d.Av,d.qv,d.vars,d.At,d.qt,d.tabs,⟨d.dk.A,d.dk.q,d.dk.l⟩,d.Ae,d.qe,d.effs,d.cost,As_7,qs_7,((d.stack.dropLast)++[unV ((x.op:Nat):Int) (d.stack.getLastD 0)]),d.next,d.sends,d.disks,d.fault⟩:Dm),rfl,⟨rfl,rfl,rfl,rfl,rfl,rfl,rfl⟩,by first|(simp[Bj,Dm.val,-List.getLastD_eq_getLast?,k81_2];done)|(simp[Bj,Dm.val,-List.getLastD_eq_getLast?,k81_2];rfl)⟩
 refine Jz 6 ?_
 refine Jcp rfl ?_ ?_<;>intro k95
 obtain⟨ka,hka⟩:∃ka:Nat,x.a=((ka:Nat):Int):=⟨x.a.toNat,by have:=hvar om;omega⟩
 have hkl:ka<d.vars.length:=by have:=hvar om;omega
 obtain⟨y,hel⟩:=exg d.vars ka om
 have hgd:d.vars[x.a.toNat]?=some y:=by rw[hka,Int.toNat_natCast];exact hel
 have hst:0<d.stack.length:=om
 refine Lt (p:=d.Av=some ⟨blk d.Av,ofs d.Av,none⟩) (fun w hw=>Oe Cy (by decide) (l:=d.vars) om 2 rfl hw) (fun hAv=>?_)
 refine Jfw [box b3 (Ins.cells x) 116,ro (some ⟨b,0,none⟩) [vs d.Av d.vars d.qv,vs d.At d.tabs d.qt,vs d.dk.A d.dk.l d.dk.q,vs d.Ae d.effs d.qe,iv d.cost,vs s.Ac s.code s.qc,vs s.Aa s.args s.qa,iv s.now,vs s.Ag s.flags s.qg,iv s.dsk,vs s.Af s.fail s.qf]] [0,1,2,3,4,5,6,7,8,509,10,511] (ocs (oca 0 rfl) (ocs (iK 1 11 rfl rfl) (ocn _))) ?_
 refine Jz 5 ?_
 refine Fw.f rfl (Ck (i:=1) rfl rfl c28 rfl (Iq (A:=some ⟨b,0,none⟩) (o:=0) (k:=1) rfl)) ?_
 refine Jz 3 ?_
 refine Da [1,2] (Ni b s d (by first|omega|(simp only[lap,aEf,lc1,ln0];omega))) ?_
 rintro _ _ ⟨rfl,rfl⟩
 refine⟨ocs (oca 2 rfl) (ocs (iK 0 11 rfl rfl) (ocn _)),?_⟩
 refine Fw.f rfl (Cr (v':= .pointer (some ⟨blk d.Av,ofs d.Av+ka*1,none⟩)) rfl (Dg (j:=ka) hAv rfl rfl (by rw[←hka];rfl) s28 hkl)) ?_
 refine Fw.up rfl rfl rfl (Up.store (i:=3) rfl rfl rfl c2 rfl rfl (Ee Cy (y:=(d.stack.getLastD 0)) (by decide) om)) (ocs (oca 2 rfl) (ocs (iK 0 11 rfl rfl) (ocn _))) ?_
 refine Jz 2 ?_
 refine Jas [box b [vs d.Av (d.vars.set ka (d.stack.getLastD 0)) d.qv,vs d.At d.tabs d.qt,vs d.dk.A d.dk.l d.dk.q,vs d.Ae d.effs d.qe,iv d.cost,vs s.Ac s.code s.qc,vs s.Aa s.args s.qa,iv s.now,vs s.Ag s.flags s.qg,iv s.dsk,vs s.Af s.fail s.qf,vs d.As (d.stack.dropLast) d.qs,iv d.next,iv d.sends,iv d.disks, .bool d.fault] 123,rows aLz 2 1 d.As d.qs (d.stack.dropLast),box b3 (Ins.cells x) 116,rows aLz 2 1 d.Av d.qv (d.vars.set ka (d.stack.getLastD 0)),ros aLz s.Aa s.args,ros Qv s.Ag s.flags] (by(try unfold vs);rw[aEj]<;>rfl) (Ce [0,2,0] rfl (Co (.inr rfl) results63 ?_))
 exact⟨rfl,(⟨d.Av,d.qv,(d.vars.set ka (d.stack.getLastD 0)),d.At,d.qt,d.tabs,⟨d.dk.A,d.dk.q,d.dk.l⟩,d.Ae,d.qe,d.effs,d.cost,d.As,d.qs,(d.stack.dropLast),d.next,d.sends,d.disks,d.fault⟩:Dm),rfl,⟨rfl,rfl,rfl,rfl,rfl,rfl,rfl⟩,by first|(simp[Bj,Dm.val,-List.getLastD_eq_getLast?,k95,hka];done)|(simp[Bj,Dm.val,-List.getLastD_eq_getLast?,k95,hka];rfl)⟩
 refine Jz 6 ?_
 refine Jcp rfl ?_ ?_<;>intro k108
 refine Jz 9 ?_
 refine Ce [1,1,1] rfl (Co (.inr rfl) results63 ?_)
 exact⟨rfl,(⟨d.Av,d.qv,d.vars,d.At,d.qt,d.tabs,⟨d.dk.A,d.dk.q,d.dk.l⟩,d.Ae,d.qe,d.effs,d.cost,d.As,d.qs,d.stack,x.a,d.sends,d.disks,d.fault⟩:Dm),rfl,⟨rfl,rfl,rfl,rfl,rfl,rfl,rfl⟩,by first|(simp[Bj,Dm.val,-List.getLastD_eq_getLast?,k108];done)|(simp[Bj,Dm.val,-List.getLastD_eq_getLast?,k108];rfl)⟩
 refine Jz 6 ?_
 refine Jcp rfl ?_ ?_<;>intro k115
 refine Jz 3 ?_
 refine Jcf [1,2] (Ni b s d (by first|omega|(simp only[lap,aEf,lc1,ln0];omega))) ?_
 rintro _ _ ⟨rfl,rfl⟩
 refine Jz 3 ?_
 refine Jcp rfl ?_ ?_<;>intro k119
 refine Jz 9 ?_
 refine Ce [0,2,0] rfl (Co (.inr rfl) results63 ?_)
 exact⟨rfl,(⟨d.Av,d.qv,d.vars,d.At,d.qt,d.tabs,⟨d.dk.A,d.dk.q,d.dk.l⟩,d.Ae,d.qe,d.effs,d.cost,d.As,d.qs,(d.stack.dropLast),x.a,d.sends,d.disks,d.fault⟩:Dm),rfl,⟨rfl,rfl,rfl,rfl,rfl,rfl,rfl⟩,by first|(simp[Bj,Dm.val,-List.getLastD_eq_getLast?,k115,k119];done)|(simp[Bj,Dm.val,-List.getLastD_eq_getLast?,k115,k119];rfl)⟩
 refine Jz 2 ?_
 refine Ce [0,2,0] rfl (Co (.inr rfl) results63 ?_)
 exact⟨rfl,(⟨d.Av,d.qv,d.vars,d.At,d.qt,d.tabs,⟨d.dk.A,d.dk.q,d.dk.l⟩,d.Ae,d.qe,d.effs,d.cost,d.As,d.qs,(d.stack.dropLast),d.next,d.sends,d.disks,d.fault⟩:Dm),rfl,⟨rfl,rfl,rfl,rfl,rfl,rfl,rfl⟩,by first|(simp[Bj,Dm.val,-List.getLastD_eq_getLast?,k115,k119];done)|(simp[Bj,Dm.val,-List.getLastD_eq_getLast?,k115,k119];rfl)⟩
 refine Jz 6 ?_
 refine Jcp rfl ?_ ?_<;>intro k125
 refine Jz 21 ?_
 refine Jr (Hl rfl rfl rfl om) ?_
 refine Jr (Rd.min rfl rfl rfl) ?_
 refine Jz 6 ?_
 refine Ce [1,1,1] rfl (Co (.inr rfl) results63 ?_)
 exact⟨rfl,(⟨d.Av,d.qv,d.vars,d.At,d.qt,d.tabs,⟨d.dk.A,d.dk.q,d.dk.l⟩,d.Ae,d.qe,d.effs,min (d.cost+1) 200,d.As,d.qs,d.stack,d.next,d.sends,d.disks,decide (d.cost=200)⟩:Dm),rfl,⟨rfl,rfl,rfl,rfl,rfl,rfl,rfl⟩,by first|(simp[Bj,Dm.val,-List.getLastD_eq_getLast?,k125];done)|(simp[Bj,Dm.val,-List.getLastD_eq_getLast?,k125];rfl)⟩
 refine Jz 7 ?_
 refine Jcp rfl ?_ ?_<;>intro k147
 exfalso;omega
 refine Jz 5 ?_
 refine Jcp rfl ?_ ?_<;>intro k147_2
 exfalso;omega
 refine Jz 7 ?_
 refine Jcp rfl ?_ ?_<;>intro k153
 exfalso;omega
 refine Jz 5 ?_
 refine Jcp rfl ?_ ?_<;>intro k153_2
 exfalso;omega
 refine Jz 6 ?_
 refine Jcp rfl ?_ ?_<;>intro k159
 refine Jz 12 ?_
 refine Ce [1,1,1] rfl (Co (.inr rfl) results63 ?_)
 exact⟨rfl,(⟨d.Av,d.qv,d.vars,d.At,d.qt,d.tabs,⟨d.dk.A,d.dk.q,d.dk.l⟩,d.Ae,d.qe,d.effs,d.cost,d.As,d.qs,d.stack,((s.code.length:Nat):Int),d.sends,d.disks,d.fault⟩:Dm),rfl,⟨rfl,rfl,rfl,rfl,rfl,rfl,rfl⟩,by first|(simp[Bj,Dm.val,-List.getLastD_eq_getLast?,k159];done)|(simp[Bj,Dm.val,-List.getLastD_eq_getLast?,k159];rfl)⟩
 refine Jz 7 ?_
 refine Jcp rfl ?_ ?_<;>intro k169
 exfalso;omega
 refine Jz 6 ?_
 refine Jcp rfl ?_ ?_<;>intro k169_2
 exfalso;omega
 refine Jz 6 ?_
 refine Jcp rfl ?_ ?_<;>intro k169_3
 exfalso;omega
 refine Jz 6 ?_
 refine Jcp rfl ?_ ?_<;>intro k169_4
 exfalso;omega
 refine Jz 5 ?_
 refine Jcp rfl ?_ ?_<;>intro k169_5
 exfalso;omega
 refine Jz 3 ?_
 refine Jcf [1,2] (Ni b s d (by first|omega|(simp only[lap,aEf,lc1,ln0];omega))) ?_
 rintro _ _ ⟨rfl,rfl⟩
 refine Jz 4 ?_
 refine Jfw [box b3 (Ins.cells x) 116] [0,1,2,4,503,305,6,7,8,9,10] (ocs (oca 2 rfl) (ocn _)) ?_
 refine Jz 4 ?_
 refine Da [0,0] (Ni b s (⟨d.Av,d.qv,d.vars,d.At,d.qt,d.tabs,⟨d.dk.A,d.dk.q,d.dk.l⟩,d.Ae,d.qe,d.effs,d.cost,d.As,d.qs,(d.stack.dropLast),d.next,d.sends,d.disks,d.fault⟩:Dm) (by first|omega|(simp only[lap,aEf,lc1,ln0];omega))) ?_
 rintro _ _ ⟨rfl,rfl⟩
 refine⟨ocs (oca 2 rfl) (ocn _),?_⟩
 refine Fw.qf (WX ((x.op:Nat):Int) ((d.stack.dropLast).getLastD 0) (d.stack.getLastD 0)) (ocn _) ?_
 refine Jz 10 ?_
 refine Jcf [0,0] (Pg b s (⟨d.Av,d.qv,d.vars,d.At,d.qt,d.tabs,⟨d.dk.A,d.dk.q,d.dk.l⟩,d.Ae,d.qe,d.effs,d.cost,d.As,d.qs,((d.stack.dropLast).dropLast),d.next,d.sends,d.disks,d.fault⟩:Dm) (Ha ((x.op:Nat):Int) ((d.stack.dropLast).getLastD 0) (d.stack.getLastD 0)) (by first|omega|(simp only[lap,aEf,lc1,ln0];omega))) ?_
 rintro _ _ ⟨rfl,As_8,qs_8,rfl⟩
 refine Jn (Jbn (Ce [0,2,0] rfl (Co (.inr rfl) results63 ?_)))
 exact⟨rfl,(⟨d.Av,d.qv,d.vars,d.At,d.qt,d.tabs,⟨d.dk.A,d.dk.q,d.dk.l⟩,d.Ae,d.qe,d.effs,d.cost,As_8,qs_8,(((d.stack.dropLast).dropLast)++[Ha ((x.op:Nat):Int) ((d.stack.dropLast).getLastD 0) (d.stack.getLastD 0)]),d.next,d.sends,d.disks,d.fault⟩:Dm),rfl,⟨rfl,rfl,rfl,rfl,rfl,rfl,rfl⟩,by first|(simp[Bj,Dm.val,-List.getLastD_eq_getLast?,k25,k31,k45,k58,k72,k81,k81_2,k95,k108,k115,k125,k147,k147_2,k153,k153_2,k159,k169,k169_2,k169_3,k169_4,k169_5];done)|(simp[Bj,Dm.val,-List.getLastD_eq_getLast?,k25,k31,k45,k58,k72,k81,k81_2,k95,k108,k115,k125,k147,k147_2,k153,k153_2,k159,k169,k169_2,k169_3,k169_4,k169_5];rfl)⟩
end Go.Proofs.YtlihklladkagpaaGreatDoor
