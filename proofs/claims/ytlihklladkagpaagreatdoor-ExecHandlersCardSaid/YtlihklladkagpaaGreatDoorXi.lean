/- Own text. -/
import Derived.Test.YtlihklladkagpaaGreatDoorXh
set_option linter.unusedVariables false
set_option linter.unusedSimpArgs false
set_option maxHeartbeats 2000000
set_option maxRecDepth 100000
namespace Go.Proofs.YtlihklladkagpaaGreatDoor
open Go.Proofs.Tryz
open Go.RowKit Go.Flow Go.Mem Go.Sep
def Dp(e:Ef):List Value:=[iv e.k,iv e.to,iv e.h,iv e.d,iv e.key,iv e.v, .bool e.f,vs e.A e.args e.q]
instance kW:Enc Dp 8:=⟨fun _=>rfl,fun e u hu=>by
 simp only[Dp,aEi,aEs,or_false]at hu
 rcases hu with rfl|rfl|rfl|rfl|rfl|rfl|rfl|rfl<;>rfl⟩
def xc(s:Sm)(d:Dm):List Value:=(cQ s d)
theorem Qj(b:Bool):
    Dz 119 [.bool b] [] (fun v _=>v=iv (tru b)):=by
 refine Am func119 ntmps119 fun w0=>?_
 refine Jz 11 ?_
 refine Ed rfl ?_ ?_<;>intro c3
 refine Jz 7 ?_
 refine Je1 results119 ?_
 subst c3;rfl
 refine Jz 8 ?_
 refine Je1 results119 ?_
 subst c3;rfl
theorem UB(op a b:Int)(hop:11≤op∧op≤23):
    Dz 67 [iv op,iv a,iv b] [] (fun v _=>v=iv (Ha op a b)):=by
 refine Am func67 ntmps67 fun w0=>?_
 refine Jz 18 ?_
 refine Jcp rfl ?_ ?_<;>intro k8
 refine Jz 4 ?_
 refine Jr (zI rfl rfl rfl) ?_
 refine Jz 6 ?_
 refine Je1 results67 ?_
 ·first|(exfalso;omega)|(simp[Ha,Po,k8];done)|simp[Ha,show op=23 from by omega,k8]
 refine Jz 6 ?_
 refine Jcp rfl ?_ ?_<;>intro k13
 refine Jz 7 ?_
 refine Jcp rfl ?_ ?_<;>intro k16
 refine Jz 9 ?_
 refine Je1 results67 ?_
 ·first|(exfalso;omega)|(simp[Ha,Po,k8,k13,k16];done)|simp[Ha,show op=23 from by omega,k8,k13,k16]
 refine Jz 9 ?_
 refine Jcp rfl ?_ ?_<;>intro k18
 refine Jz 3 ?_
 refine Jr (eO rfl rfl) ?_
 refine Jz 7 ?_
 refine Je1 results67 ?_
 ·first|(exfalso;omega)|(simp[Ha,Po,k8,k13,k16,k18];done)|simp[Ha,show op=23 from by omega,k8,k13,k16,k18]
 refine Jz 6 ?_
 refine Jr (zJ rfl rfl rfl (by assumption)) ?_
 refine Jz 6 ?_
 refine Je1 results67 ?_
 ·first|(exfalso;omega)|(simp[Ha,Po,k8,k13,k16,k18];done)|simp[Ha,show op=23 from by omega,k8,k13,k16,k18]
 refine Jz 6 ?_
 refine Jcp rfl ?_ ?_<;>intro k24
 refine Jz 5 ?_
 refine JgP ?_ ?_<;>intro g28
 refine Jz 15 ?_
 refine Je1 results67 ?_
 ·first|(exfalso;omega)|(simp[Ha,Po,k8,k13,k24,g28];done)|simp[Ha,show op=23 from by omega,k8,k13,k24,g28]
 refine Jz 5 ?_
 refine Jcp rfl ?_ ?_<;>intro k31
 refine Jz 9 ?_
 refine Je1 results67 ?_
 ·first|(exfalso;omega)|(simp[Ha,Po,k8,k13,k24,g28,k31];done)|simp[Ha,show op=23 from by omega,k8,k13,k24,g28,k31]
 refine Jz 6 ?_
 refine Jr (oK rfl rfl rfl (by assumption)) ?_
 refine Jz 6 ?_
 refine Je1 results67 ?_
 ·first|(exfalso;omega)|(simp[Ha,Po,k8,k13,k24,g28,k31];done)|simp[Ha,show op=23 from by omega,k8,k13,k24,g28,k31]
 refine Jz 6 ?_
 refine Jcp rfl ?_ ?_<;>intro k35
 refine Jz 4 ?_
 refine Jr (zF rfl rfl rfl) ?_
 refine Jz 6 ?_
 refine Je1 results67 ?_
 ·first|(exfalso;omega)|(simp[Ha,Po,k8,k13,k24,k35];done)|simp[Ha,show op=23 from by omega,k8,k13,k24,k35]
 refine Jz 6 ?_
 refine Jcp rfl ?_ ?_<;>intro k40
 refine Jz 4 ?_
 refine Jr (zG rfl rfl rfl) ?_
 refine Jz 6 ?_
 refine Je1 results67 ?_
 ·first|(exfalso;omega)|(simp[Ha,Po,k8,k13,k24,k35,k40];done)|simp[Ha,show op=23 from by omega,k8,k13,k24,k35,k40]
 refine Jz 6 ?_
 refine Jcp rfl ?_ ?_<;>intro k45
 refine Jz 5 ?_
 refine Jvf (Qj (decide (a=b))) rfl (ocn _) ?_
 refine Jz 6 ?_
 refine Je1 results67 ?_
 ·first|(exfalso;omega)|(simp[Ha,Po,k8,k13,k24,k35,k40,k45];done)|simp[Ha,show op=23 from by omega,k8,k13,k24,k35,k40,k45]
 refine Jz 6 ?_
 refine Jcp rfl ?_ ?_<;>intro k51
 refine Jz 5 ?_
 refine Jvf (Qj (decide (a≠b))) rfl (ocn _) ?_
 refine Jz 6 ?_
 refine Je1 results67 ?_
 ·first|(exfalso;omega)|(simp[Ha,Po,k8,k13,k24,k35,k40,k45,k51];done)|simp[Ha,show op=23 from by omega,k8,k13,k24,k35,k40,k45,k51]
 refine Jz 6 ?_
 refine Jcp rfl ?_ ?_<;>intro k57
 refine Jz 5 ?_
 refine Jvf (Qj (decide (a<b))) rfl (ocn _) ?_
 refine Jz 6 ?_
 refine Je1 results67 ?_
 ·first|(exfalso;omega)|(simp[Ha,Po,k8,k13,k24,k35,k40,k45,k51,k57];done)|simp[Ha,show op=23 from by omega,k8,k13,k24,k35,k40,k45,k51,k57]
 refine Jz 6 ?_
 refine Jcp rfl ?_ ?_<;>intro k63
 refine Jz 5 ?_
 refine Jvf (Qj (decide (a≤b))) rfl (ocn _) ?_
 refine Jz 6 ?_
 refine Je1 results67 ?_
 ·first|(exfalso;omega)|(simp[Ha,Po,k8,k13,k24,k35,k40,k45,k51,k57,k63];done)|simp[Ha,show op=23 from by omega,k8,k13,k24,k35,k40,k45,k51,k57,k63]
 refine Jz 6 ?_
 refine Jcp rfl ?_ ?_<;>intro k69
 refine Jz 5 ?_
 refine Jvf (Qj (decide (b<a))) rfl (ocn _) ?_
 refine Jz 6 ?_
 refine Je1 results67 ?_
 ·first|(exfalso;omega)|(simp[Ha,Po,k8,k13,k24,k35,k40,k45,k51,k57,k63,k69];done)|simp[Ha,show op=23 from by omega,k8,k13,k24,k35,k40,k45,k51,k57,k63,k69]
 refine Jz 6 ?_
 refine Jcp rfl ?_ ?_<;>intro k75
 refine Jz 5 ?_
 refine Jvf (Qj (decide (b≤a))) rfl (ocn _) ?_
 refine Jz 6 ?_
 refine Je1 results67 ?_
 ·first|(exfalso;omega)|(simp[Ha,Po,k8,k13,k24,k35,k40,k45,k51,k57,k63,k69,k75];done)|simp[Ha,show op=23 from by omega,k8,k13,k24,k35,k40,k45,k51,k57,k63,k69,k75]
 refine Jz 6 ?_
 refine Jcp rfl ?_ ?_<;>intro k81
 refine Jz 4 ?_
 refine JgP ?_ ?_<;>intro g85
 refine Jz 3 ?_
 refine Jvf (Qj (decide (b≠0))) rfl (ocn _) ?_
 refine Jz 6 ?_
 refine Je1 results67 ?_
 ·first|(exfalso;omega)|(simp[Ha,Po,k8,k13,k24,k35,k40,k45,k51,k57,k63,k69,k75,k81,g85];done)|simp[Ha,show op=23 from by omega,k8,k13,k24,k35,k40,k45,k51,k57,k63,k69,k75,k81,g85]
 refine Jz 3 ?_
 refine Jvf (Qj false) rfl (ocn _) ?_
 refine Jz 6 ?_
 refine Je1 results67 ?_
 ·first|(exfalso;omega)|(simp[Ha,Po,k8,k13,k24,k35,k40,k45,k51,k57,k63,k69,k75,k81,g85];done)|simp[Ha,show op=23 from by omega,k8,k13,k24,k35,k40,k45,k51,k57,k63,k69,k75,k81,g85]
 refine Jz 7 ?_
 refine JgP ?_ ?_<;>intro g92
 refine Jz 3 ?_
 refine Jvf (Qj true) rfl (ocn _) ?_
 refine Jz 4 ?_
 refine Je1 results67 ?_
 ·first|(exfalso;omega)|(simp[Ha,Po,k8,k13,k24,k35,k40,k45,k51,k57,k63,k69,k75,k81,g92];done)|simp[Ha,show op=23 from by omega,k8,k13,k24,k35,k40,k45,k51,k57,k63,k69,k75,k81,g92]
 refine Jz 3 ?_
 refine Jvf (Qj (decide (b≠0))) rfl (ocn _) ?_
 refine Jz 4 ?_
 refine Je1 results67 ?_
 ·first|(exfalso;omega)|(simp[Ha,Po,k8,k13,k24,k35,k40,k45,k51,k57,k63,k69,k75,k81,g92];done)|simp[Ha,show op=23 from by omega,k8,k13,k24,k35,k40,k45,k51,k57,k63,k69,k75,k81,g92]
theorem CO(l m:List (Int×Int))(k:Int):Fp (l++m) k=(Fp l k).or (Fp m k):=by
 unfold Fp
 rw[List.find?_append]
 cases l.find? (fun e=>decide (e.1=k))<;>rfl
theorem OH{l:List (Int×Int)}{i:Nat}{x:Int×Int}{k:Int}(hx:l[i]?=some x):Fp (l.take (i+1)) k=(Fp (l.take i) k).or (if x.1=k then some x.2 else none):=by
 rw[Cf hx,CO,Qr];rfl
theorem GY{l:List (Int×Int)}{i:Nat}{x:Int×Int}{k:Int}(hx:l[i]?=some x)(h:Fp (l.take i) k=none)(hk:x.1=k):Fp l k=some x.2:=by
 conv=>lhs;rw[←aFs i l]
 rw[CO,h,dog hx,Qr,aEh hk];rfl
theorem fP(A:OA)(ca:Nat)(l:List (Int×Int))(k:Int)(hl:l.length≤1000000):
    Dz 120 [vs A l ca,iv k] [ros Be A l] (fun v _=>v= .tuple #[iv ((Fp l k).getD 0), .bool (Fp l k).isSome]):=by
 refine Am func120 ntmps120 fun w0=>?_
 refine Jz 15 ?_
 refine Ce [0] rfl (Ie (fun mz ρ Γ=>∃(i:Nat),ρ=[(1,iv k),(8,vs A l ca),(9,nv l.length),(10,nv i)]∧Γ=[ros Be A l]∧mz=l.length-i∧(i≤l.length)∧(Fp (l.take i) k=none)) (l.length-0) ⟨⟨0,rfl,rfl,rfl,(aEw _),rfl⟩,sb⟩ ?_)
 rintro mz _ _ ⟨i,rfl,rfl,rfl,hi,hI⟩
 refine Jz 6 ?_
 refine Jcp rfl ?_ ?_<;>intro c11
 obtain⟨x,hx⟩:=exg l i om
 refine Jz 8 ?_
 refine Jal fun b7=>?_
 refine Jz 5 ?_
 refine Jr (Ir (j:=0) rfl (Sn.of (size:=1) underlying92 (by kernel_rfl)) rfl rfl (by decide)) ?_
 refine Jz 5 ?_
 refine Jcp rfl ?_ ?_<;>intro c17
 refine Js (To.g (Jr (Ir (j:=1) rfl (Sn.of (size:=1) underlying92 (by kernel_rfl)) rfl rfl (by decide)) ?_))
 refine Jz 11 ?_
 refine Gc (.inl rfl) results120 rfl rfl ?_
 show Value.tuple #[_,_]=Value.tuple #[_,_]
 rw[GY hx hI c17];rfl
 refine Jz 8 ?_
 refine Ce [1] rfl (Vb (l.length-(i+1)) om ⟨⟨i+1,rfl,rfl,rfl,om,(by rw[OH hx,hI,aEa c17];rfl)⟩,sb⟩)
 refine Jz 12 ?_
 refine Gc (.inl rfl) results120 rfl rfl ?_
 show Value.tuple #[_,_]=Value.tuple #[_,_]
 rw[show l=l.take i from(aEm om).symm,hI];rfl
theorem vI(A:OA)(ca:Nat)(l:List (Int×Int))(k v:Int)(hg:Good l):
    Dz 68 [vs A l ca,iv k,iv v] [ros Be A l] (fun r Γ'=>∃B q,r= .slice B (Oq l k v).length q∧Γ'=[ros Be B (Oq l k v)]):=by
 have hl:=hg.len
 refine Am func68 ntmps68 fun w0=>?_
 refine Jz 10 ?_
 refine Jvf (fP A ca l k om) rfl (ocs (oca 0 rfl) (ocn _)) ?_
 refine Jz 11 ?_
 refine JgB ?_ ?_<;>intro g17
 refine Jz 6 ?_
 refine Jcp rfl ?_ ?_<;>intro c21
 refine Jz 8 ?_
 refine Ce [0] rfl (Je1 results68 ?_)
 have hfin:Oq l k v=l:=by rw[←KN hg k v,aEh ⟨by simpa using g17,by omega⟩]
 exact⟨A,ca,by rw[hfin],by rw[hfin]⟩
 refine Jz 7 ?_
 refine Jqf (pI A ca l k v om) rfl (ocs (oca 0 rfl) (ocn _)) ?_
 rintro _ _ ⟨B,q,rfl,rfl⟩
 refine⟨rfl,?_⟩
 refine Jz 4 ?_
 refine Ce [0,0] rfl (Cq (Ce [0] rfl (Je1 results68 ?_)))
 have hfin:Oq l k v=Oi l k v:=by rw[←KN hg k v,aEa (by rintro⟨h,h2⟩;omega)]
 exact⟨B,q,by rw[hfin],by rw[hfin]⟩
 refine Jz 14 ?_
 refine Jqf (pI A ca l k v om) rfl (ocs (oca 0 rfl) (ocn _)) ?_
 rintro _ _ ⟨B,q,rfl,rfl⟩
 refine⟨rfl,?_⟩
 refine Jz 4 ?_
 refine Ce [0,0] rfl (Cq (Ce [0] rfl (Je1 results68 ?_)))
 have hfin:Oq l k v=Oi l k v:=by rw[←KN hg k v,aEa (by rintro⟨h,h2⟩;simp at g17;rw[g17]at h;exact h rfl)]
 exact⟨B,q,by rw[hfin],by rw[hfin]⟩
theorem Ms(b:Nat)(s:Sm)(d:Dm)(x:Int)(hl:d.stack.length≤1000000):
    Dz 66 [pv b,iv x] [box b (cQ s d) 136,rows encI 2 1 d.As d.qs d.stack] (fun v Γ'=>v= .tuple #[]∧∃A q,Γ'=[box b (xc s {d with As:=A,qs:=q,stack:=d.stack++[x]}) 136,rows encI 2 1 A q (d.stack++[x])]):=by
 refine Am func66 ntmps66 fun w0=>?_
 refine Jz 7 ?_
 refine Eg [iv x] fun b10=>?_
 refine Jge rfl rfl rfl (Bg Cy (i:=2) (j:=0) (el:=x) rfl s28 rfl rfl rfl rfl rfl om om) ?_
 rintro _ _ ⟨A11,q11,rfl,rfl⟩
 refine Jz 4 ?_
 refine Ce [1,1] rfl (Co (.inr rfl) results66 ?_)
 exact⟨rfl,_,_,rfl⟩
theorem Mc(b:Nat)(s:Sm)(d:Dm)(n:Nat)(hn:n≤d.stack.length∧d.stack.length≤1000000):
    Dz 65 [pv b,nv n] [box b (cQ s d) 136,rows encI 2 1 d.As d.qs d.stack] (fun v Γ'=>∃B q,v= .slice B (d.stack.drop (d.stack.length-n)).length q∧Γ'=[box b (xc s {d with stack:=(d.stack.take (d.stack.length-n))}) 136,rows encI 2 1 d.As d.qs (d.stack.take (d.stack.length-n)),rows encI 2 1 B q (d.stack.drop (d.stack.length-n))]):=by
 refine Am func65 ntmps65 fun w0=>?_
 refine Jz 13 ?_
 refine Jr (Cr (v':=nv (d.stack.length-n)) (congrArg iv om) (Gi rfl rfl rfl om)) ?_
 refine Jz 4 ?_
 refine Lt (p:=d.stack.length≤d.qs) (fun w hw=>Mw 1 rfl hw) (fun hqs=>?_)
 refine To.g (Jmk rfl rfl rfl (Hg (enc:=encI) rfl s28) ?_)
 rintro _ _ ⟨A14,rfl,rfl⟩
 refine Jz 5 ?_
 refine Jr (Cr (v':= .slice (Hr d.As d.qs (d.stack.length-n) 1) (d.stack.drop (d.stack.length-n)).length (d.qs-(d.stack.length-n))) (congrArg (fun z=>Value.slice (Hr d.As d.qs (d.stack.length-n) 1) z (d.qs-(d.stack.length-n))) (aFk).symm) (Mh (lo:=d.stack.length-n) rfl s28 rfl rfl om)) ?_
 refine Jge rfl rfl rfl (Hf Cy (i:=0) (m:=(d.stack.drop (d.stack.length-n))) rfl s28 rfl rfl rfl (fun w hs=>dF (lo:=d.stack.length-n) Cy 2 rfl hqs om w hs.each) (by rw[aFk];simp only[ln0];omega) (by rw[aFk];simp only[ln0];omega)) ?_
 rintro _ _ ⟨Bo,qo,rfl,rfl⟩
 refine Jz 11 ?_
 refine Jr (Cr (v':= .slice d.As (d.stack.take (d.stack.length-n)).length d.qs) (congrArg (fun z=>Value.slice d.As z d.qs) (by rw[aEe];omega)) (Eo (hi:=d.stack.length-n) rfl s28 rfl rfl om)) ?_
 refine Jz 12 ?_
 refine Jj (eP Cy (d.stack.length-n) om (Jj (Je1 results65 ?_)))
 exact⟨_,_,rfl,rfl⟩
def OI(d:Dv):Dv:={Zu d with fault:=true}
def eB(e:EfV)(d:Dv):Dv:=if 8≤d.sends then OI d else{d with sends:=d.sends+1,effs:=d.effs++[e]}
def YS(d:Dv):Dv:=if 200≤d.cost then OI d else{d with cost:=d.cost+1}
def rC(s:Sm)(k v:Int)(d:Dv):Dv:={d with disks:=d.disks+1,disk:=if decide (s.dsk+d.disks∈s.fail)=true then d.disk else Oq d.disk k v,effs:=d.effs++[⟨3,0,0,0,k,v,decide (s.dsk+d.disks∈s.fail),[]⟩]}
def kX(s:Sm)(j:Nat)(k:Int)(d:Dv):Dv:=if decide (s.dsk+d.disks∈s.fail)=true then{d with disks:=d.disks+1,effs:=d.effs++[⟨4,0,0,0,k,0,true,[]⟩]}else{d with disks:=d.disks+1,vars:=d.vars.set j ((Fp d.disk k).getD 0),effs:=d.effs++[⟨4,0,0,0,k,(Fp d.disk k).getD 0,false,[]⟩]}
theorem aT(b:Nat)(s:Sm)(d:Dm)(hel:d.effs.length≤4000000):
    Dz 40 [pv b] [box b (cQ s d) 136,rows encI 2 1 d.Av d.qv d.vars,rows Tb.cells 58 1 d.At d.qt d.tabs,De Be (d.tabs.map Tb.ar),ros Be d.dk.A d.dk.l,rows Dp 131 8 d.Ae d.qe d.effs,De encI (d.effs.map Ef.ar),rows encI 2 1 d.As d.qs d.stack] (fun r Γ'=>r= .tuple #[]∧∃d':Dm,Γ'=[box b (cQ s d') 136,rows encI 2 1 d'.Av d'.qv d'.vars,rows Tb.cells 58 1 d'.At d'.qt d'.tabs,De Be (d'.tabs.map Tb.ar),ros Be d'.dk.A d'.dk.l,rows Dp 131 8 d'.Ae d'.qe d'.effs,De encI (d'.effs.map Ef.ar),rows encI 2 1 d'.As d'.qs d'.stack]∧d'.val=OI d.val):=by
 refine Am func40 ntmps40 fun w0=>?_
 refine Jz 8 ?_
 refine Mg (c:=ros encI none []) rfl rfl (fun w=> .inl rfl) (Jz 7 ?_)
 refine Jr (.bd [iv 5,iv 0,iv 0,iv 0,iv 0,iv 0, .bool false,nz]) ?_
 refine Eg [iv 5,iv 0,iv 0,iv 0,iv 0,iv 0, .bool false,nz] fun b12=>?_
 refine Jge rfl rfl rfl (Bg kW (i:=7) (j:=0) (el:=(⟨5,0,0,0,0,0,false,none,0,([]:List Int)⟩:Ef)) rfl s79 rfl rfl rfl rfl rfl om om) ?_
 rintro _ _ ⟨A13,q13,rfl,rfl⟩
 refine Jz 5 ?_
 refine La ((d.effs++[(⟨5,0,0,0,0,0,false,none,0,([]:List Int)⟩:Ef)]).map Ef.ar) 8 rfl (Ih (mog (i:=1) rfl)) (Jk (Cu (Df (Ej (Ej (Ej (Ej (Ej (Ej (Co (.inr rfl) results40 ?_))))))))))
 exact⟨rfl,(⟨d.Av,d.qv,d.vars,d.At,d.qt,d.tabs,⟨d.dk.A,d.dk.q,d.dk.l⟩,A13,q13,(d.effs++[(⟨5,0,0,0,0,0,false,none,0,([]:List Int)⟩:Ef)]),d.cost,d.As,d.qs,d.stack,d.next,d.sends,d.disks,true⟩:Dm),rfl,by simp[OI,Zu,Ph,Dm.val,Ef.val]⟩
theorem YT(b:Nat)(s:Sm)(d:Dm)(hel:d.effs.length≤4000000)(hc:0≤d.cost∧d.cost≤200):
    Dz 70 [pv b] [box b (cQ s d) 136,rows encI 2 1 d.Av d.qv d.vars,rows Tb.cells 58 1 d.At d.qt d.tabs,De Be (d.tabs.map Tb.ar),ros Be d.dk.A d.dk.l,rows Dp 131 8 d.Ae d.qe d.effs,De encI (d.effs.map Ef.ar),rows encI 2 1 d.As d.qs d.stack] (fun r Γ'=>r= .bool (decide (d.cost<200))∧∃d':Dm,Γ'=[box b (cQ s d') 136,rows encI 2 1 d'.Av d'.qv d'.vars,rows Tb.cells 58 1 d'.At d'.qt d'.tabs,De Be (d'.tabs.map Tb.ar),ros Be d'.dk.A d'.dk.l,rows Dp 131 8 d'.Ae d'.qe d'.effs,De encI (d'.effs.map Ef.ar),rows encI 2 1 d'.As d'.qs d'.stack]∧d'.val=YS d.val):=by
 have hcs:0≤d.cost∧d.cost≤200:=hc
 refine Am func70 ntmps70 fun w0=>?_
 refine Jz 16 ?_
 refine Jcp rfl ?_ ?_<;>intro c8
 refine Jz 3 ?_
 refine Jcf [0,0,0,0,0,0,0,0] (aT b s d hel) ?_
 rintro _ _ ⟨rfl,d',rfl,hv⟩
 refine Jz 9 ?_
 refine Je1 results70 ?_
 exact⟨congrArg Value.bool (aEo om).symm,d',rfl,by rw[hv];exact(aEh (show 200≤d.val.cost from c8)).symm⟩
 refine Jz 9 ?_
 refine Jr (Hl rfl rfl rfl om) ?_
 refine Jz 12 ?_
 refine Je1 results70 ?_
 exact⟨congrArg Value.bool (aEk om).symm,(⟨d.Av,d.qv,d.vars,d.At,d.qt,d.tabs,⟨d.dk.A,d.dk.q,d.dk.l⟩,d.Ae,d.qe,d.effs,d.cost+1,d.As,d.qs,d.stack,d.next,d.sends,d.disks,d.fault⟩:Dm),rfl,(aEa (show¬200≤d.val.cost from c8)).symm⟩
theorem UC(b:Nat)(s:Sm)(d:Dm)(e:Ef)(hel:d.effs.length≤4000000)(hs:0≤d.sends∧d.sends≤8):
    Dz 71 [pv b, .agg #[iv e.k,iv e.to,iv e.h,iv e.d,iv e.key,iv e.v, .bool e.f,vs e.A e.args e.q]] [box b (cQ s d) 136,rows encI 2 1 d.Av d.qv d.vars,rows Tb.cells 58 1 d.At d.qt d.tabs,De Be (d.tabs.map Tb.ar),ros Be d.dk.A d.dk.l,rows Dp 131 8 d.Ae d.qe d.effs,De encI (d.effs.map Ef.ar),rows encI 2 1 d.As d.qs d.stack,ros encI e.A e.args] (fun r Γ'=>r= .tuple #[]∧∃d':Dm,Γ'=[box b (cQ s d') 136,rows encI 2 1 d'.Av d'.qv d'.vars,rows Tb.cells 58 1 d'.At d'.qt d'.tabs,De Be (d'.tabs.map Tb.ar),ros Be d'.dk.A d'.dk.l,rows Dp 131 8 d'.Ae d'.qe d'.effs,De encI (d'.effs.map Ef.ar),rows encI 2 1 d'.As d'.qs d'.stack]∧d'.val=eB e.val d.val):=by
 have hss:0≤d.sends∧d.sends≤8:=hs
 refine Am func71 ntmps71 fun w0=>?_
 refine Js (To.g (Jbo fun b3=>?_))
 refine Jz 12 ?_
 refine Jcp rfl ?_ ?_<;>intro c8
 refine Jz 3 ?_
 refine Jcf [1,1,1,1,1,1,1,1] (aT b s d hel) ?_
 rintro _ _ ⟨rfl,d',rfl,hv⟩
 refine Jz 4 ?_
 refine Jk (Kt (Co (.inl rfl) results71 ?_))
 exact⟨rfl,d',rfl,by rw[hv];exact(aEh (show 8≤d.val.sends from c8)).symm⟩
 refine Jz 8 ?_
 refine Jr (Hl rfl rfl rfl om) ?_
 refine Jz 5 ?_
 refine Jfw [] [0,1,2,3,4,105,106,207,8508,9,10,11,512] (ocn _) ?_
 refine Jz 7 ?_
 refine Es [iv e.k,iv e.to,iv e.h,iv e.d,iv e.key,iv e.v, .bool e.f,vs e.A e.args e.q] fun b25=>?_
 refine Fw.ge rfl rfl rfl rfl (Bg kW (i:=7) (j:=0) (el:=e) rfl s79 rfl rfl rfl rfl rfl om om) ?_
 rintro _ _ ⟨A26,q26,rfl,rfl⟩
 refine⟨ocn _,?_⟩
 refine Jz 3 ?_
 refine Fw.up rfl rfl rfl (Up.store (i:=2) rfl rfl rfl c79 rfl rfl (bt1 rfl)) (ocn _) ?_
 refine Fw.fin ?_
 refine La ((d.effs++[e]).map Ef.ar) 8 rfl (Ih (mog (i:=10) rfl)) (Fy (Jk (Cu (Df (Ej (Ej (Ej (Ej (Ej (Ej (Co (.inr rfl) results71 ?_)))))))))))
 exact⟨rfl,(⟨d.Av,d.qv,d.vars,d.At,d.qt,d.tabs,⟨d.dk.A,d.dk.q,d.dk.l⟩,A26,q26,(d.effs++[e]),d.cost,d.As,d.qs,d.stack,d.next,d.sends+1,d.disks,d.fault⟩:Dm),rfl,by unfold eB;rw[aEa (show¬8≤d.val.sends from c8)];simp[Dm.val]⟩
theorem vJ(b:Nat)(s:Sm)(d:Dm)(hd:0≤d.disks∧d.disks≤2000000)(hk:0≤s.dsk∧s.dsk≤1000000000)(hfl:s.fail.length≤1000000):
    Dz 121 [pv b] [box b (cQ s d) 136,rows encI 2 1 d.Av d.qv d.vars,rows Tb.cells 58 1 d.At d.qt d.tabs,De Be (d.tabs.map Tb.ar),ros Be d.dk.A d.dk.l,rows Dp 131 8 d.Ae d.qe d.effs,De encI (d.effs.map Ef.ar),rows encI 2 1 d.As d.qs d.stack,ros encI s.Af s.fail] (fun r Γ'=>r= .bool (decide (s.dsk+d.disks∈s.fail))∧∃d':Dm,Γ'=[box b (cQ s d') 136,rows encI 2 1 d'.Av d'.qv d'.vars,rows Tb.cells 58 1 d'.At d'.qt d'.tabs,De Be (d'.tabs.map Tb.ar),ros Be d'.dk.A d'.dk.l,rows Dp 131 8 d'.Ae d'.qe d'.effs,De encI (d'.effs.map Ef.ar),rows encI 2 1 d'.As d'.qs d'.stack]∧d'={d with disks:=d.disks+1}):=by
 have hdd:0≤d.disks∧d.disks≤2000000:=hd
 have hds:0≤s.dsk∧s.dsk≤1000000000:=hk
 refine Am func121 ntmps121 fun w0=>?_
 refine Jz 6 ?_
 refine Jfw [] [0,1,2,3,5,6,7,104,108,9,10] (ocn _) ?_
 refine Jz 9 ?_
 refine Fw.f rfl (Hl rfl rfl rfl om) ?_
 refine Jz 9 ?_
 refine Jr (Hl rfl rfl rfl om) ?_
 refine Jz 18 ?_
 refine Ie (fun mz ρ Γ=>∃(i:Nat),ρ=[(3,iv (s.dsk+d.disks)),(27,vs s.Af s.fail s.qf),(28,nv s.fail.length),(29,nv i)]∧Γ=[box b [vs s.Aa s.args s.qa,iv s.now,vs s.Ag s.flags s.qg,iv s.dsk,vs s.Af s.fail s.qf,vs d.Av d.vars d.qv,vs d.At d.tabs d.qt,vs d.dk.A d.dk.l d.dk.q,vs d.Ae d.effs d.qe,iv d.cost,vs d.As d.stack d.qs,iv (d.disks+1),iv d.sends, .bool d.fault, .string bE,nz,nz, .string bE,nz,nz,nz,iv 0] 136,rows encI 2 1 d.Av d.qv d.vars,rows Tb.cells 58 1 d.At d.qt d.tabs,De Be (d.tabs.map Tb.ar),ros Be d.dk.A d.dk.l,rows Dp 131 8 d.Ae d.qe d.effs,De encI (d.effs.map Ef.ar),rows encI 2 1 d.As d.qs d.stack,ros encI s.Af s.fail]∧mz=s.fail.length-i∧(i≤s.fail.length)∧(¬s.dsk+d.disks∈s.fail.take i)) (s.fail.length-0) ⟨⟨0,rfl,rfl,rfl,(aEw _),(by simp)⟩,sb⟩ ?_
 rintro mz _ _ ⟨i,rfl,rfl,rfl,hi,hI⟩
 refine Jz 6 ?_
 refine Jcp rfl ?_ ?_<;>intro c30
 obtain⟨x,hx⟩:=exg s.fail i om
 refine Jz 18 ?_
 refine Jcp rfl ?_ ?_<;>intro c35
 refine Jz 11 ?_
 refine Kt (Je1 results121 ?_)
 exact⟨congrArg Value.bool (aEk (by rw[←c35];exact mog hx)).symm,(⟨d.Av,d.qv,d.vars,d.At,d.qt,d.tabs,⟨d.dk.A,d.dk.q,d.dk.l⟩,d.Ae,d.qe,d.effs,d.cost,d.As,d.qs,d.stack,d.next,d.sends,d.disks+1,d.fault⟩:Dm),rfl,rfl⟩
 refine Jz 8 ?_
 refine Ot [(3,iv (s.dsk+d.disks)),(27,vs s.Af s.fail s.qf),(28,nv s.fail.length),(29,nv ((i+1)))] sb ?_
 refine Jag (s.fail.length-(i+1)) om ⟨i+1,rfl,rfl,rfl,om,(fun h=>by
  rw[Cf hx]at h
  rcases aFi.1 h with h1|h1
  ·exact hI h1
  ·rw[aEr]at h1;exact c35 h1.symm)⟩
 refine Jz 11 ?_
 refine Kt (Je1 results121 ?_)
 exact⟨congrArg Value.bool (aEo (by rw[show s.fail=s.fail.take i from(aEm om).symm];exact hI)).symm,(⟨d.Av,d.qv,d.vars,d.At,d.qt,d.tabs,⟨d.dk.A,d.dk.q,d.dk.l⟩,d.Ae,d.qe,d.effs,d.cost,d.As,d.qs,d.stack,d.next,d.sends,d.disks+1,d.fault⟩:Dm),rfl,rfl⟩
theorem OJ(b:Nat)(s:Sm)(d:Dm)(k v:Int)(hel:d.effs.length≤4000000)(hd:0≤d.disks∧d.disks≤2000000)(hk:0≤s.dsk∧s.dsk≤1000000000)(hfl:s.fail.length≤1000000)(hg:Good d.dk.l):
    Dz 72 [pv b,iv k,iv v] [box b (cQ s d) 136,rows encI 2 1 d.Av d.qv d.vars,rows Tb.cells 58 1 d.At d.qt d.tabs,De Be (d.tabs.map Tb.ar),ros Be d.dk.A d.dk.l,rows Dp 131 8 d.Ae d.qe d.effs,De encI (d.effs.map Ef.ar),rows encI 2 1 d.As d.qs d.stack,ros encI s.Af s.fail] (fun r Γ'=>r= .bool (decide (s.dsk+d.disks∈s.fail))∧∃d':Dm,Γ'=[box b (cQ s d') 136,rows encI 2 1 d'.Av d'.qv d'.vars,rows Tb.cells 58 1 d'.At d'.qt d'.tabs,De Be (d'.tabs.map Tb.ar),ros Be d'.dk.A d'.dk.l,rows Dp 131 8 d'.Ae d'.qe d'.effs,De encI (d'.effs.map Ef.ar),rows encI 2 1 d'.As d'.qs d'.stack]∧d'.val=rC s k v d.val):=by
 refine Am func72 ntmps72 fun w0=>?_
 refine Jz 8 ?_
 refine Jcf [0,0,0,0,0,0,0,0,0] (vJ b s d hd hk hfl) ?_
 rintro _ _ ⟨rfl,_,rfl,rfl⟩
 refine Jz 10 ?_
 refine Ed rfl ?_ ?_<;>intro c11
 refine Jz 10 ?_
 refine Jcf [4] (vI d.dk.A d.dk.q d.dk.l k v hg) ?_
 rintro _ _ ⟨Bd,qd,rfl,rfl⟩
 refine Jz 8 ?_
 refine Mg (c:=ros encI none []) rfl rfl (fun w=> .inl rfl) (Jz 10 ?_)
 refine Jr (.bd [iv 3,iv 0,iv 0,iv 0,iv k,iv v, .bool (decide (s.dsk+d.disks∈s.fail)),nz]) ?_
 refine Eg [iv 3,iv 0,iv 0,iv 0,iv k,iv v, .bool (decide (s.dsk+d.disks∈s.fail)),nz] fun b36=>?_
 refine Jge rfl rfl rfl (Bg kW (i:=7) (j:=0) (el:=(⟨3,0,0,0,k,v,(decide (s.dsk+d.disks∈s.fail)),none,0,([]:List Int)⟩:Ef)) rfl s79 rfl rfl rfl rfl rfl om om) ?_
 rintro _ _ ⟨A37,q37,rfl,rfl⟩
 refine Jz 13 ?_
 refine La ((d.effs++[(⟨3,0,0,0,k,v,(decide (s.dsk+d.disks∈s.fail)),none,0,([]:List Int)⟩:Ef)]).map Ef.ar) 8 rfl (Ih (mog (i:=1) rfl)) (Jk (Cu (Df (Ej (Jj (Ej (Ej (Ej (Ej (Je1 results72 ?_))))))))))
 have hb2:decide (s.dsk+d.disks∈s.fail)=false:=by simpa using c11
 have hb:decide (s.dsk+d.val.disks∈s.fail)=false:=hb2
 exact⟨rfl,(⟨d.Av,d.qv,d.vars,d.At,d.qt,d.tabs,⟨Bd,qd,(Oq d.dk.l k v)⟩,A37,q37,(d.effs++[(⟨3,0,0,0,k,v,(decide (s.dsk+d.disks∈s.fail)),none,0,([]:List Int)⟩:Ef)]),d.cost,d.As,d.qs,d.stack,d.next,d.sends,d.disks+1,d.fault⟩:Dm),rfl,by unfold rC;rw[hb];simp only[Dm.val,aEq,aFn,List.map_nil,Ef.val,hb2];rfl⟩
 refine Jz 3 ?_
 refine Mg (c:=ros encI none []) rfl rfl (fun w=> .inl rfl) (Jz 10 ?_)
 refine Jr (.bd [iv 3,iv 0,iv 0,iv 0,iv k,iv v, .bool (decide (s.dsk+d.disks∈s.fail)),nz]) ?_
 refine Eg [iv 3,iv 0,iv 0,iv 0,iv k,iv v, .bool (decide (s.dsk+d.disks∈s.fail)),nz] fun b36_2=>?_
 refine Jge rfl rfl rfl (Bg kW (i:=7) (j:=0) (el:=(⟨3,0,0,0,k,v,(decide (s.dsk+d.disks∈s.fail)),none,0,([]:List Int)⟩:Ef)) rfl s79 rfl rfl rfl rfl rfl om om) ?_
 rintro _ _ ⟨A37_2,q37_2,rfl,rfl⟩
 refine Jz 13 ?_
 refine La ((d.effs++[(⟨3,0,0,0,k,v,(decide (s.dsk+d.disks∈s.fail)),none,0,([]:List Int)⟩:Ef)]).map Ef.ar) 8 rfl (Ih (mog (i:=1) rfl)) (Jk (Cu (Df (Ej (Ej (Ej (Ej (Ej (Ej (Je1 results72 ?_))))))))))
 have hb2:decide (s.dsk+d.disks∈s.fail)=true:=by simpa using c11
 have hb:decide (s.dsk+d.val.disks∈s.fail)=true:=hb2
 exact⟨rfl,(⟨d.Av,d.qv,d.vars,d.At,d.qt,d.tabs,⟨d.dk.A,d.dk.q,d.dk.l⟩,A37_2,q37_2,(d.effs++[(⟨3,0,0,0,k,v,(decide (s.dsk+d.disks∈s.fail)),none,0,([]:List Int)⟩:Ef)]),d.cost,d.As,d.qs,d.stack,d.next,d.sends,d.disks+1,d.fault⟩:Dm),rfl,by unfold rC;rw[hb];simp only[Dm.val,aEq,aFn,List.map_nil,Ef.val,hb2];rfl⟩
theorem OL(b:Nat)(s:Sm)(d:Dm)(j:Nat)(y k:Int)(hx:d.vars[j]?=some y)(hel:d.effs.length≤4000000)(hd:0≤d.disks∧d.disks≤2000000)(hk:0≤s.dsk∧s.dsk≤1000000000)(hfl:s.fail.length≤1000000)(hg:Good d.dk.l):
    Dz 73 [pv b,nv j,iv k] [box b (cQ s d) 136,rows encI 2 1 d.Av d.qv d.vars,rows Tb.cells 58 1 d.At d.qt d.tabs,De Be (d.tabs.map Tb.ar),ros Be d.dk.A d.dk.l,rows Dp 131 8 d.Ae d.qe d.effs,De encI (d.effs.map Ef.ar),rows encI 2 1 d.As d.qs d.stack,ros encI s.Af s.fail] (fun r Γ'=>r= .bool (decide (s.dsk+d.disks∈s.fail))∧∃d':Dm,Γ'=[box b (cQ s d') 136,rows encI 2 1 d'.Av d'.qv d'.vars,rows Tb.cells 58 1 d'.At d'.qt d'.tabs,De Be (d'.tabs.map Tb.ar),ros Be d'.dk.A d'.dk.l,rows Dp 131 8 d'.Ae d'.qe d'.effs,De encI (d'.effs.map Ef.ar),rows encI 2 1 d'.As d'.qs d'.stack]∧d'.val=kX s j k d.val):=by
 have hjl:j<d.vars.length:=(aEc.1 hx).1
 refine Am func73 ntmps73 fun w0=>?_
 refine Jz 9 ?_
 refine Jcf [0,0,0,0,0,0,0,0,0] (vJ b s d hd hk hfl) ?_
 rintro _ _ ⟨rfl,_,rfl,rfl⟩
 refine Jn (Jt (Ed rfl (fun c10=>?_) (fun c10=>?_)))
 refine Js (Mg (c:=ros encI none []) rfl rfl (fun w=> .inl rfl) (Jz 8 ?_))
 refine Jr (.bd [iv 4,iv 0,iv 0,iv 0,iv k,iv 0, .bool true,nz]) ?_
 refine Eg [iv 4,iv 0,iv 0,iv 0,iv k,iv 0, .bool true,nz] fun b19=>?_
 refine Jge rfl rfl rfl (Bg kW (i:=7) (j:=0) (el:=(⟨4,0,0,0,k,0,true,none,0,([]:List Int)⟩:Ef)) rfl s79 rfl rfl rfl rfl rfl om om) ?_
 rintro _ _ ⟨A20,q20,rfl,rfl⟩
 refine Jz 13 ?_
 refine La ((d.effs++[(⟨4,0,0,0,k,0,true,none,0,([]:List Int)⟩:Ef)]).map Ef.ar) 8 rfl (Ih (mog (i:=1) rfl)) (Jk (Cu (Df (Ej (Ej (Ej (Ej (Ej (Ej (Je1 results73 ?_))))))))))
 have hb:decide (s.dsk+d.val.disks∈s.fail)=true:=c10
 exact⟨congrArg Value.bool c10.symm,(⟨d.Av,d.qv,d.vars,d.At,d.qt,d.tabs,⟨d.dk.A,d.dk.q,d.dk.l⟩,A20,q20,(d.effs++[(⟨4,0,0,0,k,0,true,none,0,([]:List Int)⟩:Ef)]),d.cost,d.As,d.qs,d.stack,d.next,d.sends,d.disks+1,d.fault⟩:Dm),rfl,by unfold kX;rw[aEh hb];simp[Dm.val,Ef.val]⟩
 refine Jz 11 ?_
 refine Jvf (fP d.dk.A d.dk.q d.dk.l k (by have:=hg.len;omega)) rfl (ocs (oca 4 rfl) (ocn _)) ?_
 refine Jz 18 ?_
 refine To.u (Up.store (i:=1) rfl rfl rfl c2 rfl rfl (Ee Cy (y:=((Fp d.dk.l k).getD 0)) (by decide) om)) ?_
 refine Jz 3 ?_
 refine Mg (c:=ros encI none []) rfl rfl (fun w=> .inl rfl) (Jz 9 ?_)
 refine Jr (.bd [iv 4,iv 0,iv 0,iv 0,iv k,iv ((Fp d.dk.l k).getD 0), .bool false,nz]) ?_
 refine Eg [iv 4,iv 0,iv 0,iv 0,iv k,iv ((Fp d.dk.l k).getD 0), .bool false,nz] fun b53=>?_
 refine Jge rfl rfl rfl (Bg kW (i:=7) (j:=0) (el:=(⟨4,0,0,0,k,(Fp d.dk.l k).getD 0,false,none,0,([]:List Int)⟩:Ef)) rfl s79 rfl rfl rfl rfl rfl om om) ?_
 rintro _ _ ⟨A54,q54,rfl,rfl⟩
 refine Jz 12 ?_
 refine Jas [row 131 8 (some ⟨b53,0,none⟩) 1 1 [iv 4,iv 0,iv 0,iv 0,iv k,iv ((Fp d.dk.l k).getD 0), .bool false,nz],ros encI none ([]:List Int),box b [vs s.Aa s.args s.qa,iv s.now,vs s.Ag s.flags s.qg,iv s.dsk,vs s.Af s.fail s.qf,vs d.Av (d.vars.set j ((Fp d.dk.l k).getD 0)) d.qv,vs d.At d.tabs d.qt,vs d.dk.A d.dk.l d.dk.q,vs A54 (d.effs++[(⟨4,0,0,0,k,(Fp d.dk.l k).getD 0,false,none,0,([]:List Int)⟩:Ef)]) q54,iv d.cost,vs d.As d.stack d.qs,iv (d.disks+1),iv d.sends, .bool d.fault, .string bE,nz,nz, .string bE,nz,nz,nz,iv 0] 136,rows encI 2 1 d.Av d.qv (d.vars.set j ((Fp d.dk.l k).getD 0)),rows Tb.cells 58 1 d.At d.qt d.tabs,De Be (d.tabs.map Tb.ar),ros Be d.dk.A d.dk.l,rows Dp 131 8 A54 q54 (d.effs++[(⟨4,0,0,0,k,(Fp d.dk.l k).getD 0,false,none,0,([]:List Int)⟩:Ef)]),De encI (d.effs.map Ef.ar),rows encI 2 1 d.As d.qs d.stack] (by(try unfold vs);rw[aEj]<;>rfl) (La ((d.effs++[(⟨4,0,0,0,k,(Fp d.dk.l k).getD 0,false,none,0,([]:List Int)⟩:Ef)]).map Ef.ar) 8 rfl (Ih (mog (i:=1) rfl)) (Jk (Cu (Df (Ej (Ej (Ej (Ej (Ej (Ej (Je1 results73 ?_)))))))))))
 have hb:decide (s.dsk+d.val.disks∈s.fail)=false:=c10
 exact⟨congrArg Value.bool c10.symm,(⟨d.Av,d.qv,(d.vars.set j ((Fp d.dk.l k).getD 0)),d.At,d.qt,d.tabs,⟨d.dk.A,d.dk.q,d.dk.l⟩,A54,q54,(d.effs++[(⟨4,0,0,0,k,(Fp d.dk.l k).getD 0,false,none,0,([]:List Int)⟩:Ef)]),d.cost,d.As,d.qs,d.stack,d.next,d.sends,d.disks+1,d.fault⟩:Dm),rfl,by unfold kX;rw[aEa (by rw[hb];decide)];simp[Dm.val,Ef.val]⟩
end Go.Proofs.YtlihklladkagpaaGreatDoor
