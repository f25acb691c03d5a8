/- Own text. -/
import Derived.Test.YtlihklladkagpaaGreatDoorKa
import Derived.Test.YtlihklladkagpaaGreatDoorBd
set_option linter.unusedVariables false
set_option linter.unusedSimpArgs false
set_option maxHeartbeats 2000000
set_option maxRecDepth 100000
namespace Go.Proofs.YtlihklladkagpaaGreatDoor
open Go.RowKit Go.Flow Go.Mem Go.Sep Go.In
theorem Uu(o:List ByteArray)(h:PH)(l:List PH):Uz o (h::l)=Uz (if h.name∈o then o else o++[h.name]) l:=rfl
theorem Xw{l:List ByteArray}{i:Nat}{x s:ByteArray}(hx:l[i]?=some x):(decide (s∈l.take i)||decide (x=s))=decide (s∈l.take (i+1)):=by
 rw[Cf hx,Bool.eq_iff_iff]
 simp only[aFr,aFm,aFi,aEr]
 exact⟨fun h=>h.imp id Eq.symm,fun h=>h.imp id Eq.symm⟩
def bY(s:ByteArray)(o:Option Hd)(l:List Hd):Option Hd:=l.foldl (fun(o:Option Hd) (h:Hd)=>if h.name=s then some h else o) o
def Ei(s:ByteArray)(o:Option Hd)(l:List Vs):Option Hd:=l.foldl (fun(o:Option Hd) (v:Vs)=>bY s o v.l) o
abbrev Hd0:Hd:=⟨bE,none,0,[],none,0,[]⟩
def Gz(o:Option Hd):Hd:=o.getD Hd0
theorem Xd(s:ByteArray)(o:Option Hd)(h:Hd)(l:List Hd):bY s o (h::l)=bY s (if h.name=s then some h else o) l:=rfl
theorem GG(s:ByteArray)(o:Option Hd)(h:Vs)(l:List Vs):Ei s o (h::l)=Ei s (bY s o h.l) l:=rfl
theorem mdg{α β:Type}(f:α→β){l:List α}{k:Nat}{x:α}(hx:l[k]?=some x):(l.drop k).map f=f x::(l.drop (k+1)).map f:=by rw[dog hx];rfl
theorem NC{c:Cm}{v:Vs}{j:Nat}(hv:c.vers[j]?=some v):ros Me v.A v.l∈c.kids eR:=aEb _ (aEb _ (aEy.2 ⟨v,mog hv,aEd ..⟩))
theorem uQ(c:Cm):ros Ik c.An c.vers∈c.kids eR:=aEb _ (aEd ..)
theorem qX(c:Cm)(hcv:c.vers.length≤1000)(hvs:∀v∈c.vers,v.l.length≤100):
    aMa Tryz.prog 24 [.agg (cX c []).toArray] [all (Cm.kids eR c)] (fun v Γ'=>∃(A:OA) (q:Nat),v= .slice A (hnames (c.vers.map Vs.pure)).length q∧Γ'=[rows aMb 9 1 A q (hnames (c.vers.map Vs.pure))]):=by
 refine Am Tryz.func24 Tryz.ntmps24 fun w0=>?_
 refine Js (To.g (Jbo fun b1=>?_))
 refine Jz 10 ?_
 refine To.one 1 rfl (ros Ik c.An c.vers) rfl (uQ c) (Jz 8 ?_)
 refine Cz (aMb) 9 1 (Cw (fun s g mz ρ Γ=>∃(Ao:OA) (qo:Nat) (O:List ByteArray) (j:Nat),ρ=[s 1,(3,vs Ao O qo),s 12,s 13,(14,nv j)]∧Γ=[g 2,g 3,g 1,rows aMb 9 1 Ao qo O]∧mz=c.vers.length-j∧(j≤c.vers.length)∧(hnames (c.vers.map Vs.pure)=((c.vers.drop j).map Vs.pure).foldl Uz O)∧(O.length≤100*j)) ⟨⟨none,0,([]:List ByteArray),0,rfl,rfl,rfl,om,rfl,om⟩,sb⟩ ?_)
 rintro mz _ _ ⟨Ao,qo,O,j,rfl,rfl,rfl,hj,hO,hOl⟩
 refine Jz 6 ?_
 refine Jcp rfl ?_ ?_<;>intro c15
 obtain⟨v,hv⟩:=exg c.vers j om
 refine Jz 19 ?_
 refine To.one 1 rfl (ros Me v.A v.l) rfl (NC hv) (Cw (fun s g mz ρ Γ=>∃(Ao:OA) (qo:Nat) (O:List ByteArray) (k:Nat),ρ=[s 1,(3,vs Ao O qo),s 12,s 13,s 14,s 18,s 19,(20,nv k)]∧Γ=[g 1,g 2,g 3,g 0,rows aMb 9 1 Ao qo O]∧mz=v.l.length-k∧(k≤v.l.length)∧(hnames (c.vers.map Vs.pure)=((c.vers.drop (j+1)).map Vs.pure).foldl Uz (Uz O ((v.l.drop k).map Hd.pure)))∧(O.length≤100*j+k)) ⟨⟨Ao,qo,O,0,rfl,rfl,rfl,om,(by rw[hO,mdg _ hv];rfl),om⟩,sb⟩ ?_)
 rintro mz _ _ ⟨Ao,qo,O,k,rfl,rfl,rfl,hk,hO1,hOl1⟩
 have hvl:=hvs v (mog hv)
 refine Jz 6 ?_
 refine Jcp rfl ?_ ?_<;>intro c21
 obtain⟨h,hh⟩:=exg v.l k om
 refine Jz 8 ?_
 refine Jal fun b7=>?_
 refine Jz 17 ?_
 refine Cw (fun s g mz ρ Γ=>∃(i:Nat),ρ=[s 1,s 3,s 7,(8, .bool (decide (h.name∈O.take i))),s 12,s 13,s 14,s 18,s 19,s 20,s 24,s 25,(26,nv i)]∧Γ=[g 1,g 2,g 3,g 4,g 5,g 0]∧mz=O.length-i∧(i≤O.length)) ⟨⟨0,rfl,rfl,rfl,om⟩,⟨rfl,rfl,rfl,(congrArg (fun b=>some (Value.bool b)) (aEo (fun h=>by cases h)).symm),rfl,rfl,rfl,rfl,rfl,rfl,rfl,rfl,rfl,trivial⟩⟩ ?_
 rintro mz _ _ ⟨i,rfl,rfl,rfl,hi⟩
 refine Jz 6 ?_
 refine Jcp rfl ?_ ?_<;>intro c27
 obtain⟨x,hx⟩:=exg O i om
 refine Jz 13 ?_
 refine JgP ?_ ?_<;>intro g31
 refine Jz 14 ?_
 refine Hu ⟨⟨i+1,rfl,rfl,rfl,om⟩,⟨rfl,rfl,rfl,(congrArg (fun b=>some (Value.bool b)) (by rw[←Xw hx,aEk g31];rfl)),rfl,rfl,rfl,rfl,rfl,rfl,rfl,rfl,rfl,trivial⟩⟩
 refine Jz 3 ?_
 refine Jr (Nt rfl rfl rfl) ?_
 refine Jz 10 ?_
 refine Hu ⟨⟨i+1,rfl,rfl,rfl,om⟩,⟨rfl,rfl,rfl,(congrArg (fun b=>some (Value.bool b)) (by rw[←Xw hx,aEo g31];rfl)),rfl,rfl,rfl,rfl,rfl,rfl,rfl,rfl,rfl,trivial⟩⟩
 refine Jz 11 ?_
 refine Ed rfl ?_ ?_<;>intro c39
 have hm:¬(h.pure).name∈O:=by show¬h.name∈O;have:=c39;rw[aEm om]at this;simpa using this
 refine Jz 4 ?_
 refine Eg [.string h.name] fun b43=>?_
 refine Jge rfl rfl rfl (Bg Ec (i:=5) (j:=0) (el:=h.name) rfl s37 rfl rfl rfl rfl rfl om om) ?_
 rintro _ _ ⟨A44,q44,rfl,rfl⟩
 refine Jz 9 ?_
 refine Cg ⟨⟨A44,q44,(O++[h.name]),k+1,rfl,rfl,rfl,om,(by rw[hO1,mdg _ hh,Uu,aEa hm];rfl),(by rw[lap];show O.length+1≤_;omega)⟩,sb⟩
 have hm:(h.pure).name∈O:=by show h.name∈O;have:=c39;rw[aEm om]at this;simpa using this
 refine Jz 8 ?_
 refine Cg ⟨⟨Ao,qo,O,k+1,rfl,rfl,rfl,om,(by rw[hO1,mdg _ hh,Uu,aEh hm]),om⟩,sb⟩
 refine Jz 11 ?_
 refine Cg ⟨⟨Ao,qo,O,j+1,rfl,rfl,rfl,om,(by rw[hO1,aFh om];rfl),om⟩,sb⟩
 refine Jz 12 ?_
 refine Cu (Df (Du (Je1 Tryz.results24 ?_)))
 exact⟨Ao,qo,by rw[hO,aFh om];rfl,by rw[hO,aFh om];rfl⟩
theorem TD(c:Cm)(hcv:c.vers.length≤1000)(hvs:∀v∈c.vers,v.l.length≤100)(vn:Nat)(s:ByteArray):
    aMa Tryz.prog 25 [.agg (cX c []).toArray,nv vn, .string s] [all (Cm.kids eR c)] (fun v Γ'=>v= .tuple #[.agg (Me (Gz (Ei s none (c.vers.take vn)))).toArray, .bool (Ei s none (c.vers.take vn)).isSome]∧Γ'=[]):=by
 refine Am Tryz.func25 Tryz.ntmps25 fun w0=>?_
 refine Js (To.g (Jbo fun b3=>?_))
 refine Jal fun b6=>?_
 refine Jz 5 ?_
 refine Jal fun b8=>?_
 refine Jz 14 ?_
 refine To.one 3 rfl (ros Ik c.An c.vers) rfl (uQ c) (Cw (fun u g mz ρ Γ=>∃(o:Option Hd) (j:Nat),ρ=[u 1,u 2,u 3,u 6,u 8,(9, .bool o.isSome),(10,nv j)]∧Γ=[g 3,g 2,g 4,g 0,box b8 [.string ((Gz o).name), .slice ((Gz o).Ap) ((Gz o).ps.length) ((Gz o).qp), .slice ((Gz o).Ab) ((Gz o).body.length) ((Gz o).qb)] 40]∧mz=c.vers.length-j∧(j≤c.vers.length)∧(Ei s none (c.vers.take vn)=Ei s o ((c.vers.take vn).drop j))) ⟨⟨(none:Option Hd),0,rfl,rfl,rfl,om,rfl⟩,sb⟩ ?_)
 rintro mz _ _ ⟨o,j,rfl,rfl,rfl,hj,ho⟩
 refine Jz 3 ?_
 refine Nk [1,2,3,6,8,9,10] 22 ((decide (((j:Nat):Int)<((vn:Nat):Int)))&&decide (((j:Nat):Int)<((c.vers.length:Nat):Int))) ?_ ?_
 refine Jz 3 ?_
 refine JgP ?_ ?_<;>intro g16
 refine Jz 8 ?_
 refine Gg rfl (gg g16)
 refine Jz 8 ?_
 refine Gg rfl (gg g16)
 refine Ed rfl ?_ ?_<;>intro c22
 simp only[aFd,aFm]at c22
 obtain⟨c22,c22b⟩:=c22
 obtain⟨v,hv⟩:=exg c.vers j om
 have hvt:(c.vers.take vn)[j]?=some v:=by rw[List.getElem?_take,aEh om];exact hv
 refine Jz 16 ?_
 refine To.one 2 rfl (ros Me v.A v.l) rfl (NC hv) (Cw (fun u g mz ρ Γ=>∃(o:Option Hd) (k:Nat),ρ=[u 1,u 2,u 3,u 6,u 8,(9, .bool o.isSome),u 10,u 29,u 30,(31,nv k)]∧Γ=[g 1,g 2,g 3,g 4,g 0,box b8 [.string ((Gz o).name), .slice ((Gz o).Ap) ((Gz o).ps.length) ((Gz o).qp), .slice ((Gz o).Ab) ((Gz o).body.length) ((Gz o).qb)] 40]∧mz=v.l.length-k∧(k≤v.l.length)∧(Ei s none (c.vers.take vn)=Ei s (bY s o (v.l.drop k)) ((c.vers.take vn).drop (j+1)))) ⟨⟨o,0,rfl,rfl,rfl,om,(by rw[ho,dog hvt];rfl)⟩,sb⟩ ?_)
 rintro mz _ _ ⟨o,k,rfl,rfl,rfl,hk,ho1⟩
 have hvl:=hvs v (mog hv)
 refine Jz 6 ?_
 refine Jcp rfl ?_ ?_<;>intro c32
 obtain⟨h,hh⟩:=exg v.l k om
 refine Jz 8 ?_
 refine Jal fun b12=>?_
 refine Jz 8 ?_
 refine Jr (Nt rfl rfl rfl) ?_
 refine Jn (Jt (Jcp rfl (fun c38=>?_) (fun c38=>?_)))
 refine Jz 12 ?_
 refine Cg ⟨⟨(some h),k+1,rfl,rfl,rfl,om,(by rw[ho1,dog hh,Xd,aEh c38])⟩,sb⟩
 refine Jz 8 ?_
 refine Cg ⟨⟨o,k+1,rfl,rfl,rfl,om,(by rw[ho1,dog hh,Xd,aEa c38])⟩,sb⟩
 refine Jz 12 ?_
 refine Cg ⟨⟨o,j+1,rfl,rfl,rfl,om,(by rw[ho1,aFh om];rfl)⟩,sb⟩
 have hdr:(c.vers.take vn).drop j=[]:=by
  refine aFh ?_
  rw[aEe]
  simp only[aGn,aGa]at c22;omega
 refine Jz 14 ?_
 refine Lp [] rfl (.inl rfl) Tryz.results25 rfl (i:=1) rfl r40 rfl rfl ?_
 have he:Ei s none (c.vers.take vn)=o:=by rw[ho,hdr];rfl
 rw[he]
 exact⟨rfl,rfl⟩
end Go.Proofs.YtlihklladkagpaaGreatDoor
namespace Go.Sep
open Go.RowKit Go.Flow Go.Mem
section
variable{α:Type}{enc:α→List Value}{size:Nat}
theorem uR(E:Enc enc size){f:Nat}{u:Value}(hf:f<size){z:α}:∀(X:List α) (i:Nat) (y:α),X[i]?=some y→over (enc y) f [u]=enc z→over (X.flatMap enc) (i*size+f) [u]=(X.set i z).flatMap enc
 |[],i,y,h,_=>by simp at h
 | x::X,0,y,h,hz=>by
   obtain rfl:x=y:=by simpa using h
   unfold over at hz⊢
   rw[Nat.zero_mul,aFl,aFf,List.set_cons_zero,aFf,←hz,List.take_append_of_le_length (by rw[E.len];omega),List.drop_append_of_le_length (by rw[E.len];show f+1≤size;omega)]
   simp
 | x::X,i+1,y,h,hz=>by
   have ih:=uR E hf X i y (by simpa using h) hz
   unfold over at ih⊢
   have e1:(i+1)*size+f=size+(i*size+f):=by rw[Nat.add_mul];omega
   rw[List.set_cons_succ,aFf,aFf,e1,←ih]
   rw[List.take_append,List.drop_append,aEm (by rw[E.len];omega),List.drop_of_length_le (by rw[E.len];omega),E.len,show size+(i*size+f)-size=i*size+f by omega,show size+(i*size+f)+[u].length-size=i*size+f+[u].length by omega]
   simp
theorem Qu(E:Enc enc size){e:TypeId}{A:OA}{cap i f:Nat}{X:List α}{y z:α}{u:Value}(hi:X[i]?=some y)(hf:f<size)(hz:over (enc y) f [u]=enc z):(rows enc e size A cap X).takes (blk A) (ofs A+i*size+f) [u] (rows enc e size A cap (X.set i z)):=by
 have hl:i<X.length:=(aEc.1 hi).1
 have h:=bB (e:=e) (size:=size) (A:=A) (n:=X.length) (cap:=cap) (off:=i*size+f) (xs:=X.flatMap enc) (us:=[u]) (by
  have:(i+1)*size≤X.length*size:=Nat.mul_le_mul_right _ hl
  rw[Nat.add_mul]at this;show i*size+f+1≤_;omega) (by simp) (uR E hf X i y hi hz)
 have e1:rows enc e size A cap (X.set i z)=row e size A X.length cap ((X.set i z).flatMap enc):=by simp[rows]
 rw[e1,Nat.add_assoc];exact h
theorem uS{α:Type}(X Y:List α)(a:α):((X++[a])++Y)[X.length]?=some a:=by
 rw[aFb,aFw (aEu _)];simp
theorem kK{α:Type}(X Y:List α)(a b:α):((X++[a])++Y).set X.length b=(X++[b])++Y:=by
 rw[aFb,aFb,List.set_append_right _ _ (aEu _),aGj];rfl
end
end Go.Sep
namespace Go.Proofs.YtlihklladkagpaaGreatDoor
open Go.RowKit Go.Flow Go.Mem Go.Sep Go.In
structure aDn(F:Fl):Prop where
 flags:F.flags.length≤100
 comps:F.comps.length≤100
 each:∀c∈F.comps,c.vars.length≤1000∧c.vers.length≤1000∧∀v∈c.vers,v.l.length≤100
theorem ND(F:Fl):ros Jl F.Ac F.comps∈F.kids eR:=aEb _ (aEb _ (aEd ..))
theorem aKx(F:Fl):ros Gx F.Af F.flags∈F.kids eR:=aEd ..
theorem VI{F:Fl}{i:Nat}{c:Cm}(hc:F.comps[i]?=some c){x:Ai}(h:x∈c.kids eR):x∈F.kids eR:=aEb _ (aEb _ (aEb _ (aEy.2 ⟨c,mog hc,h⟩)))
theorem TE(c:Cm):ros Oj c.Av c.vars∈c.kids eR:=aEd ..
theorem TF(cc:Cc)(x:PE):cEs cc [x]=cE cc x:=aEz _
theorem uT(cc:Cc){l:List Ex}{j:Nat}{x:Ex}(h:l[j]?=some x):cEs cc (Cv (l.take (j+1)))=cEs cc (Cv (l.take j))++cE cc x.pure:=by
 rw[Cf h,Bz,aEq,BC,←Bz];congr 1;exact TF cc x.pure
theorem YF(cc:Cc){l:List Ex}{j:Nat}{x:Ex}(h:l[j]?=some x):(cEs cc (Cv (l.take j))).length+(cE cc x.pure).length≤(cEs cc (Cv l)).length:=by
 have e1:l=l.take (j+1)++l.drop (j+1):=(aFs ..).symm
 have e2:cEs cc (Cv l)=cEs cc (Cv (l.take (j+1)))++cEs cc (Cv (l.drop (j+1))):=by
  conv=>lhs;rw[e1,Bz,aEq,BC]
  rw[Bz,Bz]
 rw[e2,uT cc h,lap,lap];omega
theorem Yu(cc:Cc):∀l:List Ex,l.length≤(cEs cc (Cv l)).length
 |[]=>aEw _
 | x::r=>by
   have:=Yu cc r
   show r.length+1≤(cE cc x.pure++cEs cc (Cv r)).length
   rw[lap]
   have h1:1≤(cE cc x.pure).length:=by rw[Fu,cE,lap];exact Nat.le_add_left _ _
   omega
def Sb(c:Cc):PS→Nat→Nat→List Ins
 | ⟨k,s,h,es,t,e⟩,n,top=>
   let p:=n+1
   let j:Nat:=if e.isEmpty then 0 else 1
   if k=1 then [⟨24,c.vs s,0,0⟩]else if k=2 then [⟨25,c.ts s,0,0⟩]else if k=3 then [⟨26,c.ts s,0,0⟩]
    else if k=4 then⟨28,((p+(cB c t p).length+j:Nat):Int),0,0⟩::(cB c t p++ovr (p+(cB c t p).length) (cB c e (p+(cB c t p).length+1)) e.isEmpty)
    else if k=5 then⟨28,((p+(cB c t p).length+1:Nat):Int),0,0⟩::(cB c t p++[⟨27,((top:Nat):Int),0,0⟩])
    else if k=6 then [⟨30,(c.tg s h).1,(c.tg s h).2,((es.length:Nat):Int)⟩]
    else if k=7 then [⟨31,0,c.ah h,((es.length:Nat):Int)-1⟩]
    else if k=8 then⟨32,0,((p+j:Nat):Int),0⟩::ovr p (cB c e (p+1)) e.isEmpty
    else if k=9 then⟨33,c.vs s,((p+j:Nat):Int),0⟩::ovr p (cB c e (p+1)) e.isEmpty
    else if k=10 then [⟨34,0,0,0⟩]else []
theorem qY(c:Cc)(s:PS)(top:Nat):cS c s top=((⟨29,0,0,0⟩:Ins)::cEs c s.exprs)++Sb c s (top+(cEs c s.exprs).length+1) top:=by
 cases s;rfl
theorem TG(c:Cc)(s:St){l X:List Ins}(hX:X=(l++[⟨29,0,0,0⟩])++cEs c (Cv s.exprs)):l++cS c s.pure l.length=X++Sb c s.pure X.length l.length:=by
 rw[qY,hX]
 have e1:((l++[(⟨29,0,0,0⟩:Ins)])++cEs c (Cv s.exprs)).length=l.length+(cEs c (Cv s.exprs)).length+1:=by
  rw[lap,lap];show l.length+1+_=_;omega
 have e2:s.pure.exprs=Cv s.exprs:=by rw[Nh]
 rw[e1,e2];simp only[aFb,aGp,aGi]
section
variable{c:Cc}{s:St}{n top:Nat}
theorem VJ(h:s.kind=1):Sb c s.pure n top=[⟨24,c.vs s.name,0,0⟩]:=by rw[Nh,h];rfl
theorem VK(h:s.kind=2):Sb c s.pure n top=[⟨25,c.ts s.name,0,0⟩]:=by rw[Nh,h];rfl
theorem VL(h:s.kind=3):Sb c s.pure n top=[⟨26,c.ts s.name,0,0⟩]:=by rw[Nh,h];rfl
theorem VM(h:s.kind=4):Sb c s.pure n top=⟨28,((n+1+(cB c (Ba s.thn) (n+1)).length+(if(Ba s.els).isEmpty then 0 else 1):Nat):Int),0,0⟩::(cB c (Ba s.thn) (n+1)++ovr (n+1+(cB c (Ba s.thn) (n+1)).length) (cB c (Ba s.els) (n+1+(cB c (Ba s.thn) (n+1)).length+1)) (Ba s.els).isEmpty):=by rw[Nh,h];rfl
theorem VN(h:s.kind=5):Sb c s.pure n top=⟨28,((n+1+(cB c (Ba s.thn) (n+1)).length+1:Nat):Int),0,0⟩::(cB c (Ba s.thn) (n+1)++[⟨27,((top:Nat):Int),0,0⟩]):=by rw[Nh,h];rfl
theorem VO(h:s.kind=6):Sb c s.pure n top=[⟨30,(c.tg s.name s.hand).1,(c.tg s.name s.hand).2,((s.exprs.length:Nat):Int)⟩]:=by rw[Nh,h,←Fz s.exprs];rfl
theorem VP(h:s.kind=7):Sb c s.pure n top=[⟨31,0,c.ah s.hand,((s.exprs.length:Nat):Int)-1⟩]:=by rw[Nh,h,←Fz s.exprs];rfl
theorem VQ(h:s.kind=8):Sb c s.pure n top=⟨32,0,((n+1+(if(Ba s.els).isEmpty then 0 else 1):Nat):Int),0⟩::ovr (n+1) (cB c (Ba s.els) (n+2)) (Ba s.els).isEmpty:=by rw[Nh,h];rfl
theorem VR(h:s.kind=9):Sb c s.pure n top=⟨33,c.vs s.name,((n+1+(if(Ba s.els).isEmpty then 0 else 1):Nat):Int),0⟩::ovr (n+1) (cB c (Ba s.els) (n+2)) (Ba s.els).isEmpty:=by rw[Nh,h];rfl
theorem NE(h:s.kind=10):Sb c s.pure n top=[⟨34,0,0,0⟩]:=by rw[Nh,h];rfl
theorem aBz(h:¬s.kind=1∧¬s.kind=2∧¬s.kind=3∧¬s.kind=4∧¬s.kind=5∧¬s.kind=6∧¬s.kind=7∧¬s.kind=8∧¬s.kind=9∧¬s.kind=10):Sb c s.pure n top=[]:=by
 obtain⟨h1,h2,h3,h4,h5,h6,h7,h8,h9,h10⟩:=h
 rw[Nh];unfold Sb
 simp only[aEa h1,aEa h2,aEa h3,aEa h4,aEa h5,aEa h6,aEa h7,aEa h8,aEa h9,aEa h10]
end
section
variable{α:Type}(X Y Z V:List α)(a b j k:α)
theorem uU:(((X++[a])++Y)++Z)[X.length]?=some a:=by rw[aFb (X++[a])];exact uS ..
theorem uV:(((X++[a])++Y)++Z).set X.length b=((X++[b])++Y)++Z:=by rw[aFb (X++[a]),kK,←aFb]
end
section
variable{cc:Cc}{t e:List PS}{X Y1 W1 Z1 WF:List Ins}
theorem Wm(X:List Ins)(y:Ins):(X++[y]).length=X.length+1:=by rw[lap];rfl
theorem at4{y:Ins}(hY1:Y1=(X++[y])++Z1):Y1[X.length]?=some y:=by rw[hY1];exact uS ..
theorem aCa{y j:Ins}(hY1:Y1=(X++[y])++Z1):(Y1++[j])[X.length]?=some y:=by rw[hY1];exact uU ..
theorem aDo{y j:Ins}(hY1:Y1=(X++[y])++cB cc t (X++[y]).length)(hWF:WF=(Y1++[j]).set X.length ⟨28,(((Y1++[j]).length:Nat):Int),0,0⟩):
    WF=X++(⟨28,((X.length+1+(cB cc t (X.length+1)).length+1:Nat):Int),0,0⟩::(cB cc t (X.length+1)++[j])):=by
 rw[Wm]at hY1
 have hyl:Y1.length=X.length+1+(cB cc t (X.length+1)).length:=by rw[hY1,lap,Wm]
 rw[hWF,Wm,hyl,hY1,uV];simp
end
theorem NF(p:Nat)(e:List Ins){b:Bool}(h:b=false):(ovr p e b).length=e.length+1:=by rw[h];rfl
theorem Wn(l:List St):(Ba l).isEmpty=decide (l.length=0):=by cases l<;>rfl
theorem YG(c:Cc)(s:PS)(top:Nat):1≤(cS c s top).length:=by rw[qY,aGp,lc1];exact Nat.le_add_left _ _
theorem NG(c:Cc):∀(l:List St) (top:Nat),l.length≤(cB c (Ba l) top).length
 |[],_=>aEu _
 | x::r,top=>by
   have h1:=YG c x.pure top
   have h2:=NG c r (top+(cS c x.pure top).length)
   show r.length+1≤(cS c x.pure top++cB c (Ba r) _).length
   rw[lap];omega
theorem YH(c:Cc)(s:PS)(top:Nat):cB c [s] top=cS c s top:=aEz _
theorem BX(c:Cc){l:List St}{j:Nat}{x:St}(top:Nat)(h:l[j]?=some x):cB c (Ba (l.take (j+1))) top=cB c (Ba (l.take j)) top++cS c x.pure (top+(cB c (Ba (l.take j)) top).length):=by
 rw[Cf h,Je,aEq,xE,←Je];congr 1;exact YH ..
theorem aCb(c:Cc){l:List St}{j:Nat}{x:St}(top:Nat)(h:l[j]?=some x):(cB c (Ba (l.take j)) top).length+(cS c x.pure (top+(cB c (Ba (l.take j)) top).length)).length≤(cB c (Ba l) top).length:=by
 have e2:cB c (Ba l) top=cB c (Ba (l.take (j+1))) top++cB c (Ba (l.drop (j+1))) (top+(cB c (Ba (l.take (j+1))) top).length):=by
  conv=>lhs;rw[←aFs (j+1) l,Je,aEq,xE]
  rw[Je,Je]
 rw[e2,BX c top h,lap,lap];omega
theorem Oo{F:Fl}{ci:Nat}{c:Cm}(hc:F.comps[ci]?=some c):F.pure.comps[ci]?=some c.pure:=by
 show(F.comps.map Cm.pure)[ci]?=_
 rw[aEp,hc];rfl
theorem yL(a b:Nat):(varsOf a b).length=a+1+b:=by
 unfold varsOf;simp only[lap,aEg,List.length_range,lc1,ln0]
theorem TH{F:Fl}(h:Ku F.pure):aDn F:=by
 obtain⟨ars,ho,hl,hg⟩:=h.comps
 refine⟨by have:F.flags.length≤2:=h.flags.1;omega,?_,fun c hc=>?_⟩
 · have h1:(F.comps.map Cm.pure).length=ars.length:=hl
   rw[aEg]at h1;have:=ho.1.2;omega
 · obtain⟨i,hi⟩:=aFt hc
   have g:=hg i _ (Oo hi)
   obtain⟨ints,tables,ar,hin,ht,ha,hv,hvs,hvn,hx⟩:=g.vers
   have har:=(ho.2 ar (mog ha)).2.1
   refine⟨?_,?_,fun v hv'=>?_⟩
   · have h2:c.vars=varsOf ints tables:=hv
     rw[h2,yL];omega
   · have h3:(c.vers.map Vs.pure).length≤2:=hvn.2
     rw[aEg]at h3;omega
   · have h4:=(hvs v.pure (aEv.2 ⟨v,hv',rfl⟩)).2.1
     have h5:v.pure.length=v.l.length:=aEg ..
     omega
abbrev Gh(F:Fl)(c:Cm)(x:Hd):List Ins:=cB (ccR F.pure c.name c.vars x.ps) (Ba x.body) 0
structure NH(F:Fl)(c:Cm)(x:Hd):Prop where
 ps:x.ps.length≤2
 len:(Gh F c x).length≤3816
 form:∀i∈Gh F c x,Np ((x.ps.length:Nat):Int) (Gh F c x).length i=true
theorem Xe{F:Fl}(h:Ku F.pure){ci:Nat}{c:Cm}(hc:F.comps[ci]?=some c){v:Vs}(hv:v∈c.vers){x:Hd}(hx:x∈v.l):NH F c x:=by
 obtain⟨ct,ar,ok⟩:=h.okC (Oo hc)
 have hgv:=ok.vers v.pure (aEv.2 ⟨v,hv,rfl⟩)
 obtain⟨k,hk⟩:=aFt hx
 have gh:=hgv.2.2 k x.pure (by show(v.l.map Hd.pure)[k]?=_;rw[aEp,hk];rfl)
 obtain⟨np,hnp,hps,hst⟩:=gh.ps
 have hnp2:np≤2:=(ok.ok.each ar (mog ok.arr)).2.2 np (mog hnp)
 have hps:x.ps=nms 112 np:=hps
 have hst:∀s∈Ba x.body,StE ct np 3 s:=hst
 have hcn:Ca (Ba x.body)≤12:=gh.cnt
 have his:(ccR F.pure c.name c.vars (nms 112 np)).Is ct np:=ok.isR hnp2
 have hwf:∀s∈Ba x.body,WfS s:=fun s hs=>(hst s hs).wf ok.ok
 have hpl:x.ps.length=np:=by rw[hps,Dq]
 have hlen:(Gh F c x).length≤318*Ca (Ba x.body):=Ym _ _ fun s hs=>XL (hwf s hs)
 have fe:=FD ok.ok (np:=np) (n:=(Gh F c x).length) om
 refine⟨by omega,by omega,?_⟩
 rw[hpl]
 have e1:Gh F c x=cB (ccR F.pure c.name c.vars (nms 112 np)) (Ba x.body) 0:=by show cB (ccR F.pure c.name c.vars x.ps) _ _=_;rw[hps]
 have:=Wd (Q:=fun i=>Np ((np:Nat):Int) (Gh F c x).length i=true) (n:=(Gh F c x).length) (Ba x.body) 0 (cc:=ccR F.pure c.name c.vars (nms 112 np)) (fun s hs p hp=>(hst s hs).all ok.ok fe.1 fe.2 his p hp) (by rw[←e1];omega)
 rw[←e1]at this
 exact this
theorem uW{s:ByteArray}{x:Hd}:∀{l:List Hd} {o:Option Hd},bY s o l=some x→o=some x∨x∈l
 |[],o,h=> .inl h
 | a ::r,o,h=>by
   rw[Xd]at h
   rcases uW h with h|h
   · split at h
     ·cases h;exact .inr (aEd ..)
     ·exact .inl h
   ·exact .inr (aEb _ h)
theorem kL{s:ByteArray}{x:Hd}:∀{l:List Vs} {o:Option Hd},Ei s o l=some x→o=some x∨∃v∈l,x∈v.l
 |[],o,h=> .inl h
 | a ::r,o,h=>by
   rw[GG]at h
   rcases kL h with h|⟨v,hv,hx⟩
   · rcases uW h with h|h
     ·exact .inl h
     ·exact .inr ⟨a,aEd ..,h⟩
   ·exact .inr ⟨v,aEb _ hv,hx⟩
theorem kM{F:Fl}(h:Ku F.pure){ci:Nat}{c:Cm}(hc:F.comps[ci]?=some c){vn:Nat}{s:ByteArray}{x:Hd}(hf:Ei s none (c.vers.take vn)=some x):∃v∈c.vers,x∈v.l:=by
 rcases kL hf with hf|⟨v,hv,hx⟩
 ·cases hf
 ·exact⟨v,aFy hv,hx⟩
structure RU where
 ok:Bool
 np:Nat
 st:Int
 l:List Ins
def rU(F:Fl)(c:Cm)(vn:Nat)(s:ByteArray):RU:=match Ei s none (c.vers.take vn)with
 |none=>⟨false,0,0,[]⟩
 |some x=>⟨true,x.ps.length,(QU (Gh F c x)).1,Gh F c x⟩
structure Iz where
 o:Int
 a:Int
 b:Int
 n:Int
def eIz(e:Iz):List Value:=[iv e.o,iv e.a,iv e.b,iv e.n]
instance eIk:Enc eIz 4:=⟨fun _=>rfl,fun e u hu=>by
 simp only[eIz,aEi,aEs,or_false]at hu
 rcases hu with rfl|rfl|rfl|rfl<;>rfl⟩
structure SpR(F:Fl)(nil:Bool)(np:Nat)(st:Int)(l:List Ins):Prop where
 op:∀x∈l,x.op<256
 len:l.length≤3816
 two:np≤2
 same:nil=true→∃(ci:Nat) (c:Cm) (s:ByteArray),F.comps[ci]?=some c∧np=(rU F c 1 s).np∧st=(rU F c 1 s).st∧l=(rU F c 1 s).l
theorem NI{pr:Int}{n:Nat}{x:Ins}(h:Np pr n x=true):1≤x.op∧x.op≤34:=by
 unfold Np at h
 simp only[aFd,Bool.not_eq_true',aGh,aGa]at h
 omega
end Go.Proofs.YtlihklladkagpaaGreatDoor
