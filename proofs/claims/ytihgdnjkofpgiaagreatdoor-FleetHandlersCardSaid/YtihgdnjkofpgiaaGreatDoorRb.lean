/- Own text. -/
import Derived.Test.YtihgdnjkofpgiaaGreatDoorKa
import Derived.Test.YtihgdnjkofpgiaaGreatDoorBd
set_option linter.unusedVariables false
set_option linter.unusedSimpArgs false
set_option maxHeartbeats 2000000
set_option maxRecDepth 100000
namespace Go.Proofs.YtihgdnjkofpgiaaGreatDoor
open Go.RowKit Go.Flow Go.Mem Go.Sep Go.In
theorem Sr(o:List yB)(h:PH)(l:List PH):Qu o (h::l)=Qu (if h.name∈o then o else o++[h.name]) l:=rfl
theorem aI{l:List yB}{i:Nat}{x s:yB}(hx:l[i]?=some x):(decide (s∈l.take i)||decide (x=s))=decide (s∈l.take (i+1)):=by
 rw[Cy hx,Bool.eq_iff_iff];simp only[aRj,aQx,aQp,aPj];exact⟨fun h=>h.imp id Eq.symm,fun h=>h.imp id Eq.symm⟩
def Xf(s:yB)(o:oP Hd)(l:List Hd):oP Hd:=l.foldl (fun(o:oP Hd) (h:Hd)=>if h.name=s then some h else o) o
def Lu(s:yB)(o:oP Hd)(l:List Vs):oP Hd:=l.foldl (fun(o:oP Hd) (v:Vs)=>Xf s o v.l) o
abbrev Hd0:Hd:=⟨bE,none,0,[],none,0,[]⟩
def Yu(o:oP Hd):Hd:=o.getD Hd0
theorem Ux(s:yB)(o:oP Hd)(h:Hd)(l:List Hd):Xf s o (h::l)=Xf s (if h.name=s then some h else o) l:=rfl
theorem sW(s:yB)(o:oP Hd)(h:Vs)(l:List Vs):Lu s o (h::l)=Lu s (Xf s o h.l) l:=rfl
theorem mdg{α β:Type}(f:α→β){l:List α}{k:Nat}{x:α}(hx:l[k]?=some x):(l.drop k).map f=f x::(l.drop (k+1)).map f:=by rw[dog hx];rfl
theorem WP{c:Cm}{v:Vs}{j:Nat}(hv:c.vers[j]?=some v):ros Ii v.A v.l∈c.kids eR:=aPb _ (aPb _ (aQe.2 ⟨v,sN hv,aPc ..⟩))
theorem AZ(c:Cm):ros Fq c.An c.vers∈c.kids eR:=aPb _ (aPc ..)
theorem Rq(c:Cm)(hcv:c.vers.length≤1000)(hvs:∀v∈c.vers,v.l.length≤100):
    Bg Tryz.prog 16 [.agg (cX c []).toArray] [all (Cm.kids eR c)] (fun v Γ'=>∃(A:OA) (q:Nat),v= .slice A (hnames (c.vers.map Vs.pure)).length q∧Γ'=[rows Dc 9 1 A q (hnames (c.vers.map Vs.pure))]):=by
 refine Ba Tryz.func16 Tryz.ntmps16 fun w0=>?_;refine Js (eu (Jbo fun b1=>?_));refine Jz 10 ?_;refine cu 1 rfl (ros Fq c.An c.vers) rfl (AZ c) (Jz 8 ?_);refine Dv (Dc) 9 1 (Bz (fun s g mz ρ Γ=>∃(Ao:OA) (qo:Nat) (O:List yB) (j:Nat),ρ=[s 1,(3,vs Ao O qo),s 12,s 13,(14,nv j)]∧Γ=[g 2,g 3,g 1,rows Dc 9 1 Ao qo O]∧mz=c.vers.length-j∧(j≤c.vers.length)∧(hnames (c.vers.map Vs.pure)=((c.vers.drop j).map Vs.pure).foldl Qu O)∧(O.length≤100*j)) ⟨⟨none,0,([]:List yB),0,rfl,rfl,rfl,om,rfl,om⟩,sb⟩ ?_);rintro mz _ _ ⟨Ao,qo,O,j,rfl,rfl,rfl,hj,hO,hOl⟩;refine Jz 6 ?_;refine aa rfl ?_ ?_<;>intro c15;obtain⟨v,hv⟩:=aj c.vers j om;refine Jz 19 ?_;refine cu 1 rfl (ros Ii v.A v.l) rfl (WP hv) (Bz (fun s g mz ρ Γ=>∃(Ao:OA) (qo:Nat) (O:List yB) (k:Nat),ρ=[s 1,(3,vs Ao O qo),s 12,s 13,s 14,s 18,s 19,(20,nv k)]∧Γ=[g 1,g 2,g 3,g 0,rows Dc 9 1 Ao qo O]∧mz=v.l.length-k∧(k≤v.l.length)∧(hnames (c.vers.map Vs.pure)=((c.vers.drop (j+1)).map Vs.pure).foldl Qu (Qu O ((v.l.drop k).map Hd.pure)))∧(O.length≤100*j+k)) ⟨⟨Ao,qo,O,0,rfl,rfl,rfl,om,(by rw[hO,mdg _ hv];rfl),om⟩,sb⟩ ?_);rintro mz _ _ ⟨Ao,qo,O,k,rfl,rfl,rfl,hk,hO1,hOl1⟩;have hvl:=hvs v (sN hv);refine Jz 6 ?_;refine aa rfl ?_ ?_<;>intro c21;obtain⟨h,hh⟩:=aj v.l k om;refine Jz 8 ?_;refine ae fun b7=>?_;refine Jz 17 ?_;refine Bz (fun s g mz ρ Γ=>∃(i:Nat),ρ=[s 1,s 3,s 7,(8, .bool (decide (h.name∈O.take i))),s 12,s 13,s 14,s 18,s 19,s 20,s 24,s 25,(26,nv i)]∧Γ=[g 1,g 2,g 3,g 4,g 5,g 0]∧mz=O.length-i∧(i≤O.length)) ⟨⟨0,rfl,rfl,rfl,om⟩,⟨rfl,rfl,rfl,(aPe (fun b=>some (Value.bool b)) (aQk (fun h=>by cases h)).symm),rfl,rfl,rfl,rfl,rfl,rfl,rfl,rfl,rfl,trivial⟩⟩ ?_;rintro mz _ _ ⟨i,rfl,rfl,rfl,hi⟩;refine Jz 6 ?_;refine aa rfl ?_ ?_<;>intro c27;obtain⟨x,hx⟩:=aj O i om;refine Jz 13 ?_;refine JgP ?_ ?_<;>intro g31;refine Jz 14 ?_;refine Db ⟨⟨i+1,rfl,rfl,rfl,om⟩,⟨rfl,rfl,rfl,(aPe (fun b=>some (Value.bool b)) (by rw[←aI hx,aQg g31];rfl)),rfl,rfl,rfl,rfl,rfl,rfl,rfl,rfl,rfl,trivial⟩⟩;refine Jz 3 ?_;refine Jr (Ky rfl rfl rfl) ?_;refine Jz 10 ?_;refine Db ⟨⟨i+1,rfl,rfl,rfl,om⟩,⟨rfl,rfl,rfl,(aPe (fun b=>some (Value.bool b)) (by rw[←aI hx,aQk g31];rfl)),rfl,rfl,rfl,rfl,rfl,rfl,rfl,rfl,rfl,trivial⟩⟩;refine Jz 11 ?_;refine Ej rfl ?_ ?_<;>intro c39;have hm:¬(h.pure).name∈O:=by show¬h.name∈O;have:=c39;rw[aQa om]at this;simpa using this
 refine Jz 4 ?_;refine Er [.string h.name] fun b43=>?_;refine Jge rfl rfl rfl (Cf Di (i:=5) (j:=0) (el:=h.name) rfl s54 rfl rfl rfl rfl rfl om om) ?_;rintro _ _ ⟨A44,q44,rfl,rfl⟩;refine Jz 9 ?_;refine Bp ⟨⟨A44,q44,(O++[h.name]),k+1,rfl,rfl,rfl,om,(by rw[hO1,mdg _ hh,Sr,aPf hm];rfl),(by rw[ak];show O.length+1≤_;omega)⟩,sb⟩;have hm:(h.pure).name∈O:=by show h.name∈O;have:=c39;rw[aQa om]at this;simpa using this
 refine Jz 8 ?_;refine Bp ⟨⟨Ao,qo,O,k+1,rfl,rfl,rfl,om,(by rw[hO1,mdg _ hh,Sr,aPr hm]),om⟩,sb⟩;refine Jz 11 ?_;refine Bp ⟨⟨Ao,qo,O,j+1,rfl,rfl,rfl,om,(by rw[hO1,aQy om];rfl),om⟩,sb⟩;refine Jz 12 ?_;refine Ck (Cr (Cq (bg Tryz.results16 ?_)));exact⟨Ao,qo,by rw[hO,aQy om];rfl,by rw[hO,aQy om];rfl⟩
theorem aDc(c:Cm)(hcv:c.vers.length≤1000)(hvs:∀v∈c.vers,v.l.length≤100)(vn:Nat)(s:yB):
    Bg Tryz.prog 46 [.agg (cX c []).toArray,nv vn, .string s] [all (Cm.kids eR c)] (fun v Γ'=>v= .tuple #[.agg (Ii (Yu (Lu s none (c.vers.take vn)))).toArray, .bool (Lu s none (c.vers.take vn)).isSome]∧Γ'=[]):=by
 refine Ba Tryz.func46 Tryz.ntmps46 fun w0=>?_;refine Js (eu (Jbo fun b3=>?_));refine ae fun b6=>?_;refine Jz 5 ?_;refine ae fun b8=>?_;refine Jz 14 ?_;refine cu 3 rfl (ros Fq c.An c.vers) rfl (AZ c) (Bz (fun u g mz ρ Γ=>∃(o:oP Hd) (j:Nat),ρ=[u 1,u 2,u 3,u 6,u 8,(9, .bool o.isSome),(10,nv j)]∧Γ=[g 3,g 2,g 4,g 0,box b8 [.string ((Yu o).name), .slice ((Yu o).Ap) ((Yu o).ps.length) ((Yu o).qp), .slice ((Yu o).Ab) ((Yu o).body.length) ((Yu o).qb)] 114]∧mz=c.vers.length-j∧(j≤c.vers.length)∧(Lu s none (c.vers.take vn)=Lu s o ((c.vers.take vn).drop j))) ⟨⟨(none:oP Hd),0,rfl,rfl,rfl,om,rfl⟩,sb⟩ ?_);rintro mz _ _ ⟨o,j,rfl,rfl,rfl,hj,ho⟩;refine Jz 3 ?_;refine Oa [1,2,3,6,8,9,10] 22 ((decide (((j:Nat):Int)<((vn:Nat):Int)))&&decide (((j:Nat):Int)<((c.vers.length:Nat):Int))) ?_ ?_;refine Jz 3 ?_;refine JgP ?_ ?_<;>intro g16;refine Jz 8 ?_;refine Gb rfl (gg g16);refine Jz 8 ?_;refine Gb rfl (gg g16);refine Ej rfl ?_ ?_<;>intro c22;simp only[aPk,aQx]at c22;obtain⟨c22,c22b⟩:=c22;obtain⟨v,hv⟩:=aj c.vers j om;have hvt:(c.vers.take vn)[j]?=some v:=by rw[aRl,aPr om];exact hv
 refine Jz 16 ?_;refine cu 2 rfl (ros Ii v.A v.l) rfl (WP hv) (Bz (fun u g mz ρ Γ=>∃(o:oP Hd) (k:Nat),ρ=[u 1,u 2,u 3,u 6,u 8,(9, .bool o.isSome),u 10,u 29,u 30,(31,nv k)]∧Γ=[g 1,g 2,g 3,g 4,g 0,box b8 [.string ((Yu o).name), .slice ((Yu o).Ap) ((Yu o).ps.length) ((Yu o).qp), .slice ((Yu o).Ab) ((Yu o).body.length) ((Yu o).qb)] 114]∧mz=v.l.length-k∧(k≤v.l.length)∧(Lu s none (c.vers.take vn)=Lu s (Xf s o (v.l.drop k)) ((c.vers.take vn).drop (j+1)))) ⟨⟨o,0,rfl,rfl,rfl,om,(by rw[ho,dog hvt];rfl)⟩,sb⟩ ?_);rintro mz _ _ ⟨o,k,rfl,rfl,rfl,hk,ho1⟩;have hvl:=hvs v (sN hv);refine Jz 6 ?_;refine aa rfl ?_ ?_<;>intro c32;obtain⟨h,hh⟩:=aj v.l k om;refine Jz 8 ?_;refine ae fun b12=>?_;refine Jz 8 ?_;refine Jr (Ky rfl rfl rfl) ?_;refine Jn (Jt (aa rfl (fun c38=>?_) (fun c38=>?_)));refine Jz 12 ?_;refine Bp ⟨⟨(some h),k+1,rfl,rfl,rfl,om,(by rw[ho1,dog hh,Ux,aPr c38])⟩,sb⟩;refine Jz 8 ?_;refine Bp ⟨⟨o,k+1,rfl,rfl,rfl,om,(by rw[ho1,dog hh,Ux,aPf c38])⟩,sb⟩;refine Jz 12 ?_;refine Bp ⟨⟨o,j+1,rfl,rfl,rfl,om,(by rw[ho1,aQy om];rfl)⟩,sb⟩;have hdr:(c.vers.take vn).drop j=[]:=by
  refine aQy ?_;rw[aPo];simp only[aSb,aRs]at c22;omega
 refine Jz 14 ?_;refine Jy [] rfl (.inl rfl) Tryz.results46 rfl (i:=1) rfl aKm rfl rfl ?_;have he:Lu s none (c.vers.take vn)=o:=by rw[ho,hdr];rfl
 rw[he];exact⟨rfl,rfl⟩
end Go.Proofs.YtihgdnjkofpgiaaGreatDoor
namespace Go.Sep
open Go.RowKit Go.Flow Go.Mem
section
variable{α:Type}{enc:α→List vU}{size:Nat}
theorem BB(E:Enc enc size){f:Nat}{u:vU}(hf:f<size){z:α}:∀(X:List α) (i:Nat) (y:α),X[i]?=some y→over (enc y) f [u]=enc z→over (X.flatMap enc) (i*size+f) [u]=(X.set i z).flatMap enc
 |[],i,y,h,_=>by simp at h
 | x::X,0,y,h,hz=>by
   obtain rfl:x=y:=by simpa using h
   unfold over at hz⊢;rw[Nat.zero_mul,aQl,aQq,List.set_cons_zero,aQq,←hz,List.take_append_of_le_length (by rw[E.len];omega),List.drop_append_of_le_length (by rw[E.len];show f+1≤size;omega)];simp
 | x::X,i+1,y,h,hz=>by
   have ih:=BB E hf X i y (by simpa using h) hz;unfold over at ih⊢;have e1:(i+1)*size+f=size+(i*size+f):=by rw[Nat.add_mul];omega
   rw[List.set_cons_succ,aQq,aQq,e1,←ih];rw[List.take_append,List.drop_append,aQa (by rw[E.len];omega),List.drop_of_length_le (by rw[E.len];omega),E.len,show size+(i*size+f)-size=i*size+f by omega,show size+(i*size+f)+[u].length-size=i*size+f+[u].length by omega];simp
theorem Qw(E:Enc enc size){e:tI}{A:OA}{cap i f:Nat}{X:List α}{y z:α}{u:vU}(hi:X[i]?=some y)(hf:f<size)(hz:over (enc y) f [u]=enc z):(rows enc e size A cap X).takes (blk A) (ofs A+i*size+f) [u] (rows enc e size A cap (X.set i z)):=by
 have hl:i<X.length:=(aOz.1 hi).1;have h:=fJ (e:=e) (size:=size) (A:=A) (n:=X.length) (cap:=cap) (off:=i*size+f) (xs:=X.flatMap enc) (us:=[u]) (by
  have:(i+1)*size≤X.length*size:=Nat.mul_le_mul_right _ hl;rw[Nat.add_mul]at this;show i*size+f+1≤_;omega) sm (BB E hf X i y hi hz)
 have e1:rows enc e size A cap (X.set i z)=row e size A X.length cap ((X.set i z).flatMap enc):=by simp[rows]
 rw[e1,Nat.add_assoc];exact h
theorem BC{α:Type}(X Y:List α)(a:α):((X++[a])++Y)[X.length]?=some a:=by
 rw[aQi,aQt (aPl _)];simp
theorem oO{α:Type}(X Y:List α)(a b:α):((X++[a])++Y).set X.length b=(X++[b])++Y:=by
 rw[aQi,aQi,List.set_append_right _ _ (aPl _),aRo];rfl
end
end Go.Sep
namespace Go.Proofs.YtihgdnjkofpgiaaGreatDoor
open Go.RowKit Go.Flow Go.Mem Go.Sep Go.In
structure aOy(F:Fl):Prop where
 flags:F.flags.length≤100
 comps:F.comps.length≤100
 each:∀c∈F.comps,c.vars.length≤1000∧c.vers.length≤1000∧∀v∈c.vers,v.l.length≤100
theorem aDd(cc:Cc)(x:PE):cEs cc [x]=cE cc x:=aPw _
theorem BD(cc:Cc){l:List Ex}{j:Nat}{x:Ex}(h:l[j]?=some x):cEs cc (Cv (l.take (j+1)))=cEs cc (Cv (l.take j))++cE cc x.pure:=by
 rw[Cy h,Bj,aPn,JV,←Bj];congr 1;exact aDd cc x.pure
theorem aIf(cc:Cc){l:List Ex}{j:Nat}{x:Ex}(h:l[j]?=some x):(cEs cc (Cv (l.take j))).length+(cE cc x.pure).length≤(cEs cc (Cv l)).length:=by
 have e1:l=l.take (j+1)++l.drop (j+1):=(aRa ..).symm;have e2:cEs cc (Cv l)=cEs cc (Cv (l.take (j+1)))++cEs cc (Cv (l.drop (j+1))):=by
  conv=>lhs;rw[e1,Bj,aPn,JV]
  rw[Bj,Bj]
 rw[e2,BD cc h,ak,ak];omega
theorem bD(cc:Cc):∀l:List Ex,l.length≤(cEs cc (Cv l)).length
 |[]=>aQb _
 | x::r=>by
   have:=bD cc r;show r.length+1≤(cE cc x.pure++cEs cc (Cv r)).length;rw[ak];have h1:1≤(cE cc x.pure).length:=by rw[Et,cE,ak];exact Nat.le_add_left _ _
   omega
theorem sZ:∀(l:List PH) (o:List yB),(Qu o l).length≤o.length+l.length
 |[],o=>aPl _
 | h::r,o=>by
   rw[Sr];have:=sZ r (if h.name∈o then o else o++[h.name]);have h2:(if h.name∈o then o else o++[h.name]).length≤o.length+1:=by
    split
    ·omega
    ·rw[ak];exact aPl _
   show _≤o.length+(r.length+1);omega
theorem oQ:∀(v:List Vs) (o:List yB),(∀x∈v,x.l.length≤100)→((v.map Vs.pure).foldl Qu o).length≤o.length+100*v.length
 |[],o,_=>aPl _
 | x::r,o,h=>by
   have h1:=oQ r (Qu o x.pure) fun y hy=>h y (aPb _ hy);have h2:=sZ x.pure o;have h3:=h x (aPc ..);have h4:x.pure.length=x.l.length:=aPg ..;show((r.map Vs.pure).foldl Qu (Qu o x.pure)).length≤_;rw[ai];omega
theorem Uy(c:Cm)(h1:c.vers.length≤1000)(h2:∀v∈c.vers,v.l.length≤100):(hnames (c.vers.map Vs.pure)).length≤100000:=by
 have:=oQ c.vers [] h2;unfold hnames;simp only[ln0]at this;omega
def Su(c:Cc):PS→Nat→Nat→List Ins
 | ⟨k,s,h,es,t,e⟩,n,top=>
   let p:=n+1;let j:Nat:=if e.isEmpty then 0 else 1
   if k=1 then [⟨24,c.vs s,0,0⟩]else if k=2 then [⟨25,c.ts s,0,0⟩]else if k=3 then [⟨26,c.ts s,0,0⟩]
    else if k=4 then⟨28,((p+(cB c t p).length+j:Nat):Int),0,0⟩::(cB c t p++ovr (p+(cB c t p).length) (cB c e (p+(cB c t p).length+1)) e.isEmpty)
    else if k=5 then⟨28,((p+(cB c t p).length+1:Nat):Int),0,0⟩::(cB c t p++[⟨27,((top:Nat):Int),0,0⟩])
    else if k=6 then [⟨30,(c.tg s h).1,(c.tg s h).2,((es.length:Nat):Int)⟩]
    else if k=7 then [⟨31,0,c.ah h,((es.length:Nat):Int)-1⟩]
    else if k=8 then⟨32,0,((p+j:Nat):Int),0⟩::ovr p (cB c e (p+1)) e.isEmpty
    else if k=9 then⟨33,c.vs s,((p+j:Nat):Int),0⟩::ovr p (cB c e (p+1)) e.isEmpty
    else if k=10 then [⟨34,0,0,0⟩]else []
theorem wS(c:Cc)(s:PS)(top:Nat):cS c s top=((⟨29,0,0,0⟩:Ins)::cEs c s.exprs)++Su c s (top+(cEs c s.exprs).length+1) top:=by
 cases s;rfl
theorem aDe(c:Cc)(s:St){l X:List Ins}(hX:X=(l++[⟨29,0,0,0⟩])++cEs c (Cv s.exprs)):l++cS c s.pure l.length=X++Su c s.pure X.length l.length:=by
 rw[wS,hX];have e1:((l++[(⟨29,0,0,0⟩:Ins)])++cEs c (Cv s.exprs)).length=l.length+(cEs c (Cv s.exprs)).length+1:=by
  rw[ak,ak];show l.length+1+_=_;omega
 have e2:s.pure.exprs=Cv s.exprs:=by rw[Ju]
 rw[e1,e2];simp only[aQi,aRy,aRv]
section
variable{c:Cc}{s:St}{n top:Nat}
theorem aEw(h:s.kind=1):Su c s.pure n top=[⟨24,c.vs s.name,0,0⟩]:=by rw[Ju,h];rfl
theorem aEx(h:s.kind=2):Su c s.pure n top=[⟨25,c.ts s.name,0,0⟩]:=by rw[Ju,h];rfl
theorem aEy(h:s.kind=3):Su c s.pure n top=[⟨26,c.ts s.name,0,0⟩]:=by rw[Ju,h];rfl
theorem aEz(h:s.kind=4):Su c s.pure n top=⟨28,((n+1+(cB c (Am s.thn) (n+1)).length+(if(Am s.els).isEmpty then 0 else 1):Nat):Int),0,0⟩::(cB c (Am s.thn) (n+1)++ovr (n+1+(cB c (Am s.thn) (n+1)).length) (cB c (Am s.els) (n+1+(cB c (Am s.thn) (n+1)).length+1)) (Am s.els).isEmpty):=by rw[Ju,h];rfl
theorem aFa(h:s.kind=5):Su c s.pure n top=⟨28,((n+1+(cB c (Am s.thn) (n+1)).length+1:Nat):Int),0,0⟩::(cB c (Am s.thn) (n+1)++[⟨27,((top:Nat):Int),0,0⟩]):=by rw[Ju,h];rfl
theorem aFb(h:s.kind=6):Su c s.pure n top=[⟨30,(c.tg s.name s.hand).1,(c.tg s.name s.hand).2,((s.exprs.length:Nat):Int)⟩]:=by rw[Ju,h,←Fz s.exprs];rfl
theorem aFc(h:s.kind=7):Su c s.pure n top=[⟨31,0,c.ah s.hand,((s.exprs.length:Nat):Int)-1⟩]:=by rw[Ju,h,←Fz s.exprs];rfl
theorem aFd(h:s.kind=8):Su c s.pure n top=⟨32,0,((n+1+(if(Am s.els).isEmpty then 0 else 1):Nat):Int),0⟩::ovr (n+1) (cB c (Am s.els) (n+2)) (Am s.els).isEmpty:=by rw[Ju,h];rfl
theorem aFe(h:s.kind=9):Su c s.pure n top=⟨33,c.vs s.name,((n+1+(if(Am s.els).isEmpty then 0 else 1):Nat):Int),0⟩::ovr (n+1) (cB c (Am s.els) (n+2)) (Am s.els).isEmpty:=by rw[Ju,h];rfl
theorem WQ(h:s.kind=10):Su c s.pure n top=[⟨34,0,0,0⟩]:=by rw[Ju,h];rfl
theorem aMe(h:¬s.kind=1∧¬s.kind=2∧¬s.kind=3∧¬s.kind=4∧¬s.kind=5∧¬s.kind=6∧¬s.kind=7∧¬s.kind=8∧¬s.kind=9∧¬s.kind=10):Su c s.pure n top=[]:=by
 obtain⟨h1,h2,h3,h4,h5,h6,h7,h8,h9,h10⟩:=h;rw[Ju];unfold Su;simp only[aPf h1,aPf h2,aPf h3,aPf h4,aPf h5,aPf h6,aPf h7,aPf h8,aPf h9,aPf h10]
end
section
variable{α:Type}(X Y Z V:List α)(a b j k:α)
theorem BF:(((X++[a])++Y)++Z)[X.length]?=some a:=by rw[aQi (X++[a])];exact BC ..
theorem BG:(((X++[a])++Y)++Z).set X.length b=((X++[b])++Y)++Z:=by rw[aQi (X++[a]),oO,←aQi]
end
section
variable{cc:Cc}{t e:List PS}{X Y1 W1 Z1 WF:List Ins}
theorem Yv(X:List Ins)(y:Ins):(X++[y]).length=X.length+1:=by rw[ak];rfl
theorem at4{y:Ins}(hY1:Y1=(X++[y])++Z1):Y1[X.length]?=some y:=by rw[hY1];exact BC ..
theorem aMf{y j:Ins}(hY1:Y1=(X++[y])++Z1):(Y1++[j])[X.length]?=some y:=by rw[hY1];exact BF ..
theorem aOk{y j:Ins}(hY1:Y1=(X++[y])++cB cc t (X++[y]).length)(hWF:WF=(Y1++[j]).set X.length ⟨28,(((Y1++[j]).length:Nat):Int),0,0⟩):
    WF=X++(⟨28,((X.length+1+(cB cc t (X.length+1)).length+1:Nat):Int),0,0⟩::(cB cc t (X.length+1)++[j])):=by
 rw[Yv]at hY1;have hyl:Y1.length=X.length+1+(cB cc t (X.length+1)).length:=by rw[hY1,ak,Yv]
 rw[hWF,Yv,hyl,hY1,BG];simp
end
theorem WR(p:Nat)(e:List Ins){b:Bool}(h:b=false):(ovr p e b).length=e.length+1:=by rw[h];rfl
theorem Yw(l:List St):(Am l).isEmpty=decide (l.length=0):=by cases l<;>rfl
theorem aIg(c:Cc)(s:PS)(top:Nat):1≤(cS c s top).length:=by rw[wS,aRy,ai];exact Nat.le_add_left _ _
theorem WS(c:Cc):∀(l:List St) (top:Nat),l.length≤(cB c (Am l) top).length
 |[],_=>aPl _
 | x::r,top=>by
   have h1:=aIg c x.pure top;have h2:=WS c r (top+(cS c x.pure top).length);show r.length+1≤(cS c x.pure top++cB c (Am r) _).length;rw[ak];omega
theorem aIh(c:Cc)(s:PS)(top:Nat):cB c [s] top=cS c s top:=aPw _
theorem KS(c:Cc){l:List St}{j:Nat}{x:St}(top:Nat)(h:l[j]?=some x):cB c (Am (l.take (j+1))) top=cB c (Am (l.take j)) top++cS c x.pure (top+(cB c (Am (l.take j)) top).length):=by
 rw[Cy h,Ei,aPn,FC,←Ei];congr 1;exact aIh ..
theorem aMg(c:Cc){l:List St}{j:Nat}{x:St}(top:Nat)(h:l[j]?=some x):(cB c (Am (l.take j)) top).length+(cS c x.pure (top+(cB c (Am (l.take j)) top).length)).length≤(cB c (Am l) top).length:=by
 have e2:cB c (Am l) top=cB c (Am (l.take (j+1))) top++cB c (Am (l.drop (j+1))) (top+(cB c (Am (l.take (j+1))) top).length):=by
  conv=>lhs;rw[←aRa (j+1) l,Ei,aPn,FC]
  rw[Ei,Ei]
 rw[e2,KS c top h,ak,ak];omega
theorem Uz{F:Fl}{ci:Nat}{c:Cm}(hc:F.comps[ci]?=some c):F.pure.comps[ci]?=some c.pure:=by
 show(F.comps.map Cm.pure)[ci]?=_;rw[aPs,hc];rfl
abbrev Ha(F:Fl)(c:Cm)(x:Hd):List Ins:=cB (ccR F.pure c.name c.vars x.ps) (Am x.body) 0
structure WT(F:Fl)(c:Cm)(x:Hd):Prop where
 ps:x.ps.length≤2
 len:(Ha F c x).length≤3816
 form:∀i∈Ha F c x,Nf ((x.ps.length:Nat):Int) (Ha F c x).length i=true
theorem Zt{F:Fl}(h:Ji F.pure){ci:Nat}{c:Cm}(hc:F.comps[ci]?=some c){v:Vs}(hv:v∈c.vers){x:Hd}(hx:x∈v.l):WT F c x:=by
 obtain⟨ct,ar,ok⟩:=h.okC (Uz hc);have hgv:=ok.vers v.pure (aPx.2 ⟨v,hv,rfl⟩);obtain⟨k,hk⟩:=aRb hx;have gh:=hgv.2.2 k x.pure (by show(v.l.map Hd.pure)[k]?=_;rw[aPs,hk];rfl);obtain⟨np,hnp,hps,hst⟩:=gh.ps;have hnp2:np≤2:=(ok.ok.each ar (sN ok.arr)).2.2 np (sN hnp);have hps:x.ps=nms 112 np:=hps;have hst:∀s∈Am x.body,StE ct np 3 s:=hst;have hcn:Bl (Am x.body)≤12:=gh.cnt;have his:(ccR F.pure c.name c.vars (nms 112 np)).Is ct np:=ok.isR hnp2;have hwf:∀s∈Am x.body,WfS s:=fun s hs=>(hst s hs).wf ok.ok;have hpl:x.ps.length=np:=by rw[hps,Dn]
 have hlen:(Ha F c x).length≤318*Bl (Am x.body):=aW _ _ fun s hs=>aHa (hwf s hs);have fe:=NU ok.ok (np:=np) (n:=(Ha F c x).length) om;refine⟨by omega,by omega,?_⟩;rw[hpl];have e1:Ha F c x=cB (ccR F.pure c.name c.vars (nms 112 np)) (Am x.body) 0:=by show cB (ccR F.pure c.name c.vars x.ps) _ _=_;rw[hps]
 have:=Ym (Q:=fun i=>Nf ((np:Nat):Int) (Ha F c x).length i=true) (n:=(Ha F c x).length) (Am x.body) 0 (cc:=ccR F.pure c.name c.vars (nms 112 np)) (fun s hs p hp=>(hst s hs).all ok.ok fe.1 fe.2 his p hp) (by rw[←e1];omega);rw[←e1]at this;exact this
theorem BH{s:yB}{x:Hd}:∀{l:List Hd} {o:oP Hd},Xf s o l=some x→o=some x∨x∈l
 |[],o,h=> .inl h
 | a ::r,o,h=>by
   rw[Ux]at h;rcases BH h with h|h
   · split at h
     ·cases h;exact .inr (aPc ..)
     ·exact .inl h
   ·exact .inr (aPb _ h)
theorem BI{s:yB}{x:Hd}:∀{l:List Vs} {o:oP Hd},Lu s o l=some x→o=some x∨∃v∈l,x∈v.l
 |[],o,h=> .inl h
 | a ::r,o,h=>by
   rw[sW]at h;rcases BI h with h|⟨v,hv,hx⟩
   · rcases BH h with h|h
     ·exact .inl h
     ·exact .inr ⟨a,aPc ..,h⟩
   ·exact .inr ⟨v,aPb _ hv,hx⟩
theorem oU{F:Fl}(h:Ji F.pure){ci:Nat}{c:Cm}(hc:F.comps[ci]?=some c){vn:Nat}{s:yB}{x:Hd}(hf:Lu s none (c.vers.take vn)=some x):∃v∈c.vers,x∈v.l:=by
 rcases BI hf with hf|⟨v,hv,hx⟩
 ·cases hf
 ·exact⟨v,aRc hv,hx⟩
structure RU where
 ok:Bool
 np:Nat
 st:Int
 l:List Ins
def rU(F:Fl)(c:Cm)(vn:Nat)(s:yB):RU:=match Lu s none (c.vers.take vn)with
 |none=>⟨false,0,0,[]⟩
 |some x=>⟨true,x.ps.length,(aBd (Ha F c x)).1,Ha F c x⟩
structure Iz where
 o:Int
 a:Int
 b:Int
 n:Int
def eIz(e:Iz):List vU:=[iv e.o,iv e.a,iv e.b,iv e.n]
instance eIk:Enc eIz 4:=⟨fun _=>rfl,fun e u hu=>by
 simp only[eIz,aPi,aPm,aQo]at hu;rcases hu with rfl|rfl|rfl|rfl<;>rfl⟩
structure SpR(F:Fl)(nil:Bool)(np:Nat)(st:Int)(l:List Ins):Prop where
 op:∀x∈l,x.op<256
 len:l.length≤3816
 two:np≤2
 same:nil=true→∃(ci:Nat) (c:Cm) (s:yB),F.comps[ci]?=some c∧np=(rU F c 1 s).np∧st=(rU F c 1 s).st∧l=(rU F c 1 s).l
theorem WU{pr:Int}{n:Nat}{x:Ins}(h:Nf pr n x=true):1≤x.op∧x.op≤34:=by
 unfold Nf at h;simp only[aPk,Bool.not_eq_true',aRx,aRs]at h;omega
end Go.Proofs.YtihgdnjkofpgiaaGreatDoor
