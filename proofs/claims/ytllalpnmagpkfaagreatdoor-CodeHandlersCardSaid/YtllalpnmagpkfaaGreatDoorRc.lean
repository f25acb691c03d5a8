/- Own text. -/
import Derived.Test.YtllalpnmagpkfaaGreatDoorRb
set_option maxHeartbeats 8000000
set_option maxRecDepth 100000
set_option linter.unusedVariables false
set_option linter.unusedSimpArgs false
namespace Go.Proofs.YtllalpnmagpkfaaGreatDoor
open Go.Proofs.Tryz
open Go.RowKit Go.Flow Go.Mem Go.Sep Go.In
def tailS(c:Cc):PS→Nat→Nat→List Ins
 | ⟨k,s,h,es,t,e⟩,n,top=>
   let p:=n+1
   let j:Nat:=if e.isEmpty then 0 else 1
   if k=1 then [⟨24,c.vs s,0,0⟩]else if k=2 then [⟨25,c.ts s,0,0⟩]else if k=3 then [⟨26,c.ts s,0,0⟩]
    else if k=4 then⟨28,((p+(cB c t p).length+j:Nat):Int),0,0⟩::(cB c t p++ovr (p+(cB c t p).length) (cB c e (p+(cB c t p).length+1)) e.isEmpty)
    else if k=5 then⟨28,((p+(cB c t p).length+1:Nat):Int),0,0⟩::(cB c t p++[⟨27,((top:Nat):Int),0,0⟩])
    else if k=6 then [⟨30,(c.tg s h).1,(c.tg s h).2,((es.length:Nat):Int)⟩]
    else if k=7 then [⟨31,0,c.ah h,((es.length:Nat):Int)-1⟩]
    else if k=8 then⟨32,0,((p+j:Nat):Int),0⟩::ovr p (cB c e (p+1)) e.isEmpty
    else if k=9 then⟨33,c.vs s,((p+j:Nat):Int),0⟩::ovr p (cB c e (p+1)) e.isEmpty
    else if k=10 then [⟨34,0,0,0⟩]else []
theorem cS_tail(c:Cc)(s:PS)(top:Nat):cS c s top=((⟨29,0,0,0⟩:Ins)::cEs c s.exprs)++tailS c s (top+(cEs c s.exprs).length+1) top:=by
 cases s;rfl
theorem fin_all(c:Cc)(s:St){l X:List Ins}(hX:X=(l++[⟨29,0,0,0⟩])++cEs c (Ex.pL s.exprs)):l++cS c s.pure l.length=X++tailS c s.pure X.length l.length:=by
 rw[cS_tail,hX]
 have e1:((l++[(⟨29,0,0,0⟩:Ins)])++cEs c (Ex.pL s.exprs)).length=l.length+(cEs c (Ex.pL s.exprs)).length+1:=by
  rw[lap,lap];show l.length+1+_=_;omega
 have e2:s.pure.exprs=Ex.pL s.exprs:=by rw[St.pq]
 rw[e1,e2];simp only[List.append_assoc,List.cons_append,List.nil_append]
section
variable{c:Cc}{s:St}{n top:Nat}
theorem tail1(h:s.kind=1):tailS c s.pure n top=[⟨24,c.vs s.name,0,0⟩]:=by rw[St.pq,h];rfl
theorem tail2(h:s.kind=2):tailS c s.pure n top=[⟨25,c.ts s.name,0,0⟩]:=by rw[St.pq,h];rfl
theorem tail3(h:s.kind=3):tailS c s.pure n top=[⟨26,c.ts s.name,0,0⟩]:=by rw[St.pq,h];rfl
theorem tail4(h:s.kind=4):tailS c s.pure n top=⟨28,((n+1+(cB c (St.pL s.thn) (n+1)).length+(if(St.pL s.els).isEmpty then 0 else 1):Nat):Int),0,0⟩::(cB c (St.pL s.thn) (n+1)++ovr (n+1+(cB c (St.pL s.thn) (n+1)).length) (cB c (St.pL s.els) (n+1+(cB c (St.pL s.thn) (n+1)).length+1)) (St.pL s.els).isEmpty):=by rw[St.pq,h];rfl
theorem tail5(h:s.kind=5):tailS c s.pure n top=⟨28,((n+1+(cB c (St.pL s.thn) (n+1)).length+1:Nat):Int),0,0⟩::(cB c (St.pL s.thn) (n+1)++[⟨27,((top:Nat):Int),0,0⟩]):=by rw[St.pq,h];rfl
theorem tail6(h:s.kind=6):tailS c s.pure n top=[⟨30,(c.tg s.name s.hand).1,(c.tg s.name s.hand).2,((s.exprs.length:Nat):Int)⟩]:=by rw[St.pq,h,←Ex.pureL_len s.exprs];rfl
theorem tail7(h:s.kind=7):tailS c s.pure n top=[⟨31,0,c.ah s.hand,((s.exprs.length:Nat):Int)-1⟩]:=by rw[St.pq,h,←Ex.pureL_len s.exprs];rfl
theorem tail8(h:s.kind=8):tailS c s.pure n top=⟨32,0,((n+1+(if(St.pL s.els).isEmpty then 0 else 1):Nat):Int),0⟩::ovr (n+1) (cB c (St.pL s.els) (n+2)) (St.pL s.els).isEmpty:=by rw[St.pq,h];rfl
theorem tail9(h:s.kind=9):tailS c s.pure n top=⟨33,c.vs s.name,((n+1+(if(St.pL s.els).isEmpty then 0 else 1):Nat):Int),0⟩::ovr (n+1) (cB c (St.pL s.els) (n+2)) (St.pL s.els).isEmpty:=by rw[St.pq,h];rfl
theorem tail10(h:s.kind=10):tailS c s.pure n top=[⟨34,0,0,0⟩]:=by rw[St.pq,h];rfl
theorem tail0(h:¬s.kind=1∧¬s.kind=2∧¬s.kind=3∧¬s.kind=4∧¬s.kind=5∧¬s.kind=6∧¬s.kind=7∧¬s.kind=8∧¬s.kind=9∧¬s.kind=10):tailS c s.pure n top=[]:=by
 obtain⟨h1,h2,h3,h4,h5,h6,h7,h8,h9,h10⟩:=h
 rw[St.pq];unfold tailS
 simp only[if_neg h1,if_neg h2,if_neg h3,if_neg h4,if_neg h5,if_neg h6,if_neg h7,if_neg h8,if_neg h9,if_neg h10]
end
section
variable{α:Type}(X Y Z V:List α)(a b j k:α)
theorem get_last:(X++[a])[X.length]?=some a:=by rw[List.getElem?_append_right (Nat.le_refl _)];simp
theorem set_last:(X++[a]).set X.length b=X++[b]:=by rw[List.set_append_right _ _ (Nat.le_refl _),Nat.sub_self];rfl
theorem get_mid2:(((X++[a])++Y)++Z)[X.length]?=some a:=by rw[List.append_assoc (X++[a])];exact get_mid' ..
theorem set_mid2:(((X++[a])++Y)++Z).set X.length b=((X++[b])++Y)++Z:=by rw[List.append_assoc (X++[a]),set_mid',←List.append_assoc]
theorem get_mid3:(((((X++[a])++Y)++[j]).set X.length b)++V)[((X++[a])++Y).length]?=some j:=by
 rw[set_mid2,show((X++[a])++Y).length=((X++[b])++Y).length by simp];exact get_mid' ..
theorem set_mid3:((((((X++[a])++Y)++[j]).set X.length b)++V)).set ((X++[a])++Y).length k=X++(b::(Y++(k::V))):=by
 rw[set_mid2,show((X++[a])++Y).length=((X++[b])++Y).length by simp,set_mid'];simp
end
section
variable{cc:Cc}{t e:List PS}{X Y1 W1 Z1 WF:List Ins}
theorem len1(X:List Ins)(y:Ins):(X++[y]).length=X.length+1:=by rw[lap];rfl
theorem at4{y:Ins}(hY1:Y1=(X++[y])++Z1):Y1[X.length]?=some y:=by rw[hY1];exact get_mid' ..
theorem at4b{y j:Ins}(hY1:Y1=(X++[y])++Z1):(Y1++[j])[X.length]?=some y:=by rw[hY1];exact get_mid2 ..
theorem at4c{y j b:Ins}{B V:List Ins}(hY1:Y1=(X++[y])++B)(hW1:W1=(Y1++[j]).set X.length b)(hZ1:Z1=W1++V):Z1[Y1.length]?=some j:=by rw[hZ1,hW1,hY1];exact get_mid3 ..
theorem fin4e{y j:Ins}(hY1:Y1=(X++[y])++cB cc t (X++[y]).length)(hW1:W1=(Y1++[j]).set X.length ⟨28,(((Y1++[j]).length:Nat):Int),0,0⟩)(hZ1:Z1=W1++cB cc e W1.length)(hWF:WF=Z1.set Y1.length ⟨27,((Z1.length:Nat):Int),0,0⟩)(he:e.isEmpty=false):
    WF=X++(⟨28,((X.length+1+(cB cc t (X.length+1)).length+(if e.isEmpty then 0 else 1):Nat):Int),0,0⟩::(cB cc t (X.length+1)++ovr (X.length+1+(cB cc t (X.length+1)).length) (cB cc e (X.length+1+(cB cc t (X.length+1)).length+1)) e.isEmpty)):=by
 rw[len1]at hY1
 have hyl:Y1.length=X.length+1+(cB cc t (X.length+1)).length:=by rw[hY1,lap,len1]
 rw[len1,hyl]at hW1
 have hwl:W1.length=X.length+1+(cB cc t (X.length+1)).length+1:=by rw[hW1,List.length_set,len1,hyl]
 rw[hwl]at hZ1
 have hzl:Z1.length=X.length+1+(cB cc t (X.length+1)).length+1+(cB cc e (X.length+1+(cB cc t (X.length+1)).length+1)).length:=by rw[hZ1,lap,hwl]
 rw[hWF,hzl,hZ1,hW1,hY1,set_mid3,he];rfl
theorem fin4n{y:Ins}(hY1:Y1=(X++[y])++cB cc t (X++[y]).length)(hWF:WF=Y1.set X.length ⟨28,((Y1.length:Nat):Int),0,0⟩)(he:e.isEmpty=true):
    WF=X++(⟨28,((X.length+1+(cB cc t (X.length+1)).length+(if e.isEmpty then 0 else 1):Nat):Int),0,0⟩::(cB cc t (X.length+1)++ovr (X.length+1+(cB cc t (X.length+1)).length) (cB cc e (X.length+1+(cB cc t (X.length+1)).length+1)) e.isEmpty)):=by
 rw[len1]at hY1
 have hyl:Y1.length=X.length+1+(cB cc t (X.length+1)).length:=by rw[hY1,lap,len1]
 rw[hWF,hyl,hY1,set_mid',he];simp[ovr]
theorem fin5{y j:Ins}(hY1:Y1=(X++[y])++cB cc t (X++[y]).length)(hWF:WF=(Y1++[j]).set X.length ⟨28,(((Y1++[j]).length:Nat):Int),0,0⟩):
    WF=X++(⟨28,((X.length+1+(cB cc t (X.length+1)).length+1:Nat):Int),0,0⟩::(cB cc t (X.length+1)++[j])):=by
 rw[len1]at hY1
 have hyl:Y1.length=X.length+1+(cB cc t (X.length+1)).length:=by rw[hY1,lap,len1]
 rw[hWF,len1,hyl,hY1,set_mid2];simp
theorem finF0{op:Nat}{a:Int}{y:Ins}(hWF:WF=(X++[y]).set X.length ⟨op,a,(((X++[y]).length:Nat):Int),0⟩)(he:e.isEmpty=true):WF=(X++[⟨op,a,((X.length+1+(if e.isEmpty then 0 else 1):Nat):Int),0⟩])++ovr (X.length+1) (cB cc e (X.length+2)) e.isEmpty:=by
 rw[hWF,set_last,len1,he];simp[ovr]
theorem finF1{op:Nat}{a:Int}{y j:Ins}(hW1:W1=((X++[y])++[j]).set X.length ⟨op,a,((((X++[y])++[j]).length:Nat):Int),0⟩)(hZ1:Z1=W1++cB cc e W1.length)(hWF:WF=Z1.set (X++[y]).length ⟨27,((Z1.length:Nat):Int),0,0⟩)(he:e.isEmpty=false):WF=(X++[⟨op,a,((X.length+1+(if e.isEmpty then 0 else 1):Nat):Int),0⟩])++ovr (X.length+1) (cB cc e (X.length+2)) e.isEmpty:=by
 have e1:((X++[y])++[j]).length=X.length+2:=by rw[len1,len1]
 rw[e1]at hW1
 have hwl:W1.length=X.length+2:=by rw[hW1,List.length_set,e1]
 rw[hwl]at hZ1
 have hzl:Z1.length=X.length+2+(cB cc e (X.length+2)).length:=by rw[hZ1,lap,hwl]
 rw[set_mid']at hW1
 rw[hWF,hzl,hZ1,hW1,show(X++[y]).length=(X++[(⟨op,a,((X.length+2:Nat):Int),0⟩:Ins)]).length by rw[len1,len1],set_mid',he]
 rw[List.append_assoc (X++[(⟨op,a,((X.length+2:Nat):Int),0⟩:Ins)])];rfl
theorem atF{y j b:Ins}{V:List Ins}(hW1:W1=((X++[y])++[j]).set X.length b)(hZ1:Z1=W1++V):Z1[(X++[y]).length]?=some j:=by
 rw[set_mid']at hW1
 rw[hZ1,hW1,show(X++[y]).length=(X++[b]).length by rw[len1,len1]];exact get_mid' ..
end
theorem ovr_len1(p:Nat)(e:List Ins){b:Bool}(h:b=false):(ovr p e b).length=e.length+1:=by rw[h];rfl
theorem isEmpty_len(l:List St):(St.pL l).isEmpty=decide (l.length=0):=by cases l<;>rfl
theorem cS_pos(c:Cc)(s:PS)(top:Nat):1≤(cS c s top).length:=by rw[cS_tail,List.cons_append,lc1];exact Nat.le_add_left _ _
theorem cB_pos(c:Cc):∀(l:List St) (top:Nat),l.length≤(cB c (St.pL l) top).length
 |[],_=>Nat.le_refl _
 | x::r,top=>by
   have h1:=cS_pos c x.pure top
   have h2:=cB_pos c r (top+(cS c x.pure top).length)
   show r.length+1≤(cS c x.pure top++cB c (St.pL r) _).length
   rw[lap];omega
theorem cB_one(c:Cc)(s:PS)(top:Nat):cB c [s] top=cS c s top:=List.append_nil _
theorem cB_step(c:Cc){l:List St}{j:Nat}{x:St}(top:Nat)(h:l[j]?=some x):cB c (St.pL (l.take (j+1))) top=cB c (St.pL (l.take j)) top++cS c x.pure (top+(cB c (St.pL (l.take j)) top).length):=by
 rw[take_of_get h,St.pm,List.map_append,cB_app,←St.pm];congr 1;exact cB_one ..
theorem cB_le(c:Cc){l:List St}{j:Nat}{x:St}(top:Nat)(h:l[j]?=some x):(cB c (St.pL (l.take j)) top).length+(cS c x.pure (top+(cB c (St.pL (l.take j)) top).length)).length≤(cB c (St.pL l) top).length:=by
 have e2:cB c (St.pL l) top=cB c (St.pL (l.take (j+1))) top++cB c (St.pL (l.drop (j+1))) (top+(cB c (St.pL (l.take (j+1))) top).length):=by
  conv=>lhs;rw[←List.take_append_drop (j+1) l,St.pm,List.map_append,cB_app]
  rw[St.pm,St.pm]
 rw[e2,cB_step c top h,lap,lap];omega
theorem St.sub_ls{A:OA}{l:List St}{x:St}{j:Nat}(h:l[j]?=some x):∀c∈x.kids encE encS,c∈lsS A l:=fun c hc=>by
 show c∈_::St.kidsL encE encS l
 rw[St.kidsL_map]
 exact List.mem_cons_of_mem _ (List.mem_flatMap.2 ⟨x,mog h,hc⟩)
theorem lsE_lax(A:OA)(l:List Ex):Lax (lsE A l):=Lax.cons rfl (Ex.laxL encE l)
theorem lsS_lax(A:OA)(l:List St):Lax (lsS A l):=Lax.cons rfl (St.laxL encE encS l)
theorem St.k_exprs(s:St):∀c∈lsE s.A s.exprs,c∈s.kids encE encS:=fun c hc=>by rw[St.kids_eq];exact List.mem_append_left _ hc
theorem St.k_thn(s:St):∀c∈lsS s.At s.thn,c∈s.kids encE encS:=fun c hc=>by rw[St.kids_eq];exact List.mem_append_right _ (List.mem_append_left _ hc)
theorem St.k_els(s:St):∀c∈lsS s.Ae s.els,c∈s.kids encE encS:=fun c hc=>by rw[St.kids_eq];exact List.mem_append_right _ (List.mem_append_right _ hc)
theorem rbody_step(F:Fl)(hB:BndF F)(ci:Nat)(c:Cm)(hc:F.comps[ci]?=some c)(Ap:OA)(qp:Nat)(ps:List ByteArray)(hps:ps.length≤100)(mb:Nat)(Ab:OA)(qb:Nat)(bs:List St)(ih:∀x∈bs,∀(A:OA) (q:Nat) (l:List Ins),(l++cS (ccR F.pure c.name c.vars ps) x.pure l.length).length≤1000000→Dz 103 [pv mb, .agg (encS x).toArray] [box mb (cF F [nv ci,vs Ap ps qp,vs A l q]) 154,rows Ins.rc 54 4 A q l,all (Fl.kids eR F),ros encZ Ap ps,all (St.kids encE encS x)] (fun v Γ'=>∃(A':OA) (q':Nat),Γ'=[box mb (cF F [nv ci,vs Ap ps qp,vs A' (l++cS (ccR F.pure c.name c.vars ps) x.pure l.length) q']) 154,rows Ins.rc 54 4 A' q' (l++cS (ccR F.pure c.name c.vars ps) x.pure l.length),all (Fl.kids eR F),ros encZ Ap ps]))(A:OA)(q:Nat)(l:List Ins)(hl:(l++cB (ccR F.pure c.name c.vars ps) (St.pL bs) l.length).length≤1000000):
    Dz 44 [pv mb,vs Ab bs qb] [box mb (cF F [nv ci,vs Ap ps qp,vs A l q]) 154,rows Ins.rc 54 4 A q l,all (Fl.kids eR F),ros encZ Ap ps,all (lsS Ab bs)] (fun v Γ'=>∃(A':OA) (q':Nat),Γ'=[box mb (cF F [nv ci,vs Ap ps qp,vs A' (l++cB (ccR F.pure c.name c.vars ps) (St.pL bs) l.length) q']) 154,rows Ins.rc 54 4 A' q' (l++cB (ccR F.pure c.name c.vars ps) (St.pL bs) l.length),all (Fl.kids eR F),ros encZ Ap ps]):=by
 rw[lap]at hl
 have hal:=cB_pos (ccR F.pure c.name c.vars ps) bs l.length
 refine Does.en func44 ntmps44 fun w0=>?_
 refine Js (To.one 4 rfl (ros encS Ab bs) rfl (List.mem_cons_self ..) (Jz 7 ?_))
 refine To.loP (fun s g mz ρ Γ=>∃(Aj:OA) (qj:Nat) (lj:List Ins) (j:Nat),ρ=[s 0,s 6,s 7,(8,nv j)]∧Γ=[box mb (cF F [nv ci,vs Ap ps qp,vs Aj lj qj]) 154,rows Ins.rc 54 4 Aj qj lj,g 3,g 4,g 0,g 5]∧mz=bs.length-j∧(j≤bs.length)∧(lj=l++cB (ccR F.pure c.name c.vars ps) (St.pL (bs.take j)) l.length)) ⟨⟨A,q,l,0,rfl,rfl,rfl,om,((List.append_nil _).symm)⟩,sb⟩ ?_
 rintro mz _ _ ⟨Aj,qj,lj,j,rfl,rfl,rfl,hj,hlj⟩
 have hljl:lj.length=l.length+(cB (ccR F.pure c.name c.vars ps) (St.pL (bs.take j)) l.length).length:=by rw[hlj,lap]
 refine Jz 6 ?_
 refine Jcp rfl ?_ ?_<;>intro c9
 obtain⟨x,hx⟩:=exg bs j om
 have hle:=cB_le (ccR F.pure c.name c.vars ps) l.length hx
 rw[←hljl]at hle
 refine Jz 8 ?_
 refine Jal fun b5=>?_
 refine Jz 3 ?_
 refine Jpart 6 rfl (x.kids encE encS) (St.lax encE encS x) (St.sub_ls hx) (Jz 3 ?_)
 refine Jcf [2,2,2,2,0] (ih x (mog hx) Aj qj lj (by rw[lap];omega)) ?_
 rintro _ _ ⟨An,qn,rfl⟩
 refine Jz 8 ?_
 refine To.agP ⟨⟨An,qn,(lj++cS (ccR F.pure c.name c.vars ps) x.pure lj.length),j+1,rfl,rfl,rfl,om,(by rw[cB_step _ _ hx,←hljl,←List.append_assoc,←hlj])⟩,sb⟩
 refine Jz 4 ?_
 refine Jdel5 (Jdel4 (Jend0 (.inr rfl) results44 ?_))
 have hE:lj=l++cB (ccR F.pure c.name c.vars ps) (St.pL bs) l.length:=by rw[hlj,List.take_of_length_le om]
 rw[←hE];exact⟨_,_,rfl⟩
theorem fails_fn(F:Fl)(hB:BndF F)(ci:Nat)(c:Cm)(hc:F.comps[ci]?=some c)(Ap:OA)(qp:Nat)(ps:List ByteArray)(hps:ps.length≤100)(mb:Nat)(Ab:OA)(qb:Nat)(bs:List St)(ih:∀(A:OA) (q:Nat) (l:List Ins),(l++cB (ccR F.pure c.name c.vars ps) (St.pL bs) l.length).length≤1000000→Dz 44 [pv mb,vs Ab bs qb] [box mb (cF F [nv ci,vs Ap ps qp,vs A l q]) 154,rows Ins.rc 54 4 A q l,all (Fl.kids eR F),ros encZ Ap ps,all (lsS Ab bs)] (fun v Γ'=>∃(A':OA) (q':Nat),Γ'=[box mb (cF F [nv ci,vs Ap ps qp,vs A' (l++cB (ccR F.pure c.name c.vars ps) (St.pL bs) l.length) q']) 154,rows Ins.rc 54 4 A' q' (l++cB (ccR F.pure c.name c.vars ps) (St.pL bs) l.length),all (Fl.kids eR F),ros encZ Ap ps]))(X:List Ins)(op:Nat)(a:Int)(A:OA)(q:Nat)(hl:((X++[(⟨op,a,((X.length+1+(if(St.pL bs).isEmpty then 0 else 1):Nat):Int),0⟩:Ins)])++ovr (X.length+1) (cB (ccR F.pure c.name c.vars ps) (St.pL bs) (X.length+2)) (St.pL bs).isEmpty).length≤1000000):
    Dz 169 [pv mb,nv X.length,vs Ab bs qb] [box mb (cF F [nv ci,vs Ap ps qp,vs A (X++[(⟨op,a,0,0⟩:Ins)]) q]) 154,rows Ins.rc 54 4 A q (X++[(⟨op,a,0,0⟩:Ins)]),all (Fl.kids eR F),ros encZ Ap ps,all (lsS Ab bs)] (fun v Γ'=>∃(A':OA) (q':Nat),Γ'=[box mb (cF F [nv ci,vs Ap ps qp,vs A' ((X++[(⟨op,a,((X.length+1+(if(St.pL bs).isEmpty then 0 else 1):Nat):Int),0⟩:Ins)])++ovr (X.length+1) (cB (ccR F.pure c.name c.vars ps) (St.pL bs) (X.length+2)) (St.pL bs).isEmpty) q']) 154,rows Ins.rc 54 4 A' q' ((X++[(⟨op,a,((X.length+1+(if(St.pL bs).isEmpty then 0 else 1):Nat):Int),0⟩:Ins)])++ovr (X.length+1) (cB (ccR F.pure c.name c.vars ps) (St.pL bs) (X.length+2)) (St.pL bs).isEmpty),all (Fl.kids eR F),ros encZ Ap ps]):=by
 rw[lap,len1]at hl
 have hX1:(X++[(⟨op,a,0,0⟩:Ins)]).length=X.length+1:=len1 ..
 have hov:¬bs.length=0→(ovr (X.length+1) (cB (ccR F.pure c.name c.vars ps) (St.pL bs) (X.length+2)) (St.pL bs).isEmpty).length=(cB (ccR F.pure c.name c.vars ps) (St.pL bs) (X.length+2)).length+1:=fun h=>by rw[isEmpty_len,decide_eq_false h];rfl
 refine Does.en func169 ntmps169 fun w0=>?_
 refine Jz 8 ?_
 refine Jcp rfl ?_ ?_<;>intro c9
 refine Js (Jfw [] [0,1,2,4,5,6,7,103,108,9,110,11,512] (ocn _) ?_)
 refine Jz 10 ?_
 refine Fw.r rfl (Rd.ixr (i:=1) (j:=X.length) rfl rfl rfl s35 rfl (get_last ..)) ?_
 refine Jz 1 ?_
 refine Fw.up rfl rfl rfl (Up.store (i:=1) rfl rfl rfl c3 rfl rfl (rows_takesF (f:=2) (y:=(⟨op,a,0,0⟩:Ins)) (z:=(⟨op,a,(((X++[(⟨op,a,0,0⟩:Ins)]).length:Nat):Int),0⟩:Ins)) encRi (get_last ..) (by decide) rfl)) (ocn _) ?_
 refine Jz 4 ?_
 refine Jas [box mb (cF F [nv ci,vs Ap ps qp,vs A (X++[(⟨op,a,0,0⟩:Ins)]) q]) 154,rows Ins.rc 54 4 A q ((X++[(⟨op,a,0,0⟩:Ins)]).set X.length (⟨op,a,(((X++[(⟨op,a,0,0⟩:Ins)]).length:Nat):Int),0⟩:Ins)),all (Fl.kids eR F),ros encZ Ap ps,all (lsS Ab bs)] rfl ?_
 obtain⟨WF,hWF⟩:∃z0,z0=((X++[(⟨op,a,0,0⟩:Ins)]).set X.length (⟨op,a,(((X++[(⟨op,a,0,0⟩:Ins)]).length:Nat):Int),0⟩:Ins)):=⟨_,rfl⟩
 rw[←hWF]
 have hlWF:WF.length=(X++[(⟨op,a,0,0⟩:Ins)]).length:=by rw[hWF];exact List.length_set ..
 (try unfold vs);rw[←hlWF]
 refine Jdel4 (Jend0 (.inl rfl) results169 ?_)
 have he:(St.pL bs).isEmpty=true:=by rw[isEmpty_len];exact decide_eq_true om
 have hE:WF=((X++[(⟨op,a,((X.length+1+(if(St.pL bs).isEmpty then 0 else 1):Nat):Int),0⟩:Ins)])++ovr (X.length+1) (cB (ccR F.pure c.name c.vars ps) (St.pL bs) (X.length+2)) (St.pL bs).isEmpty):=finF0 hWF he
 rw[←hE];exact⟨_,_,rfl⟩
 refine Jz 15 ?_
 refine Jcf [0,0] (put_fn F hB ci c hc Ap qp ps hps mb A q (X++[(⟨op,a,0,0⟩:Ins)]) 27 0 0 0   (by simp only[lap,lc1,ln0];omega)) ?_
 rintro _ _ ⟨An,qn,rfl⟩
 refine Jz 3 ?_
 refine Jfw [] [0,1,2,4,5,6,7,103,108,9,110,11,512] (ocn _) ?_
 refine Jz 10 ?_
 refine Fw.r rfl (Rd.ixr (i:=1) (j:=X.length) rfl rfl rfl s35 rfl (get_mid' ..)) ?_
 refine Jz 1 ?_
 refine Fw.up rfl rfl rfl (Up.store (i:=1) rfl rfl rfl c3 rfl rfl (rows_takesF (f:=2) (y:=(⟨op,a,0,0⟩:Ins)) (z:=(⟨op,a,((((X++[(⟨op,a,0,0⟩:Ins)])++[(⟨27,0,0,0⟩:Ins)]).length:Nat):Int),0⟩:Ins)) encRi (get_mid' ..) (by decide) rfl)) (ocn _) ?_
 refine Jz 3 ?_
 refine Jas [box mb (cF F [nv ci,vs Ap ps qp,vs An ((X++[(⟨op,a,0,0⟩:Ins)])++[(⟨27,0,0,0⟩:Ins)]) qn]) 154,rows Ins.rc 54 4 An qn (((X++[(⟨op,a,0,0⟩:Ins)])++[(⟨27,0,0,0⟩:Ins)]).set X.length (⟨op,a,((((X++[(⟨op,a,0,0⟩:Ins)])++[(⟨27,0,0,0⟩:Ins)]).length:Nat):Int),0⟩:Ins)),all (Fl.kids eR F),ros encZ Ap ps,all (lsS Ab bs)] rfl ?_
 obtain⟨W1,hW1⟩:∃z0,z0=(((X++[(⟨op,a,0,0⟩:Ins)])++[(⟨27,0,0,0⟩:Ins)]).set X.length (⟨op,a,((((X++[(⟨op,a,0,0⟩:Ins)])++[(⟨27,0,0,0⟩:Ins)]).length:Nat):Int),0⟩:Ins)):=⟨_,rfl⟩
 rw[←hW1]
 have hlW1:W1.length=((X++[(⟨op,a,0,0⟩:Ins)])++[(⟨27,0,0,0⟩:Ins)]).length:=by rw[hW1];exact List.length_set ..
 (try unfold vs);rw[←hlW1]
 refine Jpart 4 rfl (lsS Ab bs) (lsS_lax Ab bs) (fun _ h=>h) ?_
 have hwl:W1.length=X.length+2:=by rw[hlW1,len1,len1]
 refine Jz 3 ?_
 refine Jcf [1,1,1,1,0] (ih An qn W1 (by rw[lap,hwl];omega)) ?_
 rintro _ _ ⟨An_2,qn_2,rfl⟩
 refine Jn (Jt (Jas [box mb (cF F [nv ci,vs Ap ps qp,vs An_2 (W1++cB (ccR F.pure c.name c.vars ps) (St.pL bs) W1.length) qn_2]) 154,rows Ins.rc 54 4 An_2 qn_2 (W1++cB (ccR F.pure c.name c.vars ps) (St.pL bs) W1.length),all (Fl.kids eR F),ros encZ Ap ps,all (lsS Ab bs)] rfl ?_))
 obtain⟨Z1,hZ1⟩:∃z0,z0=(W1++cB (ccR F.pure c.name c.vars ps) (St.pL bs) W1.length):=⟨_,rfl⟩
 rw[←hZ1]
 have hz6:Z1[(X++[(⟨op,a,0,0⟩:Ins)]).length]?=some (⟨27,0,0,0⟩:Ins):=atF hW1 hZ1
 refine Jfw [] [0,1,2,4,5,6,7,103,108,9,110,11,512] (ocn _) ?_
 refine Jz 10 ?_
 refine Fw.r rfl (Rd.ixr (i:=1) (j:=((X++[(⟨op,a,0,0⟩:Ins)]).length)) rfl rfl rfl s35 rfl hz6) ?_
 refine Jz 1 ?_
 refine Fw.up rfl rfl rfl (Up.store (i:=1) rfl rfl rfl c3 rfl rfl (rows_takesF (f:=1) (y:=(⟨27,0,0,0⟩:Ins)) (z:=(⟨27,((Z1.length:Nat):Int),0,0⟩:Ins)) encRi hz6 (by decide) rfl)) (ocn _) ?_
 refine Fw.fin ?_
 refine Jas [box mb (cF F [nv ci,vs Ap ps qp,vs An_2 Z1 qn_2]) 154,rows Ins.rc 54 4 An_2 qn_2 (Z1.set ((X++[(⟨op,a,0,0⟩:Ins)]).length) (⟨27,((Z1.length:Nat):Int),0,0⟩:Ins)),all (Fl.kids eR F),ros encZ Ap ps,all (lsS Ab bs)] rfl ?_
 obtain⟨WF,hWF⟩:∃z0,z0=(Z1.set ((X++[(⟨op,a,0,0⟩:Ins)]).length) (⟨27,((Z1.length:Nat):Int),0,0⟩:Ins)):=⟨_,rfl⟩
 rw[←hWF]
 have hlWF:WF.length=Z1.length:=by rw[hWF];exact List.length_set ..
 (try unfold vs);rw[←hlWF]
 refine Jdel4 (Jend0 (.inr rfl) results169 ?_)
 have he:(St.pL bs).isEmpty=false:=by rw[isEmpty_len];exact decide_eq_false om
 have hE:WF=((X++[(⟨op,a,((X.length+1+(if(St.pL bs).isEmpty then 0 else 1):Nat):Int),0⟩:Ins)])++ovr (X.length+1) (cB (ccR F.pure c.name c.vars ps) (St.pL bs) (X.length+2)) (St.pL bs).isEmpty):=finF1 hW1 hZ1 hWF he
 rw[←hE];exact⟨_,_,rfl⟩
theorem rstmt_step(F:Fl)(hB:BndF F)(ci:Nat)(c:Cm)(hc:F.comps[ci]?=some c)(Ap:OA)(qp:Nat)(ps:List ByteArray)(hps:ps.length≤100)(mb:Nat)(s:St)(ihT:∀(A:OA) (q:Nat) (l:List Ins),(l++cB (ccR F.pure c.name c.vars ps) (St.pL s.thn) l.length).length≤1000000→Dz 44 [pv mb,vs s.At s.thn s.qt] [box mb (cF F [nv ci,vs Ap ps qp,vs A l q]) 154,rows Ins.rc 54 4 A q l,all (Fl.kids eR F),ros encZ Ap ps,all (lsS s.At s.thn)] (fun v Γ'=>∃(A':OA) (q':Nat),Γ'=[box mb (cF F [nv ci,vs Ap ps qp,vs A' (l++cB (ccR F.pure c.name c.vars ps) (St.pL s.thn) l.length) q']) 154,rows Ins.rc 54 4 A' q' (l++cB (ccR F.pure c.name c.vars ps) (St.pL s.thn) l.length),all (Fl.kids eR F),ros encZ Ap ps]))(ihE:∀(A:OA) (q:Nat) (l:List Ins),(l++cB (ccR F.pure c.name c.vars ps) (St.pL s.els) l.length).length≤1000000→Dz 44 [pv mb,vs s.Ae s.els s.qe] [box mb (cF F [nv ci,vs Ap ps qp,vs A l q]) 154,rows Ins.rc 54 4 A q l,all (Fl.kids eR F),ros encZ Ap ps,all (lsS s.Ae s.els)] (fun v Γ'=>∃(A':OA) (q':Nat),Γ'=[box mb (cF F [nv ci,vs Ap ps qp,vs A' (l++cB (ccR F.pure c.name c.vars ps) (St.pL s.els) l.length) q']) 154,rows Ins.rc 54 4 A' q' (l++cB (ccR F.pure c.name c.vars ps) (St.pL s.els) l.length),all (Fl.kids eR F),ros encZ Ap ps]))(A:OA)(q:Nat)(l:List Ins)(hl:(l++cS (ccR F.pure c.name c.vars ps) s.pure l.length).length≤1000000):
    Dz 103 [pv mb, .agg (encS s).toArray] [box mb (cF F [nv ci,vs Ap ps qp,vs A l q]) 154,rows Ins.rc 54 4 A q l,all (Fl.kids eR F),ros encZ Ap ps,all (St.kids encE encS s)] (fun v Γ'=>∃(A':OA) (q':Nat),Γ'=[box mb (cF F [nv ci,vs Ap ps qp,vs A' (l++cS (ccR F.pure c.name c.vars ps) s.pure l.length) q']) 154,rows Ins.rc 54 4 A' q' (l++cS (ccR F.pure c.name c.vars ps) s.pure l.length),all (Fl.kids eR F),ros encZ Ap ps]):=by
 have hEl:(cS (ccR F.pure c.name c.vars ps) s.pure l.length).length=(cEs (ccR F.pure c.name c.vars ps) (Ex.pL s.exprs)).length+1+(tailS (ccR F.pure c.name c.vars ps) s.pure (l.length+(cEs (ccR F.pure c.name c.vars ps) (Ex.pL s.exprs)).length+1) l.length).length:=by
  rw[cS_tail,lap,lc1,show s.pure.exprs=Ex.pL s.exprs by rw[St.pq]]
 rw[lap]at hl
 have hel:=ex_args_le (ccR F.pure c.name c.vars ps) s.exprs
 refine Does.en func103 ntmps103 fun w0=>?_
 refine Js (To.g (Jbo fun b3=>?_))
 refine Jz 15 ?_
 refine Jcf [1,1] (put_fn F hB ci c hc Ap qp ps hps mb A q l 29 0 0 0   (by simp only[lap,lc1,ln0];omega)) ?_
 rintro _ _ ⟨An,qn,rfl⟩
 refine Jz 3 ?_
 refine Jpart 5 rfl (lsE s.A s.exprs) (lsE_lax _ _) (St.k_exprs s) (Jz 4 ?_)
 refine Jcf [1,1,2,2,0] (exprs_fn F hB ci c hc Ap qp ps hps mb s.A s.q s.exprs An qn (l++[(⟨29,0,0,0⟩:Ins)]) (by rw[lap,len1];omega)) ?_
 rintro _ _ ⟨An_2,qn_2,rfl⟩
 refine Jz 3 ?_
 refine Jas [box mb (cF F [nv ci,vs Ap ps qp,vs An_2 ((l++[(⟨29,0,0,0⟩:Ins)])++cEs (ccR F.pure c.name c.vars ps) (Ex.pL s.exprs)) qn_2]) 154,rows Ins.rc 54 4 An_2 qn_2 ((l++[(⟨29,0,0,0⟩:Ins)])++cEs (ccR F.pure c.name c.vars ps) (Ex.pL s.exprs)),all (Fl.kids eR F),ros encZ Ap ps,box b3 (encS s) 269,all (St.kids encE encS s)] rfl ?_
 obtain⟨X,hX⟩:∃z0,z0=((l++[(⟨29,0,0,0⟩:Ins)])++cEs (ccR F.pure c.name c.vars ps) (Ex.pL s.exprs)):=⟨_,rfl⟩
 rw[←hX]
 have hXl:X.length=l.length+1+(cEs (ccR F.pure c.name c.vars ps) (Ex.pL s.exprs)).length:=by rw[hX,lap,len1]
 have hfin:=fin_all (ccR F.pure c.name c.vars ps) s hX
 have hlen:=congrArg List.length hfin
 rw[lap,lap]at hlen
 refine Jz 10 ?_
 refine To.one 2 rfl (ros encC F.Ac F.comps) rfl (fl_comps F) (Jfw [] [0,1,2,3,5,6,7,104,108,109,10,111,12] (ocn _) ?_)
 refine Jz 28 ?_
 refine Jcp rfl ?_ ?_<;>intro c42
 have hk:s.kind=1:=om
 have htl:=congrArg List.length (tail1 (c:=(ccR F.pure c.name c.vars ps)) (n:=X.length) (top:=l.length) hk)
 rw[List.length_singleton]at htl
 refine Jz 5 ?_
 refine Jcf [1,2] (slot_fn F hB ci c hc Ap qp ps hps mb An_2 qn_2 X s.name false) ?_
 rintro _ _ ⟨rfl,rfl⟩
 refine Jcf [0,2] (put_fn F hB ci c hc Ap qp ps hps mb An_2 qn_2 X 24 (slI c.vars s.name false) 0 0   (by simp only[lap,lc1,ln0];omega)) ?_
 rintro _ _ ⟨An_3,qn_3,rfl⟩
 refine Jn (Jbn (Jdel6 (Jdel5 (Jdel3 (Jend0 (.inr rfl) results103 ?_)))))
 have hE:X++[(⟨24,slI c.vars s.name false,0,0⟩:Ins)]=l++cS (ccR F.pure c.name c.vars ps) s.pure l.length:=by rw[hfin,tail1 hk];rfl
 rw[←hE];exact⟨_,_,rfl⟩
 refine Jz 6 ?_
 refine Jcp rfl ?_ ?_<;>intro c50
 have hk:s.kind=2:=om
 have htl:=congrArg List.length (tail2 (c:=(ccR F.pure c.name c.vars ps)) (n:=X.length) (top:=l.length) hk)
 rw[List.length_singleton]at htl
 refine Jz 5 ?_
 refine Jcf [1,2] (slot_fn F hB ci c hc Ap qp ps hps mb An_2 qn_2 X s.name true) ?_
 rintro _ _ ⟨rfl,rfl⟩
 refine Jcf [0,2] (put_fn F hB ci c hc Ap qp ps hps mb An_2 qn_2 X 25 (slI c.vars s.name true) 0 0   (by simp only[lap,lc1,ln0];omega)) ?_
 rintro _ _ ⟨An_4,qn_4,rfl⟩
 refine Jn (Jbn (Jdel6 (Jdel5 (Jdel3 (Jend0 (.inr rfl) results103 ?_)))))
 have hE:X++[(⟨25,slI c.vars s.name true,0,0⟩:Ins)]=l++cS (ccR F.pure c.name c.vars ps) s.pure l.length:=by rw[hfin,tail2 hk];rfl
 rw[←hE];exact⟨_,_,rfl⟩
 refine Jz 6 ?_
 refine Jcp rfl ?_ ?_<;>intro c58
 have hk:s.kind=3:=om
 have htl:=congrArg List.length (tail3 (c:=(ccR F.pure c.name c.vars ps)) (n:=X.length) (top:=l.length) hk)
 rw[List.length_singleton]at htl
 refine Jz 5 ?_
 refine Jcf [1,2] (slot_fn F hB ci c hc Ap qp ps hps mb An_2 qn_2 X s.name true) ?_
 rintro _ _ ⟨rfl,rfl⟩
 refine Jcf [0,2] (put_fn F hB ci c hc Ap qp ps hps mb An_2 qn_2 X 26 (slI c.vars s.name true) 0 0   (by simp only[lap,lc1,ln0];omega)) ?_
 rintro _ _ ⟨An_5,qn_5,rfl⟩
 refine Jn (Jbn (Jdel6 (Jdel5 (Jdel3 (Jend0 (.inr rfl) results103 ?_)))))
 have hE:X++[(⟨26,slI c.vars s.name true,0,0⟩:Ins)]=l++cS (ccR F.pure c.name c.vars ps) s.pure l.length:=by rw[hfin,tail3 hk];rfl
 rw[←hE];exact⟨_,_,rfl⟩
 refine Jz 6 ?_
 refine Jcp rfl ?_ ?_<;>intro c66
 have hk:s.kind=4:=om
 have ht4:=congrArg List.length (tail4 (c:=(ccR F.pure c.name c.vars ps)) (n:=X.length) (top:=l.length) hk)
 rw[lc1,lap]at ht4
 refine Jz 3 ?_
 refine Jcf [1,1] (put_fn F hB ci c hc Ap qp ps hps mb An_2 qn_2 X 28 0 0 0   (by simp only[lap,lc1,ln0];omega)) ?_
 rintro _ _ ⟨An_6,qn_6,rfl⟩
 refine Jz 3 ?_
 refine Jpart 6 rfl (lsS s.At s.thn) (lsS_lax _ _) (St.k_thn s) ?_
 have hx28:(X++[(⟨28,0,0,0⟩:Ins)]).length=X.length+1:=len1 ..
 refine Jz 4 ?_
 refine Jcf [1,1,2,2,0] (ihT An_6 qn_6 (X++[(⟨28,0,0,0⟩:Ins)]) (by rw[lap,hx28];omega)) ?_
 rintro _ _ ⟨An_7,qn_7,rfl⟩
 refine Jz 3 ?_
 refine Jas [box mb (cF F [nv ci,vs Ap ps qp,vs An_7 ((X++[(⟨28,0,0,0⟩:Ins)])++cB (ccR F.pure c.name c.vars ps) (St.pL s.thn) (X++[(⟨28,0,0,0⟩:Ins)]).length) qn_7]) 154,rows Ins.rc 54 4 An_7 qn_7 ((X++[(⟨28,0,0,0⟩:Ins)])++cB (ccR F.pure c.name c.vars ps) (St.pL s.thn) (X++[(⟨28,0,0,0⟩:Ins)]).length),all (Fl.kids eR F),ros encZ Ap ps,ros encC F.Ac F.comps,box b3 (encS s) 269,all (St.kids encE encS s)] rfl ?_
 obtain⟨Y1,hY1⟩:∃z0,z0=((X++[(⟨28,0,0,0⟩:Ins)])++cB (ccR F.pure c.name c.vars ps) (St.pL s.thn) (X++[(⟨28,0,0,0⟩:Ins)]).length):=⟨_,rfl⟩
 rw[←hY1]
 have hyl:Y1.length=X.length+1+(cB (ccR F.pure c.name c.vars ps) (St.pL s.thn) (X.length+1)).length:=by rw[hY1,lap,hx28]
 refine Jz 7 ?_
 refine Jcp rfl ?_ ?_<;>intro c77
 have he:(St.pL s.els).isEmpty=false:=by rw[isEmpty_len];exact decide_eq_false om
 rw[ovr_len1 _ _ he,←hyl]at ht4
 refine Jz 13 ?_
 refine Jcf [0,0] (put_fn F hB ci c hc Ap qp ps hps mb An_7 qn_7 Y1 27 0 0 0   (by simp only[lap,lc1,ln0];omega)) ?_
 rintro _ _ ⟨An_8,qn_8,rfl⟩
 refine Jz 3 ?_
 refine Jfw [] [0,1,2,4,5,6,7,103,108,9,110,11,512] (ocn _) ?_
 refine Jz 10 ?_
 refine Fw.r rfl (Rd.ixr (i:=1) (j:=X.length) rfl rfl rfl s35 rfl (at4b hY1)) ?_
 refine Jz 1 ?_
 refine Fw.up rfl rfl rfl (Up.store (i:=1) rfl rfl rfl c3 rfl rfl (rows_takesF (f:=1) (y:=(⟨28,0,0,0⟩:Ins)) (z:=(⟨28,(((Y1++[(⟨27,0,0,0⟩:Ins)]).length:Nat):Int),0,0⟩:Ins)) encRi (at4b hY1) (by decide) rfl)) (ocn _) ?_
 refine Fw.fin ?_
 refine Jsub [(0,pv mb),(1, .agg (encS s).toArray),(3,pv b3),(4,nv l.length),(5,nv X.length),(6, .string c.name),(41,nv s.kind),(42, .bool (decide (((s.kind:Nat):Int)=1))),(50, .bool (decide (((s.kind:Nat):Int)=2))),(58, .bool (decide (((s.kind:Nat):Int)=3))),(66, .bool (decide (((s.kind:Nat):Int)=4))),(77, .bool (decide (0<((s.els.length:Nat):Int)))),(7,nv Y1.length)] sb (Jt (Js (Jas [box mb (cF F [nv ci,vs Ap ps qp,vs An_8 (Y1++[(⟨27,0,0,0⟩:Ins)]) qn_8]) 154,rows Ins.rc 54 4 An_8 qn_8 ((Y1++[(⟨27,0,0,0⟩:Ins)]).set X.length (⟨28,(((Y1++[(⟨27,0,0,0⟩:Ins)]).length:Nat):Int),0,0⟩:Ins)),all (Fl.kids eR F),ros encZ Ap ps,ros encC F.Ac F.comps,box b3 (encS s) 269,all (St.kids encE encS s)] rfl ?_)))
 obtain⟨W1,hW1⟩:∃z0,z0=((Y1++[(⟨27,0,0,0⟩:Ins)]).set X.length (⟨28,(((Y1++[(⟨27,0,0,0⟩:Ins)]).length:Nat):Int),0,0⟩:Ins)):=⟨_,rfl⟩
 rw[←hW1]
 have hlW1:W1.length=(Y1++[(⟨27,0,0,0⟩:Ins)]).length:=by rw[hW1];exact List.length_set ..
 (try unfold vs);rw[←hlW1]
 refine Jpart 6 rfl (lsS s.Ae s.els) (lsS_lax _ _) (St.k_els s) ?_
 have hwl:W1.length=Y1.length+1:=by rw[hlW1,len1]
 refine Jz 4 ?_
 refine Jcf [1,1,1,1,0] (ihE An_8 qn_8 W1 (by rw[lap,hwl];omega)) ?_
 rintro _ _ ⟨An_9,qn_9,rfl⟩
 refine Jn (Jt (Jas [box mb (cF F [nv ci,vs Ap ps qp,vs An_9 (W1++cB (ccR F.pure c.name c.vars ps) (St.pL s.els) W1.length) qn_9]) 154,rows Ins.rc 54 4 An_9 qn_9 (W1++cB (ccR F.pure c.name c.vars ps) (St.pL s.els) W1.length),all (Fl.kids eR F),ros encZ Ap ps,ros encC F.Ac F.comps,box b3 (encS s) 269,all (St.kids encE encS s)] rfl ?_))
 obtain⟨Z1,hZ1⟩:∃z0,z0=(W1++cB (ccR F.pure c.name c.vars ps) (St.pL s.els) W1.length):=⟨_,rfl⟩
 rw[←hZ1]
 refine Jfw [] [0,1,2,4,5,6,7,103,108,9,110,11,512] (ocn _) ?_
 refine Jz 10 ?_
 refine Fw.r rfl (Rd.ixr (i:=1) (j:=Y1.length) rfl rfl rfl s35 rfl (at4c hY1 hW1 hZ1)) ?_
 refine Jz 1 ?_
 refine Fw.up rfl rfl rfl (Up.store (i:=1) rfl rfl rfl c3 rfl rfl (rows_takesF (f:=1) (y:=(⟨27,0,0,0⟩:Ins)) (z:=(⟨27,((Z1.length:Nat):Int),0,0⟩:Ins)) encRi (at4c hY1 hW1 hZ1) (by decide) rfl)) (ocn _) ?_
 refine Jz 2 ?_
 refine Jas [box mb (cF F [nv ci,vs Ap ps qp,vs An_9 Z1 qn_9]) 154,rows Ins.rc 54 4 An_9 qn_9 (Z1.set Y1.length (⟨27,((Z1.length:Nat):Int),0,0⟩:Ins)),all (Fl.kids eR F),ros encZ Ap ps,ros encC F.Ac F.comps,box b3 (encS s) 269,all (St.kids encE encS s)] rfl ?_
 obtain⟨WF,hWF⟩:∃z0,z0=(Z1.set Y1.length (⟨27,((Z1.length:Nat):Int),0,0⟩:Ins)):=⟨_,rfl⟩
 rw[←hWF]
 have hlWF:WF.length=Z1.length:=by rw[hWF];exact List.length_set ..
 (try unfold vs);rw[←hlWF]
 refine Jdel6 (Jdel5 (Jdel4 (Jend0 (.inr rfl) results103 ?_)))
 have hE:WF=l++cS (ccR F.pure c.name c.vars ps) s.pure l.length:=by rw[hfin,tail4 hk];exact fin4e hY1 hW1 hZ1 hWF he
 rw[←hE];exact⟨_,_,rfl⟩
 refine Jfw [] [0,1,2,4,5,6,7,103,108,9,110,11,512] (ocn _) ?_
 refine Jz 10 ?_
 refine Fw.r rfl (Rd.ixr (i:=1) (j:=X.length) rfl rfl rfl s35 rfl (at4 hY1)) ?_
 refine Jz 1 ?_
 refine Fw.up rfl rfl rfl (Up.store (i:=1) rfl rfl rfl c3 rfl rfl (rows_takesF (f:=1) (y:=(⟨28,0,0,0⟩:Ins)) (z:=(⟨28,((Y1.length:Nat):Int),0,0⟩:Ins)) encRi (at4 hY1) (by decide) rfl)) (ocn _) ?_
 refine Jz 2 ?_
 refine Jas [box mb (cF F [nv ci,vs Ap ps qp,vs An_7 Y1 qn_7]) 154,rows Ins.rc 54 4 An_7 qn_7 (Y1.set X.length (⟨28,((Y1.length:Nat):Int),0,0⟩:Ins)),all (Fl.kids eR F),ros encZ Ap ps,ros encC F.Ac F.comps,box b3 (encS s) 269,all (St.kids encE encS s)] rfl ?_
 obtain⟨WF,hWF⟩:∃z0,z0=(Y1.set X.length (⟨28,((Y1.length:Nat):Int),0,0⟩:Ins)):=⟨_,rfl⟩
 rw[←hWF]
 have hlWF:WF.length=Y1.length:=by rw[hWF];exact List.length_set ..
 (try unfold vs);rw[←hlWF]
 refine Jdel6 (Jdel5 (Jdel4 (Jend0 (.inr rfl) results103 ?_)))
 have he:(St.pL s.els).isEmpty=true:=by rw[isEmpty_len];exact decide_eq_true om
 have hE:WF=l++cS (ccR F.pure c.name c.vars ps) s.pure l.length:=by rw[hfin,tail4 hk];exact fin4n hY1 hWF he
 rw[←hE];exact⟨_,_,rfl⟩
 refine Jz 6 ?_
 refine Jcp rfl ?_ ?_<;>intro c125
 have hk:s.kind=5:=om
 have ht5:=congrArg List.length (tail5 (c:=(ccR F.pure c.name c.vars ps)) (n:=X.length) (top:=l.length) hk)
 rw[lc1,lap,List.length_singleton]at ht5
 refine Jz 3 ?_
 refine Jcf [1,1] (put_fn F hB ci c hc Ap qp ps hps mb An_2 qn_2 X 28 0 0 0   (by simp only[lap,lc1,ln0];omega)) ?_
 rintro _ _ ⟨An_10,qn_10,rfl⟩
 refine Jz 3 ?_
 refine Jpart 6 rfl (lsS s.At s.thn) (lsS_lax _ _) (St.k_thn s) ?_
 have hx28:(X++[(⟨28,0,0,0⟩:Ins)]).length=X.length+1:=len1 ..
 refine Jz 4 ?_
 refine Jcf [1,1,2,2,0] (ihT An_10 qn_10 (X++[(⟨28,0,0,0⟩:Ins)]) (by rw[lap,hx28];omega)) ?_
 rintro _ _ ⟨An_11,qn_11,rfl⟩
 refine Jz 3 ?_
 refine Jas [box mb (cF F [nv ci,vs Ap ps qp,vs An_11 ((X++[(⟨28,0,0,0⟩:Ins)])++cB (ccR F.pure c.name c.vars ps) (St.pL s.thn) (X++[(⟨28,0,0,0⟩:Ins)]).length) qn_11]) 154,rows Ins.rc 54 4 An_11 qn_11 ((X++[(⟨28,0,0,0⟩:Ins)])++cB (ccR F.pure c.name c.vars ps) (St.pL s.thn) (X++[(⟨28,0,0,0⟩:Ins)]).length),all (Fl.kids eR F),ros encZ Ap ps,ros encC F.Ac F.comps,box b3 (encS s) 269,all (St.kids encE encS s)] rfl ?_
 obtain⟨Y1,hY1⟩:∃z0,z0=((X++[(⟨28,0,0,0⟩:Ins)])++cB (ccR F.pure c.name c.vars ps) (St.pL s.thn) (X++[(⟨28,0,0,0⟩:Ins)]).length):=⟨_,rfl⟩
 rw[←hY1]
 have hyl:Y1.length=X.length+1+(cB (ccR F.pure c.name c.vars ps) (St.pL s.thn) (X.length+1)).length:=by rw[hY1,lap,hx28]
 refine Jz 3 ?_
 refine Jcf [0,0] (put_fn F hB ci c hc Ap qp ps hps mb An_11 qn_11 Y1 27 ((l.length:Nat):Int) 0 0   (by simp only[lap,lc1,ln0];omega)) ?_
 rintro _ _ ⟨An_12,qn_12,rfl⟩
 refine Jn (Jt (Jfw [] [0,1,2,4,5,6,7,103,108,9,110,11,512] (ocn _) ?_))
 refine Jz 10 ?_
 refine Fw.r rfl (Rd.ixr (i:=1) (j:=X.length) rfl rfl rfl s35 rfl (at4b hY1)) ?_
 refine Jz 1 ?_
 refine Fw.up rfl rfl rfl (Up.store (i:=1) rfl rfl rfl c3 rfl rfl (rows_takesF (f:=1) (y:=(⟨28,0,0,0⟩:Ins)) (z:=(⟨28,(((Y1++[(⟨27,((l.length:Nat):Int),0,0⟩:Ins)]).length:Nat):Int),0,0⟩:Ins)) encRi (at4b hY1) (by decide) rfl)) (ocn _) ?_
 refine Jz 2 ?_
 refine Jas [box mb (cF F [nv ci,vs Ap ps qp,vs An_12 (Y1++[(⟨27,((l.length:Nat):Int),0,0⟩:Ins)]) qn_12]) 154,rows Ins.rc 54 4 An_12 qn_12 ((Y1++[(⟨27,((l.length:Nat):Int),0,0⟩:Ins)]).set X.length (⟨28,(((Y1++[(⟨27,((l.length:Nat):Int),0,0⟩:Ins)]).length:Nat):Int),0,0⟩:Ins)),all (Fl.kids eR F),ros encZ Ap ps,ros encC F.Ac F.comps,box b3 (encS s) 269,all (St.kids encE encS s)] rfl ?_
 obtain⟨WF,hWF⟩:∃z0,z0=((Y1++[(⟨27,((l.length:Nat):Int),0,0⟩:Ins)]).set X.length (⟨28,(((Y1++[(⟨27,((l.length:Nat):Int),0,0⟩:Ins)]).length:Nat):Int),0,0⟩:Ins)):=⟨_,rfl⟩
 rw[←hWF]
 have hlWF:WF.length=(Y1++[(⟨27,((l.length:Nat):Int),0,0⟩:Ins)]).length:=by rw[hWF];exact List.length_set ..
 (try unfold vs);rw[←hlWF]
 refine Jdel6 (Jdel5 (Jdel4 (Jend0 (.inr rfl) results103 ?_)))
 have hE:WF=l++cS (ccR F.pure c.name c.vars ps) s.pure l.length:=by rw[hfin,tail5 hk];exact fin5 hY1 hWF
 rw[←hE];exact⟨_,_,rfl⟩
 refine Jz 6 ?_
 refine Jcp rfl ?_ ?_<;>intro c148
 have hk:s.kind=6:=om
 have htl:=congrArg List.length (tail6 (c:=(ccR F.pure c.name c.vars ps)) (n:=X.length) (top:=l.length) hk)
 rw[List.length_singleton]at htl
 refine Jz 7 ?_
 refine Jcf [1,2] (target_fn F hB ci c hc Ap qp ps hps mb An_2 qn_2 X s.name s.hand) ?_
 rintro _ _ ⟨rfl,rfl⟩
 refine Jz 14 ?_
 refine Jcf [0,2] (put_fn F hB ci c hc Ap qp ps hps mb An_2 qn_2 X 30 ((tgF s.name s.hand 0 F.pure.comps).1) ((tgF s.name s.hand 0 F.pure.comps).2) ((s.exprs.length:Nat):Int)   (by simp only[lap,lc1,ln0];omega)) ?_
 rintro _ _ ⟨An_13,qn_13,rfl⟩
 refine Jn (Jbn (Jdel6 (Jdel5 (Jdel3 (Jend0 (.inr rfl) results103 ?_)))))
 have hE:X++[(⟨30,(tgF s.name s.hand 0 F.pure.comps).1,(tgF s.name s.hand 0 F.pure.comps).2,((s.exprs.length:Nat):Int)⟩:Ins)]=l++cS (ccR F.pure c.name c.vars ps) s.pure l.length:=by rw[hfin,tail6 hk];rfl
 rw[←hE];exact⟨_,_,rfl⟩
 refine Jz 6 ?_
 refine Jcp rfl ?_ ?_<;>intro c166
 have hk:s.kind=7:=om
 have htl:=congrArg List.length (tail7 (c:=(ccR F.pure c.name c.vars ps)) (n:=X.length) (top:=l.length) hk)
 rw[List.length_singleton]at htl
 refine Jz 6 ?_
 refine Jcf [1,2] (target_fn F hB ci c hc Ap qp ps hps mb An_2 qn_2 X c.name s.hand) ?_
 rintro _ _ ⟨rfl,rfl⟩
 refine Jz 13 ?_
 refine Jr (Rd.sub64 rfl rfl rfl om) ?_
 refine Jcf [0,2] (put_fn F hB ci c hc Ap qp ps hps mb An_2 qn_2 X 31 0 ((tgF c.name s.hand 0 F.pure.comps).2) (((s.exprs.length:Nat):Int)-1)   (by simp only[lap,lc1,ln0];omega)) ?_
 rintro _ _ ⟨An_14,qn_14,rfl⟩
 refine Jn (Jbn (Jdel6 (Jdel5 (Jdel3 (Jend0 (.inr rfl) results103 ?_)))))
 have hE:X++[(⟨31,0,(tgF c.name s.hand 0 F.pure.comps).2,((s.exprs.length:Nat):Int)-1⟩:Ins)]=l++cS (ccR F.pure c.name c.vars ps) s.pure l.length:=by rw[hfin,tail7 hk];rfl
 rw[←hE];exact⟨_,_,rfl⟩
 refine Jz 6 ?_
 refine Jcp rfl ?_ ?_<;>intro c183
 have hk:s.kind=8:=om
 have htl:=congrArg List.length (tail8 (c:=(ccR F.pure c.name c.vars ps)) (n:=X.length) (top:=l.length) hk)
 rw[lc1]at htl
 refine Jz 3 ?_
 refine Jcf [1,1] (put_fn F hB ci c hc Ap qp ps hps mb An_2 qn_2 X 32 0 0 0   (by simp only[lap,lc1,ln0];omega)) ?_
 rintro _ _ ⟨An_15,qn_15,rfl⟩
 refine Jn (Jt (Jpart 6 rfl (lsS s.Ae s.els) (lsS_lax _ _) (St.k_els s) (Jz 5 ?_)))
 refine Jcf [1,1,2,2,0] (fails_fn F hB ci c hc Ap qp ps hps mb s.Ae s.qe s.els ihE X 32 0 An_15 qn_15 (by rw[lap,len1];omega)) ?_
 rintro _ _ ⟨An_16,qn_16,rfl⟩
 refine Jn (Jbn (Jdel6 (Jdel5 (Jdel4 (Jend0 (.inr rfl) results103 ?_)))))
 have hE:(X++[(⟨32,0,((X.length+1+(if(St.pL s.els).isEmpty then 0 else 1):Nat):Int),0⟩:Ins)])++ovr (X.length+1) (cB (ccR F.pure c.name c.vars ps) (St.pL s.els) (X.length+2)) (St.pL s.els).isEmpty=l++cS (ccR F.pure c.name c.vars ps) s.pure l.length:=by rw[hfin,tail8 hk];rw[List.append_assoc];rfl
 rw[←hE];exact⟨_,_,rfl⟩
 refine Jz 6 ?_
 refine Jcp rfl ?_ ?_<;>intro c192
 have hk:s.kind=9:=om
 have htl:=congrArg List.length (tail9 (c:=(ccR F.pure c.name c.vars ps)) (n:=X.length) (top:=l.length) hk)
 rw[lc1]at htl
 refine Jz 6 ?_
 refine Jcf [1,2] (slot_fn F hB ci c hc Ap qp ps hps mb An_2 qn_2 X s.name false) ?_
 rintro _ _ ⟨rfl,rfl⟩
 refine Jcf [0,2] (put_fn F hB ci c hc Ap qp ps hps mb An_2 qn_2 X 33 (slI c.vars s.name false) 0 0   (by simp only[lap,lc1,ln0];omega)) ?_
 rintro _ _ ⟨An_17,qn_17,rfl⟩
 refine Jn (Jt (Jpart 6 rfl (lsS s.Ae s.els) (lsS_lax _ _) (St.k_els s) (Jz 5 ?_)))
 refine Jcf [1,1,1,2,0] (fails_fn F hB ci c hc Ap qp ps hps mb s.Ae s.qe s.els ihE X 33 (slI c.vars s.name false) An_17 qn_17 (by rw[lap,len1];omega)) ?_
 rintro _ _ ⟨An_18,qn_18,rfl⟩
 refine Jn (Jbn (Jdel6 (Jdel5 (Jdel4 (Jend0 (.inr rfl) results103 ?_)))))
 have hE:(X++[(⟨33,(slI c.vars s.name false),((X.length+1+(if(St.pL s.els).isEmpty then 0 else 1):Nat):Int),0⟩:Ins)])++ovr (X.length+1) (cB (ccR F.pure c.name c.vars ps) (St.pL s.els) (X.length+2)) (St.pL s.els).isEmpty=l++cS (ccR F.pure c.name c.vars ps) s.pure l.length:=by rw[hfin,tail9 hk];rw[List.append_assoc];rfl
 rw[←hE];exact⟨_,_,rfl⟩
 refine Jz 6 ?_
 refine Jcp rfl ?_ ?_<;>intro c205
 have hk:s.kind=10:=om
 have htl:=congrArg List.length (tail10 (c:=(ccR F.pure c.name c.vars ps)) (n:=X.length) (top:=l.length) hk)
 rw[List.length_singleton]at htl
 refine Jz 2 ?_
 refine Jcf [1,1] (put_fn F hB ci c hc Ap qp ps hps mb An_2 qn_2 X 34 0 0 0   (by simp only[lap,lc1,ln0];omega)) ?_
 rintro _ _ ⟨An_19,qn_19,rfl⟩
 refine Jn (Jbn (Jdel6 (Jdel5 (Jdel2 (Jend0 (.inr rfl) results103 ?_)))))
 have hE:X++[(⟨34,0,0,0⟩:Ins)]=l++cS (ccR F.pure c.name c.vars ps) s.pure l.length:=by rw[hfin,tail10 hk]
 rw[←hE];exact⟨_,_,rfl⟩
 refine Jz 2 ?_
 refine Jdel6 (Jdel5 (Jdel0 (Jend0 (.inr rfl) results103 ?_)))
 have hk:¬s.kind=1∧¬s.kind=2∧¬s.kind=3∧¬s.kind=4∧¬s.kind=5∧¬s.kind=6∧¬s.kind=7∧¬s.kind=8∧¬s.kind=9∧¬s.kind=10:=om
 have hE:X=l++cS (ccR F.pure c.name c.vars ps) s.pure l.length:=by rw[hfin,tail0 hk];exact(List.append_nil _).symm
 rw[←hE];exact⟨_,_,rfl⟩
theorem rstmt_fn(F:Fl)(hB:BndF F)(ci:Nat)(c:Cm)(hc:F.comps[ci]?=some c)(Ap:OA)(qp:Nat)(ps:List ByteArray)(hps:ps.length≤100)(mb:Nat):∀s:St,∀(A:OA) (q:Nat) (l:List Ins),(l++cS (ccR F.pure c.name c.vars ps) s.pure l.length).length≤1000000→Dz 103 [pv mb, .agg (encS s).toArray] [box mb (cF F [nv ci,vs Ap ps qp,vs A l q]) 154,rows Ins.rc 54 4 A q l,all (Fl.kids eR F),ros encZ Ap ps,all (St.kids encE encS s)] (fun v Γ'=>∃(A':OA) (q':Nat),Γ'=[box mb (cF F [nv ci,vs Ap ps qp,vs A' (l++cS (ccR F.pure c.name c.vars ps) s.pure l.length) q']) 154,rows Ins.rc 54 4 A' q' (l++cS (ccR F.pure c.name c.vars ps) s.pure l.length),all (Fl.kids eR F),ros encZ Ap ps])
 |s,A,q,l,hl=>rstmt_step F hB ci c hc Ap qp ps hps mb s (fun A q l hl=>rbody_step F hB ci c hc Ap qp ps hps mb s.At s.qt s.thn (fun x hx=>rstmt_fn F hB ci c hc Ap qp ps hps mb x) A q l hl) (fun A q l hl=>rbody_step F hB ci c hc Ap qp ps hps mb s.Ae s.qe s.els (fun x hx=>rstmt_fn F hB ci c hc Ap qp ps hps mb x) A q l hl) A q l hl
termination_by s=>SizeOf.sizeOf s
decreasing_by
 all_goals
  cases s with
  | mk k n h A q es At qt t Ae qe e=>
    have:=List.sizeOf_lt_of_mem hx
    dsimp only at this
    simp only[St.mk.sizeOf_spec]
    omega
theorem rbody_fn(F:Fl)(hB:BndF F)(ci:Nat)(c:Cm)(hc:F.comps[ci]?=some c)(Ap:OA)(qp:Nat)(ps:List ByteArray)(hps:ps.length≤100)(mb:Nat)(Ab:OA)(qb:Nat)(bs:List St):∀(A:OA) (q:Nat) (l:List Ins),(l++cB (ccR F.pure c.name c.vars ps) (St.pL bs) l.length).length≤1000000→Dz 44 [pv mb,vs Ab bs qb] [box mb (cF F [nv ci,vs Ap ps qp,vs A l q]) 154,rows Ins.rc 54 4 A q l,all (Fl.kids eR F),ros encZ Ap ps,all (lsS Ab bs)] (fun v Γ'=>∃(A':OA) (q':Nat),Γ'=[box mb (cF F [nv ci,vs Ap ps qp,vs A' (l++cB (ccR F.pure c.name c.vars ps) (St.pL bs) l.length) q']) 154,rows Ins.rc 54 4 A' q' (l++cB (ccR F.pure c.name c.vars ps) (St.pL bs) l.length),all (Fl.kids eR F),ros encZ Ap ps]):=fun A q l hl=>rbody_step F hB ci c hc Ap qp ps hps mb Ab qb bs (fun x hx=>rstmt_fn F hB ci c hc Ap qp ps hps mb x) A q l hl
end Go.Proofs.YtllalpnmagpkfaaGreatDoor
