/- Own text. -/
import Derived.Laws.Strings
import Derived.Test.YtllalpnmagpkfaaGreatDoorBd
set_option linter.unusedVariables false
set_option linter.unusedSimpArgs false
set_option maxHeartbeats 2000000
set_option maxRecDepth 100000
namespace Go.Sep
open Go.RowKit Go.Flow Go.Mem
theorem list_eq_iff(s u:ByteArray):(s.toList==u.toList)=decide (s=u):=by
 rw[ByteArray.toList_eq,ByteArray.toList_eq,Bool.eq_iff_iff,decide_eq_true_eq,beq_iff_eq]
 refine⟨fun h=>?_,fun h=>by rw[h]⟩
 cases s;cases u
 simp only at h
 rw[Array.toList_inj.1 h]
theorem Rd.eqlZ{P:Program}{o:Oper}{ρ:Slots}{Γ:List Chunk}{x y:Operand}{t t':TypeId}{s u:ByteArray}(ho:o.op= .binOp .eql t x y t')(hx:ev ρ x=some (.string s))(hy:ev ρ y=some (.string u)):Rd P o ρ Γ (.bool (decide (s=u))):=Rd.bin ho hx hy fun w=>by
 simp[eqGuard,binOp,Op.equal,Op.stringOp,list_eq_iff]
theorem Rd.neqZ{P:Program}{o:Oper}{ρ:Slots}{Γ:List Chunk}{x y:Operand}{t t':TypeId}{s u:ByteArray}(ho:o.op= .binOp .neq t x y t')(hx:ev ρ x=some (.string s))(hy:ev ρ y=some (.string u)):Rd P o ρ Γ (.bool (decide (s≠u))):=Rd.bin ho hx hy fun w=>by
 simp[eqGuard,binOp,Op.equal,Op.stringOp,list_eq_iff]
end Go.Sep
namespace Go.Proofs.YtllalpnmagpkfaaGreatDoor
open Go.RowKit Go.Flow Go.Mem Go.Sep Go.In
theorem hnAdd_cons(o:List ByteArray)(h:PH)(l:List PH):hnAdd o (h::l)=hnAdd (if h.name∈o then o else o++[h.name]) l:=rfl
theorem mem_take_succ{l:List ByteArray}{i:Nat}{x s:ByteArray}(hx:l[i]?=some x):(decide (s∈l.take i)||decide (x=s))=decide (s∈l.take (i+1)):=by
 rw[take_of_get hx,Bool.eq_iff_iff]
 simp only[Bool.or_eq_true,decide_eq_true_eq,List.mem_append,List.mem_singleton]
 exact⟨fun h=>h.imp id Eq.symm,fun h=>h.imp id Eq.symm⟩
def fndH(s:ByteArray)(o:Option Hd)(l:List Hd):Option Hd:=l.foldl (fun(o:Option Hd) (h:Hd)=>if h.name=s then some h else o) o
def fndV(s:ByteArray)(o:Option Hd)(l:List Vs):Option Hd:=l.foldl (fun(o:Option Hd) (v:Vs)=>fndH s o v.l) o
abbrev Hd0:Hd:=⟨bE,none,0,[],none,0,[]⟩
def hdOr(o:Option Hd):Hd:=o.getD Hd0
theorem fndH_cons(s:ByteArray)(o:Option Hd)(h:Hd)(l:List Hd):fndH s o (h::l)=fndH s (if h.name=s then some h else o) l:=rfl
theorem fndV_cons(s:ByteArray)(o:Option Hd)(h:Vs)(l:List Vs):fndV s o (h::l)=fndV s (fndH s o h.l) l:=rfl
theorem mdg{α β:Type}(f:α→β){l:List α}{k:Nat}{x:α}(hx:l[k]?=some x):(l.drop k).map f=f x::(l.drop (k+1)).map f:=by rw[dog hx];rfl
theorem vs_mem{c:Cm}{v:Vs}{j:Nat}(hv:c.vers[j]?=some v):ros encH v.A v.l∈c.kids eR:=List.mem_cons_of_mem _ (List.mem_cons_of_mem _ (List.mem_flatMap.2 ⟨v,mog hv,List.mem_cons_self ..⟩))
theorem vers_mem(c:Cm):ros encVs c.An c.vers∈c.kids eR:=List.mem_cons_of_mem _ (List.mem_cons_self ..)
theorem handlersN_fn(c:Cm)(hcv:c.vers.length≤1000)(hvs:∀v∈c.vers,v.l.length≤100):
    Does Tryz.prog 28 [.agg (cX c []).toArray] [all (Cm.kids eR c)] (fun v Γ'=>∃(A:OA) (q:Nat),v= .slice A (hnames (c.vers.map Vs.pure)).length q∧Γ'=[rows encZ 9 1 A q (hnames (c.vers.map Vs.pure))]):=by
 refine Does.en Tryz.func28 Tryz.ntmps28 fun w0=>?_
 refine Js (To.g (Jbo fun b1=>?_))
 refine Jz 10 ?_
 refine To.one 1 rfl (ros encVs c.An c.vers) rfl (vers_mem c) (Jz 8 ?_)
 refine JnilRow (encZ) 9 1 (To.loP (fun s g mz ρ Γ=>∃(Ao:OA) (qo:Nat) (O:List ByteArray) (j:Nat),ρ=[s 1,(3,vs Ao O qo),s 12,s 13,(14,nv j)]∧Γ=[g 2,g 3,g 1,rows encZ 9 1 Ao qo O]∧mz=c.vers.length-j∧(j≤c.vers.length)∧(hnames (c.vers.map Vs.pure)=((c.vers.drop j).map Vs.pure).foldl hnAdd O)∧(O.length≤100*j)) ⟨⟨none,0,([]:List ByteArray),0,rfl,rfl,rfl,om,rfl,om⟩,sb⟩ ?_)
 rintro mz _ _ ⟨Ao,qo,O,j,rfl,rfl,rfl,hj,hO,hOl⟩
 refine Jz 6 ?_
 refine Jcp rfl ?_ ?_<;>intro c15
 obtain⟨v,hv⟩:=exg c.vers j om
 refine Jz 19 ?_
 refine To.one 1 rfl (ros encH v.A v.l) rfl (vs_mem hv) (To.loP (fun s g mz ρ Γ=>∃(Ao:OA) (qo:Nat) (O:List ByteArray) (k:Nat),ρ=[s 1,(3,vs Ao O qo),s 12,s 13,s 14,s 18,s 19,(20,nv k)]∧Γ=[g 1,g 2,g 3,g 0,rows encZ 9 1 Ao qo O]∧mz=v.l.length-k∧(k≤v.l.length)∧(hnames (c.vers.map Vs.pure)=((c.vers.drop (j+1)).map Vs.pure).foldl hnAdd (hnAdd O ((v.l.drop k).map Hd.pure)))∧(O.length≤100*j+k)) ⟨⟨Ao,qo,O,0,rfl,rfl,rfl,om,(by rw[hO,mdg _ hv];rfl),om⟩,sb⟩ ?_)
 rintro mz _ _ ⟨Ao,qo,O,k,rfl,rfl,rfl,hk,hO1,hOl1⟩
 have hvl:=hvs v (mog hv)
 refine Jz 6 ?_
 refine Jcp rfl ?_ ?_<;>intro c21
 obtain⟨h,hh⟩:=exg v.l k om
 refine Jz 8 ?_
 refine Jal fun b7=>?_
 refine Jz 17 ?_
 refine To.loP (fun s g mz ρ Γ=>∃(i:Nat),ρ=[s 1,s 3,s 7,(8, .bool (decide (h.name∈O.take i))),s 12,s 13,s 14,s 18,s 19,s 20,s 24,s 25,(26,nv i)]∧Γ=[g 1,g 2,g 3,g 4,g 5,g 0]∧mz=O.length-i∧(i≤O.length)) ⟨⟨0,rfl,rfl,rfl,om⟩,⟨rfl,rfl,rfl,(congrArg (fun b=>some (Value.bool b)) (decide_eq_false (fun h=>by cases h)).symm),rfl,rfl,rfl,rfl,rfl,rfl,rfl,rfl,rfl,trivial⟩⟩ ?_
 rintro mz _ _ ⟨i,rfl,rfl,rfl,hi⟩
 refine Jz 6 ?_
 refine Jcp rfl ?_ ?_<;>intro c27
 obtain⟨x,hx⟩:=exg O i om
 refine Jz 13 ?_
 refine JgP ?_ ?_<;>intro g31
 refine Jz 14 ?_
 refine To.agT ⟨⟨i+1,rfl,rfl,rfl,om⟩,⟨rfl,rfl,rfl,(congrArg (fun b=>some (Value.bool b)) (by rw[←mem_take_succ hx,decide_eq_true g31];rfl)),rfl,rfl,rfl,rfl,rfl,rfl,rfl,rfl,rfl,trivial⟩⟩
 refine Jz 3 ?_
 refine Jr (Rd.eqlZ rfl rfl rfl) ?_
 refine Jz 10 ?_
 refine To.agT ⟨⟨i+1,rfl,rfl,rfl,om⟩,⟨rfl,rfl,rfl,(congrArg (fun b=>some (Value.bool b)) (by rw[←mem_take_succ hx,decide_eq_false g31];rfl)),rfl,rfl,rfl,rfl,rfl,rfl,rfl,rfl,rfl,trivial⟩⟩
 refine Jz 11 ?_
 refine Jcond rfl ?_ ?_<;>intro c39
 have hm:¬(h.pure).name∈O:=by show¬h.name∈O;have:=c39;rw[List.take_of_length_le om]at this;simpa using this
 refine Jz 4 ?_
 refine To.sn [.string h.name] fun b43=>?_
 refine Jge rfl rfl rfl (Ge.append1 encZ_ok (i:=5) (j:=0) (el:=h.name) rfl s74 rfl rfl rfl rfl rfl om om) ?_
 rintro _ _ ⟨A44,q44,rfl,rfl⟩
 refine Jz 9 ?_
 refine To.agP ⟨⟨A44,q44,(O++[h.name]),k+1,rfl,rfl,rfl,om,(by rw[hO1,mdg _ hh,hnAdd_cons,if_neg hm];rfl),(by rw[lap];show O.length+1≤_;omega)⟩,sb⟩
 have hm:(h.pure).name∈O:=by show h.name∈O;have:=c39;rw[List.take_of_length_le om]at this;simpa using this
 refine Jz 8 ?_
 refine To.agP ⟨⟨Ao,qo,O,k+1,rfl,rfl,rfl,om,(by rw[hO1,mdg _ hh,hnAdd_cons,if_pos hm]),om⟩,sb⟩
 refine Jz 11 ?_
 refine To.agP ⟨⟨Ao,qo,O,j+1,rfl,rfl,rfl,om,(by rw[hO1,List.drop_eq_nil_of_le om];rfl),om⟩,sb⟩
 refine Jz 12 ?_
 refine Jdel2 (Jdel1 (Jdel0 (Je1 Tryz.results28 ?_)))
 exact⟨Ao,qo,by rw[hO,List.drop_eq_nil_of_le om];rfl,by rw[hO,List.drop_eq_nil_of_le om];rfl⟩
theorem find_fn(c:Cm)(hcv:c.vers.length≤1000)(hvs:∀v∈c.vers,v.l.length≤100)(vn:Nat)(s:ByteArray):
    Does Tryz.prog 43 [.agg (cX c []).toArray,nv vn, .string s] [all (Cm.kids eR c)] (fun v Γ'=>v= .tuple #[.agg (encH (hdOr (fndV s none (c.vers.take vn)))).toArray, .bool (fndV s none (c.vers.take vn)).isSome]∧Γ'=[]):=by
 refine Does.en Tryz.func43 Tryz.ntmps43 fun w0=>?_
 refine Js (To.g (Jbo fun b3=>?_))
 refine Jal fun b6=>?_
 refine Jz 5 ?_
 refine Jal fun b8=>?_
 refine Jz 14 ?_
 refine To.one 3 rfl (ros encVs c.An c.vers) rfl (vers_mem c) (To.loP (fun u g mz ρ Γ=>∃(o:Option Hd) (j:Nat),ρ=[u 1,u 2,u 3,u 6,u 8,(9, .bool o.isSome),(10,nv j)]∧Γ=[g 3,g 2,g 4,g 0,box b8 [.string ((hdOr o).name), .slice ((hdOr o).Ap) ((hdOr o).ps.length) ((hdOr o).qp), .slice ((hdOr o).Ab) ((hdOr o).body.length) ((hdOr o).qb)] 149]∧mz=c.vers.length-j∧(j≤c.vers.length)∧(fndV s none (c.vers.take vn)=fndV s o ((c.vers.take vn).drop j))) ⟨⟨(none:Option Hd),0,rfl,rfl,rfl,om,rfl⟩,sb⟩ ?_)
 rintro mz _ _ ⟨o,j,rfl,rfl,rfl,hj,ho⟩
 refine Jz 3 ?_
 refine To.mt [1,2,3,6,8,9,10] 22 ((decide (((j:Nat):Int)<((vn:Nat):Int)))&&decide (((j:Nat):Int)<((c.vers.length:Nat):Int))) ?_ ?_
 refine Jz 3 ?_
 refine JgP ?_ ?_<;>intro g16
 refine Jz 8 ?_
 refine To.mh rfl (gg g16)
 refine Jz 8 ?_
 refine To.mh rfl (gg g16)
 refine Jcond rfl ?_ ?_<;>intro c22
 simp only[Bool.and_eq_true,decide_eq_true_eq]at c22
 obtain⟨c22,c22b⟩:=c22
 obtain⟨v,hv⟩:=exg c.vers j om
 have hvt:(c.vers.take vn)[j]?=some v:=by rw[List.getElem?_take,if_pos om];exact hv
 refine Jz 16 ?_
 refine To.one 2 rfl (ros encH v.A v.l) rfl (vs_mem hv) (To.loP (fun u g mz ρ Γ=>∃(o:Option Hd) (k:Nat),ρ=[u 1,u 2,u 3,u 6,u 8,(9, .bool o.isSome),u 10,u 29,u 30,(31,nv k)]∧Γ=[g 1,g 2,g 3,g 4,g 0,box b8 [.string ((hdOr o).name), .slice ((hdOr o).Ap) ((hdOr o).ps.length) ((hdOr o).qp), .slice ((hdOr o).Ab) ((hdOr o).body.length) ((hdOr o).qb)] 149]∧mz=v.l.length-k∧(k≤v.l.length)∧(fndV s none (c.vers.take vn)=fndV s (fndH s o (v.l.drop k)) ((c.vers.take vn).drop (j+1)))) ⟨⟨o,0,rfl,rfl,rfl,om,(by rw[ho,dog hvt];rfl)⟩,sb⟩ ?_)
 rintro mz _ _ ⟨o,k,rfl,rfl,rfl,hk,ho1⟩
 have hvl:=hvs v (mog hv)
 refine Jz 6 ?_
 refine Jcp rfl ?_ ?_<;>intro c32
 obtain⟨h,hh⟩:=exg v.l k om
 refine Jz 8 ?_
 refine Jal fun b12=>?_
 refine Jz 8 ?_
 refine Jr (Rd.eqlZ rfl rfl rfl) ?_
 refine Jn (Jt (Jcp rfl (fun c38=>?_) (fun c38=>?_)))
 refine Jz 12 ?_
 refine To.agP ⟨⟨(some h),k+1,rfl,rfl,rfl,om,(by rw[ho1,dog hh,fndH_cons,if_pos c38])⟩,sb⟩
 refine Jz 8 ?_
 refine To.agP ⟨⟨o,k+1,rfl,rfl,rfl,om,(by rw[ho1,dog hh,fndH_cons,if_neg c38])⟩,sb⟩
 refine Jz 12 ?_
 refine To.agP ⟨⟨o,j+1,rfl,rfl,rfl,om,(by rw[ho1,List.drop_eq_nil_of_le om];rfl)⟩,sb⟩
 have hdr:(c.vers.take vn).drop j=[]:=by
  refine List.drop_eq_nil_of_le ?_
  rw[List.length_take]
  simp only[Bool.and_eq_false_iff,decide_eq_false_iff_not]at c22;omega
 refine Jz 14 ?_
 refine JendCT [] rfl (.inl rfl) Tryz.results43 rfl (i:=1) rfl r149 rfl rfl ?_
 have he:fndV s none (c.vers.take vn)=o:=by rw[ho,hdr];rfl
 rw[he]
 exact⟨rfl,rfl⟩
end Go.Proofs.YtllalpnmagpkfaaGreatDoor
namespace Go.Sep
open Go.RowKit Go.Flow Go.Mem
section
variable{α:Type}{enc:α→List Value}{size:Nat}
theorem over_fld(E:Enc enc size){f:Nat}{u:Value}(hf:f<size){z:α}:∀(X:List α) (i:Nat) (y:α),X[i]?=some y→over (enc y) f [u]=enc z→over (X.flatMap enc) (i*size+f) [u]=(X.set i z).flatMap enc
 |[],i,y,h,_=>by simp at h
 | x::X,0,y,h,hz=>by
   obtain rfl:x=y:=by simpa using h
   unfold over at hz⊢
   rw[Nat.zero_mul,Nat.zero_add,List.flatMap_cons,List.set_cons_zero,List.flatMap_cons,←hz,List.take_append_of_le_length (by rw[E.len];omega),List.drop_append_of_le_length (by rw[E.len];show f+1≤size;omega)]
   simp
 | x::X,i+1,y,h,hz=>by
   have ih:=over_fld E hf X i y (by simpa using h) hz
   unfold over at ih⊢
   have e1:(i+1)*size+f=size+(i*size+f):=by rw[Nat.add_mul];omega
   rw[List.set_cons_succ,List.flatMap_cons,List.flatMap_cons,e1,←ih]
   rw[List.take_append,List.drop_append,List.take_of_length_le (by rw[E.len];omega),List.drop_of_length_le (by rw[E.len];omega),E.len,show size+(i*size+f)-size=i*size+f by omega,show size+(i*size+f)+[u].length-size=i*size+f+[u].length by omega]
   simp
theorem rows_takesF(E:Enc enc size){e:TypeId}{A:OA}{cap i f:Nat}{X:List α}{y z:α}{u:Value}(hi:X[i]?=some y)(hf:f<size)(hz:over (enc y) f [u]=enc z):(rows enc e size A cap X).takes (blk A) (ofs A+i*size+f) [u] (rows enc e size A cap (X.set i z)):=by
 have hl:i<X.length:=(List.getElem?_eq_some_iff.1 hi).1
 have h:=row_takes (e:=e) (size:=size) (A:=A) (n:=X.length) (cap:=cap) (off:=i*size+f) (xs:=X.flatMap enc) (us:=[u]) (by
  have:(i+1)*size≤X.length*size:=Nat.mul_le_mul_right _ hl
  rw[Nat.add_mul]at this;show i*size+f+1≤_;omega) (by simp) (over_fld E hf X i y hi hz)
 have e1:rows enc e size A cap (X.set i z)=row e size A X.length cap ((X.set i z).flatMap enc):=by simp[rows]
 rw[e1,Nat.add_assoc];exact h
theorem get_mid'{α:Type}(X Y:List α)(a:α):((X++[a])++Y)[X.length]?=some a:=by
 rw[List.append_assoc,List.getElem?_append_right (Nat.le_refl _)];simp
theorem set_mid'{α:Type}(X Y:List α)(a b:α):((X++[a])++Y).set X.length b=(X++[b])++Y:=by
 rw[List.append_assoc,List.append_assoc,List.set_append_right _ _ (Nat.le_refl _),Nat.sub_self];rfl
end
end Go.Sep
namespace Go.Proofs.YtllalpnmagpkfaaGreatDoor
open Go.RowKit Go.Flow Go.Mem Go.Sep Go.In
structure BndF(F:Fl):Prop where
 flags:F.flags.length≤100
 comps:F.comps.length≤100
 each:∀c∈F.comps,c.vars.length≤1000∧c.vers.length≤1000∧∀v∈c.vers,v.l.length≤100
theorem fl_comps(F:Fl):ros encC F.Ac F.comps∈F.kids eR:=List.mem_cons_of_mem _ (List.mem_cons_of_mem _ (List.mem_cons_self ..))
theorem fl_flags(F:Fl):ros encFg F.Af F.flags∈F.kids eR:=List.mem_cons_self ..
theorem fl_cm{F:Fl}{i:Nat}{c:Cm}(hc:F.comps[i]?=some c){x:Chunk}(h:x∈c.kids eR):x∈F.kids eR:=List.mem_cons_of_mem _ (List.mem_cons_of_mem _ (List.mem_cons_of_mem _ (List.mem_flatMap.2 ⟨c,mog hc,h⟩)))
theorem cm_vars(c:Cm):ros encVr c.Av c.vars∈c.kids eR:=List.mem_cons_self ..
theorem slF_cons(s:ByteArray)(tab:Bool)(k:Nat)(v:Vr)(r:List Vr):slF s tab k (v::r)=if decide (v.ty=3)≠tab then slF s tab k r else if v.name=s then some k else slF s tab (k+1) r:=rfl
theorem ixF_cons(s:ByteArray)(k:Nat)(x:ByteArray)(r:List ByteArray):ixF s k (x::r)=if x=s then some k else ixF s (k+1) r:=rfl
theorem eqI3(n:Nat):decide (((n:Nat):Int)=3)=decide (n=3):=by rw[Bool.eq_iff_iff,decide_eq_true_eq,decide_eq_true_eq];omega
theorem put_fn(F:Fl)(hB:BndF F)(ci:Nat)(c:Cm)(hc:F.comps[ci]?=some c)(Ap:OA)(qp:Nat)(ps:List ByteArray)(hps:ps.length≤100)(mb:Nat)(A:OA)(q:Nat)(l:List Ins)(op:Nat)(x y n:Int)(hl:(l++[(⟨op,x,y,n⟩:Ins)]).length≤1000000):
    Does Tryz.prog 165 [pv mb,nv op, .int .i64 x, .int .i64 y, .int .i64 n] [box mb (cF F [nv ci,vs Ap ps qp,vs A l q]) 154,rows Ins.rc 54 4 A q l] (fun v Γ'=>∃(A':OA) (q':Nat),Γ'=[box mb (cF F [nv ci,vs Ap ps qp,vs A' (l++[(⟨op,x,y,n⟩:Ins)]) q']) 154,rows Ins.rc 54 4 A' q' (l++[(⟨op,x,y,n⟩:Ins)])]):=by
 rw[lap]at hl
 have hl2:l.length+1≤1000000:=hl
 refine Does.en Tryz.func165 Tryz.ntmps165 fun w0=>?_
 refine Jz 10 ?_
 refine Jr (.bd [nv op, .int .i64 x, .int .i64 y, .int .i64 n]) ?_
 refine To.sn [nv op, .int .i64 x, .int .i64 y, .int .i64 n] fun b20=>?_
 refine Jge rfl rfl rfl (Ge.append1 encRi (i:=2) (j:=0) (el:=(⟨op,x,y,n⟩:Ins)) rfl s35 rfl rfl rfl rfl rfl om om) ?_
 rintro _ _ ⟨A21,q21,rfl,rfl⟩
 refine Jz 4 ?_
 refine Jonly [1,1] rfl (Jend0 (.inr rfl) Tryz.results165 ?_)
 exact⟨_,_,rfl⟩
theorem slot_fn(F:Fl)(hB:BndF F)(ci:Nat)(c:Cm)(hc:F.comps[ci]?=some c)(Ap:OA)(qp:Nat)(ps:List ByteArray)(hps:ps.length≤100)(mb:Nat)(A:OA)(q:Nat)(l:List Ins)(s:ByteArray)(tab:Bool):
    Does Tryz.prog 167 [pv mb, .string s, .bool tab] [box mb (cF F [nv ci,vs Ap ps qp,vs A l q]) 154,all (Fl.kids eR F)] (fun v Γ'=>v= .int .i64 (slI c.vars s tab)∧Γ'=[box mb (cF F [nv ci,vs Ap ps qp,vs A l q]) 154,all (Fl.kids eR F)]):=by
 have hci:ci<F.comps.length:=(List.getElem?_eq_some_iff.1 hc).1
 have hcm:=hB.comps
 have hbig:=(hB.each c (mog hc)).1
 refine Does.en Tryz.func167 Tryz.ntmps167 fun w0=>?_
 refine Jz 12 ?_
 refine To.one 1 rfl (ros encVr c.Av c.vars) rfl (fl_cm hc (cm_vars c)) (To.one 2 rfl (ros encC F.Ac F.comps) rfl (fl_comps F) (Jfw [] [0,1,2,3,5,6,7,13,104,108,109,10,111,12] (ocn _) ?_))
 refine Jz 17 ?_
 refine To.loP (fun u g mz ρ Γ=>∃(j:Nat) (k:Nat),ρ=[u 0,u 1,u 2,(7,nv k),u 21,u 22,(23,nv j)]∧Γ=[g 2,g 3,g 1]∧mz=c.vars.length-j∧(j≤c.vars.length)∧(k≤j)∧(slF s tab 0 c.vars=slF s tab k (c.vars.drop j))) ⟨⟨0,0,rfl,rfl,rfl,om,(Nat.le_refl _),rfl⟩,sb⟩ ?_
 rintro mz _ _ ⟨j,k,rfl,rfl,rfl,hj,hkj,hS⟩
 refine Jz 6 ?_
 refine Jcp rfl ?_ ?_<;>intro c24
 obtain⟨v,hv⟩:=exg c.vars j om
 refine Jz 8 ?_
 refine Jal fun b9=>?_
 refine Jz 10 ?_
 refine Jr (Rd.neqB rfl Tryz.underlying4 rfl rfl) ?_
 refine Jn (Jt (Jcond rfl (fun c31=>?_) (fun c31=>?_)))
 rw[eqI3]at c31
 have h31:decide (v.ty=3)≠tab:=by simpa using c31
 refine Jz 9 ?_
 refine To.agP ⟨⟨j+1,k,rfl,rfl,rfl,om,om,(by rw[hS,dog hv,slF_cons,if_pos h31])⟩,sb⟩
 rw[eqI3]at c31
 have h31:¬decide (v.ty=3)≠tab:=by simpa using c31
 refine Jz 8 ?_
 refine Jr (Rd.eqlZ rfl rfl rfl) ?_
 refine Jn (Jt (Jcp rfl (fun c35=>?_) (fun c35=>?_)))
 refine Jz 13 ?_
 refine Jdel3 (Jdel0 (Je1 Tryz.results167 ?_))
 have hr:slI c.vars s tab=((k:Nat):Int):=by unfold slI;rw[hS,dog hv,slF_cons,if_neg h31,if_pos c35];rfl
 rw[hr];exact⟨rfl,rfl⟩
 refine Jz 14 ?_
 refine To.agP ⟨⟨j+1,k+1,rfl,rfl,rfl,om,om,(by rw[hS,dog hv,slF_cons,if_neg h31,if_neg c35])⟩,sb⟩
 refine Jz 11 ?_
 refine Jdel2 (Je1 Tryz.results167 ?_)
 have hr:slI c.vars s tab=-1:=by unfold slI;rw[hS,List.drop_eq_nil_of_le om];rfl
 rw[hr];exact⟨rfl,rfl⟩
theorem name_fn(F:Fl)(hB:BndF F)(ci:Nat)(c:Cm)(hc:F.comps[ci]?=some c)(Ap:OA)(qp:Nat)(ps:List ByteArray)(hps:ps.length≤100)(mb:Nat)(A:OA)(q:Nat)(l:List Ins)(s:ByteArray)(hl:(l++[(ccR F.pure c.name c.vars ps).pn s]).length≤1000000):
    Does Tryz.prog 230 [pv mb, .string s] [box mb (cF F [nv ci,vs Ap ps qp,vs A l q]) 154,rows Ins.rc 54 4 A q l,all (Fl.kids eR F),ros encZ Ap ps] (fun v Γ'=>∃(A':OA) (q':Nat),Γ'=[box mb (cF F [nv ci,vs Ap ps qp,vs A' (l++[(ccR F.pure c.name c.vars ps).pn s]) q']) 154,rows Ins.rc 54 4 A' q' (l++[(ccR F.pure c.name c.vars ps).pn s]),all (Fl.kids eR F),ros encZ Ap ps]):=by
 rw[lap]at hl
 have hl2:l.length+1≤1000000:=hl
 have hfl:=hB.flags
 refine Does.en Tryz.func230 Tryz.ntmps230 fun w0=>?_
 refine Jz 12 ?_
 refine To.loG (fun u g mz ρ Γ=>∃(j:Nat),ρ=[u 0,u 1,u 11,u 12,(13,nv j)]∧Γ=[g 0,g 1,g 2,g 3]∧mz=ps.length-j∧(j≤ps.length)∧(ixF s 0 ps=ixF s j (ps.drop j))) ⟨⟨0,rfl,rfl,rfl,om,rfl⟩,sb⟩ ?_
 rintro mz _ _ ⟨j,rfl,rfl,rfl,hj,hS⟩
 refine Jz 6 ?_
 refine Jcp rfl ?_ ?_<;>intro c14
 obtain⟨x,hx⟩:=exg ps j om
 refine Jz 17 ?_
 refine Jr (Rd.eqlZ rfl rfl rfl) ?_
 refine Jn (Jt (Jcp rfl (fun c20=>?_) (fun c20=>?_)))
 refine Jz 4 ?_
 refine Jcf [0,0] (put_fn F hB ci c hc Ap qp ps hps mb A q l 3 ((j:Nat):Int) 0 0   (by simp only[lap,lc1,ln0];omega)) ?_
 rintro _ _ ⟨An,qn,rfl⟩
 refine Jz 8 ?_
 refine Jend0 (.inl rfl) Tryz.results230 ?_
 have hp:(ccR F.pure c.name c.vars ps).pn s=⟨3,((j:Nat):Int),0,0⟩:=by
  have h0:ixF s 0 ps=some j:=by rw[hS,dog hx,ixF_cons,if_pos c20]
  show(match ixF s 0 ps with|some k=>_|none=>_)=_
  rw[h0]
 rw[hp];exact⟨_,_,rfl⟩
 refine Jz 8 ?_
 refine To.agT ⟨⟨j+1,rfl,rfl,rfl,om,(by rw[hS,dog hx,ixF_cons,if_neg c20])⟩,sb⟩
 refine Jz 7 ?_
 refine To.one 2 rfl (ros encFg F.Af F.flags) rfl (fl_flags F) (Jz 11 ?_)
 have hn0:ixF s 0 ps=none:=by rw[hS,List.drop_eq_nil_of_le om];rfl
 refine To.loP (fun u g mz ρ Γ=>∃(j:Nat),ρ=[u 0,u 1,u 29,u 30,(31,nv j)]∧Γ=[g 1,g 2,g 3,g 4,g 0]∧mz=F.flags.length-j∧(j≤F.flags.length)∧(ixF s 0 (F.flags.map Fg.name)=ixF s j ((F.flags.drop j).map Fg.name))) ⟨⟨0,rfl,rfl,rfl,om,rfl⟩,sb⟩ ?_
 rintro mz _ _ ⟨j,rfl,rfl,rfl,hj,hT⟩
 refine Jz 6 ?_
 refine Jcp rfl ?_ ?_<;>intro c32
 obtain⟨x,hx⟩:=exg F.flags j om
 refine Jz 9 ?_
 refine Jal fun b7=>?_
 refine Jz 9 ?_
 refine Jr (Rd.eqlZ rfl rfl rfl) ?_
 refine Jn (Jt (Jcp rfl (fun c39=>?_) (fun c39=>?_)))
 refine Jz 4 ?_
 refine Jcf [1,1] (put_fn F hB ci c hc Ap qp ps hps mb A q l 4 ((j:Nat):Int) 0 0   (by simp only[lap,lc1,ln0];omega)) ?_
 rintro _ _ ⟨An_2,qn_2,rfl⟩
 refine Jz 8 ?_
 refine Jdel5 (Jdel2 (Jend0 (.inl rfl) Tryz.results230 ?_))
 have hp:(ccR F.pure c.name c.vars ps).pn s=⟨4,((j:Nat):Int),0,0⟩:=by
  have h1:ixF s 0 (F.pure.flags.map Fg.name)=some j:=by show ixF s 0 (F.flags.map Fg.name)=_;rw[hT,mdg Fg.name hx,ixF_cons,if_pos c39]
  show(match ixF s 0 ps with|some k=>_|none=>match ixF s 0 (F.pure.flags.map Fg.name)with|some k=>_|none=>_)=_
  rw[hn0,h1]
 rw[hp];exact⟨_,_,rfl⟩
 refine Jz 8 ?_
 refine To.agP ⟨⟨j+1,rfl,rfl,rfl,om,(by rw[hT,mdg Fg.name hx,ixF_cons,if_neg c39])⟩,sb⟩
 refine Jz 9 ?_
 refine Jcf [0,1] (slot_fn F hB ci c hc Ap qp ps hps mb A q l s false) ?_
 rintro _ _ ⟨rfl,rfl⟩
 refine Jcf [0,1] (put_fn F hB ci c hc Ap qp ps hps mb A q l 2 (slI c.vars s false) 0 0   (by simp only[lap,lc1,ln0];omega)) ?_
 rintro _ _ ⟨An_3,qn_3,rfl⟩
 refine Jn (Jdel4 (Jend0 (.inr rfl) Tryz.results230 ?_))
 have hp:(ccR F.pure c.name c.vars ps).pn s=⟨2,slI c.vars s false,0,0⟩:=by
  have h1:ixF s 0 (F.pure.flags.map Fg.name)=none:=by show ixF s 0 (F.flags.map Fg.name)=_;rw[hT,List.drop_eq_nil_of_le om];rfl
  show(match ixF s 0 ps with|some k=>_|none=>match ixF s 0 (F.pure.flags.map Fg.name)with|some k=>_|none=>_)=_
  rw[hn0,h1]
 rw[hp];exact⟨_,_,rfl⟩
end Go.Proofs.YtllalpnmagpkfaaGreatDoor
