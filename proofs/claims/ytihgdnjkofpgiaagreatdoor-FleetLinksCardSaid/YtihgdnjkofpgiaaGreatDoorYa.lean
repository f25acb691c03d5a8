/- Own text. -/
import Derived.Shelf.LaysM
import Derived.Shelf.Strconv.Itoa3
import Derived.Shelf.Strconv.Itoa4
import Derived.Test.YtihgdnjkofpgiaaGreatDoorAc
import Derived.KernelRfl
import Derived.Test.YtihgdnjkofpgiaaGreatDoorCa
set_option linter.unusedVariables false
set_option linter.unusedSimpArgs false
namespace Go.Proofs
open Go.Shelf
def Tryz.laysM171_ren:Go.Shelf.Ren:=⟨fun|171=>54|243=>98|246=>100|283=>138|284=>139|285=>140|286=>141|129=>152|317=>187|318=>188|319=>189|320=>190|337=>227|338=>228|n=>n,fun|3=>3|9=>9|2=>2|4=>4|171=>267|0=>0|53=>268|37=>22|5=>5|173=>271|212=>323|51=>282|20=>20|213=>324|46=>215|232=>95|233=>295|n=>n,fun|17=>1|18=>8|19=>9|n=>n⟩
theorem Tryz.laysM171:Go.Proofs.LaysM.n171 Tryz.prog Tryz.laysM171_ren:={
 mixed:=by kernel_rfl
 f129:=Tryz.func152.trans (congrArg some (by kernel_rfl))
 f171:=Tryz.func54.trans (congrArg some (by kernel_rfl))
 f243:=Tryz.func98.trans (congrArg some (by kernel_rfl))
 f246:=Tryz.func100.trans (congrArg some (by kernel_rfl))
 f283:=Tryz.func138.trans (congrArg some (by kernel_rfl))
 f284:=Tryz.func139.trans (congrArg some (by kernel_rfl))
 f285:=Tryz.func140.trans (congrArg some (by kernel_rfl))
 f286:=Tryz.func141.trans (congrArg some (by kernel_rfl))
 f317:=Tryz.func187.trans (congrArg some (by kernel_rfl))
 f318:=Tryz.func188.trans (congrArg some (by kernel_rfl))
 f319:=Tryz.func189.trans (congrArg some (by kernel_rfl))
 f320:=Tryz.func190.trans (congrArg some (by kernel_rfl))
 f337:=Tryz.func227.trans (congrArg some (by kernel_rfl))
 f338:=Tryz.func228.trans (congrArg some (by kernel_rfl))
 t0:=Tryz.underlying0
 a0:=Tryz.isAgg0
 z0:=Tryz.sizeOf0
 v0:=Tryz.zeroValue0
 t2:=Tryz.underlying2
 a2:=Tryz.isAgg2
 z2:=Tryz.sizeOf2
 v2:=Tryz.zeroValue2
 t3:=Tryz.underlying3
 a3:=Tryz.isAgg3
 z3:=Tryz.sizeOf3
 v3:=Tryz.zeroValue3
 t4:=Tryz.underlying4
 a4:=Tryz.isAgg4
 z4:=Tryz.sizeOf4
 v4:=Tryz.zeroValue4
 t5:=Tryz.underlying5
 a5:=Tryz.isAgg5
 z5:=Tryz.sizeOf5
 v5:=Tryz.zeroValue5
 t9:=Tryz.underlying9
 a9:=Tryz.isAgg9
 z9:=Tryz.sizeOf9
 v9:=Tryz.zeroValue9
 t20:=Tryz.underlying20
 a20:=Tryz.isAgg20
 z20:=Tryz.sizeOf20
 v20:=Tryz.zeroValue20
 t37:=Tryz.underlying22
 a37:=Tryz.isAgg22
 z37:=Tryz.sizeOf22
 v37:=Tryz.zeroValue22
 t46:=Tryz.underlying215
 a46:=Tryz.isAgg215
 z46:=Tryz.sizeOf215
 v46:=Tryz.zeroValue215
 t51:=Tryz.underlying282
 a51:=Tryz.isAgg282
 z51:=Tryz.sizeOf282
 v51:=Tryz.zeroValue282
 t53:=Tryz.underlying268
 a53:=Tryz.isAgg268
 z53:=Tryz.sizeOf268
 v53:=Tryz.zeroValue268
 t171:=Tryz.underlying267
 a171:=Tryz.isAgg267
 z171:=Tryz.sizeOf267
 v171:=Tryz.zeroValue267
 t173:=Tryz.underlying271
 a173:=Tryz.isAgg271
 z173:=Tryz.sizeOf271
 v173:=Tryz.zeroValue271
 t212:=Tryz.underlying323
 a212:=Tryz.isAgg323
 z212:=Tryz.sizeOf323
 v212:=Tryz.zeroValue323
 t213:=Tryz.underlying324
 a213:=Tryz.isAgg324
 z213:=Tryz.sizeOf324
 t232:=Tryz.underlying95
 a232:=Tryz.isAgg95
 z232:=Tryz.sizeOf95
 v232:=Tryz.zeroValue95
 t233:=Tryz.underlying295
 a233:=Tryz.isAgg295
 z233:=Tryz.sizeOf295
 v233:=Tryz.zeroValue295
 g17:=by kernel_rfl
 g18:=by kernel_rfl
 g19:=by kernel_rfl
 i0:=by kernel_rfl
 i2:=by kernel_rfl
 i3:=by kernel_rfl
 i4:=by kernel_rfl
 i5:=by kernel_rfl
 i9:=by kernel_rfl
 i20:=by kernel_rfl
 i37:=by kernel_rfl
 i46:=by kernel_rfl
 i51:=by kernel_rfl
 i53:=by kernel_rfl
 i171:=by kernel_rfl
 i173:=by kernel_rfl
 i212:=by kernel_rfl
 i232:=by kernel_rfl
 i233:=by kernel_rfl
 m17:=by kernel_rfl
 m18:=by kernel_rfl
 m19:=by kernel_rfl}
open Go.RowKit Go.Sort Go.Lib in
theorem Tryz.strconv_Itoa(n:Int)(h0:-9223372036854775808≤n)(h1:n≤9223372036854775807)(w:World)(htab:Lib.TabIs Tryz.prog w "internal/strconv.uint64pow10" .u64 Lib.pow10Tab):
    Calls Tryz.prog 54 #[.int .i64 n] w fun e w'=>e= .returned (.string ⟨(Lib.itoa n).toArray⟩)∧∃k os,w'=grow (w.drewN k) os:=Any.strconv_Itoa Tryz.laysM171 n h0 h1 w htab
def Tryz.laysM173_ren:Go.Shelf.Ren:=⟨fun|173=>57|246=>100|283=>138|284=>139|285=>140|286=>141|129=>152|317=>187|318=>188|319=>189|320=>190|337=>227|338=>228|n=>n,fun|2=>2|3=>3|9=>9|4=>4|171=>267|0=>0|53=>268|37=>22|5=>5|173=>271|212=>323|51=>282|20=>20|213=>324|46=>215|232=>95|233=>295|n=>n,fun|17=>1|18=>8|19=>9|n=>n⟩
theorem Tryz.laysM173:Go.Proofs.LaysM.n173 Tryz.prog Tryz.laysM173_ren:={
 mixed:=by kernel_rfl
 f129:=Tryz.func152.trans (congrArg some (by kernel_rfl))
 f173:=Tryz.func57.trans (congrArg some (by kernel_rfl))
 f246:=Tryz.func100.trans (congrArg some (by kernel_rfl))
 f283:=Tryz.func138.trans (congrArg some (by kernel_rfl))
 f284:=Tryz.func139.trans (congrArg some (by kernel_rfl))
 f285:=Tryz.func140.trans (congrArg some (by kernel_rfl))
 f286:=Tryz.func141.trans (congrArg some (by kernel_rfl))
 f317:=Tryz.func187.trans (congrArg some (by kernel_rfl))
 f318:=Tryz.func188.trans (congrArg some (by kernel_rfl))
 f319:=Tryz.func189.trans (congrArg some (by kernel_rfl))
 f320:=Tryz.func190.trans (congrArg some (by kernel_rfl))
 f337:=Tryz.func227.trans (congrArg some (by kernel_rfl))
 f338:=Tryz.func228.trans (congrArg some (by kernel_rfl))
 t0:=Tryz.underlying0
 a0:=Tryz.isAgg0
 z0:=Tryz.sizeOf0
 v0:=Tryz.zeroValue0
 t2:=Tryz.underlying2
 a2:=Tryz.isAgg2
 z2:=Tryz.sizeOf2
 v2:=Tryz.zeroValue2
 t3:=Tryz.underlying3
 a3:=Tryz.isAgg3
 z3:=Tryz.sizeOf3
 v3:=Tryz.zeroValue3
 t4:=Tryz.underlying4
 a4:=Tryz.isAgg4
 z4:=Tryz.sizeOf4
 v4:=Tryz.zeroValue4
 t5:=Tryz.underlying5
 a5:=Tryz.isAgg5
 z5:=Tryz.sizeOf5
 v5:=Tryz.zeroValue5
 t9:=Tryz.underlying9
 a9:=Tryz.isAgg9
 z9:=Tryz.sizeOf9
 v9:=Tryz.zeroValue9
 t20:=Tryz.underlying20
 a20:=Tryz.isAgg20
 z20:=Tryz.sizeOf20
 v20:=Tryz.zeroValue20
 t37:=Tryz.underlying22
 a37:=Tryz.isAgg22
 z37:=Tryz.sizeOf22
 v37:=Tryz.zeroValue22
 t46:=Tryz.underlying215
 a46:=Tryz.isAgg215
 z46:=Tryz.sizeOf215
 v46:=Tryz.zeroValue215
 t51:=Tryz.underlying282
 a51:=Tryz.isAgg282
 z51:=Tryz.sizeOf282
 v51:=Tryz.zeroValue282
 t53:=Tryz.underlying268
 a53:=Tryz.isAgg268
 z53:=Tryz.sizeOf268
 v53:=Tryz.zeroValue268
 t171:=Tryz.underlying267
 a171:=Tryz.isAgg267
 z171:=Tryz.sizeOf267
 v171:=Tryz.zeroValue267
 t173:=Tryz.underlying271
 a173:=Tryz.isAgg271
 z173:=Tryz.sizeOf271
 v173:=Tryz.zeroValue271
 t212:=Tryz.underlying323
 a212:=Tryz.isAgg323
 z212:=Tryz.sizeOf323
 v212:=Tryz.zeroValue323
 t213:=Tryz.underlying324
 a213:=Tryz.isAgg324
 z213:=Tryz.sizeOf324
 t232:=Tryz.underlying95
 a232:=Tryz.isAgg95
 z232:=Tryz.sizeOf95
 v232:=Tryz.zeroValue95
 t233:=Tryz.underlying295
 a233:=Tryz.isAgg295
 z233:=Tryz.sizeOf295
 v233:=Tryz.zeroValue295
 g17:=by kernel_rfl
 g18:=by kernel_rfl
 g19:=by kernel_rfl
 i0:=by kernel_rfl
 i2:=by kernel_rfl
 i3:=by kernel_rfl
 i4:=by kernel_rfl
 i5:=by kernel_rfl
 i9:=by kernel_rfl
 i20:=by kernel_rfl
 i37:=by kernel_rfl
 i46:=by kernel_rfl
 i51:=by kernel_rfl
 i53:=by kernel_rfl
 i171:=by kernel_rfl
 i173:=by kernel_rfl
 i212:=by kernel_rfl
 i232:=by kernel_rfl
 i233:=by kernel_rfl
 m17:=by kernel_rfl
 m18:=by kernel_rfl
 m19:=by kernel_rfl}
open Go.RowKit Go.Sort Go.Lib in
theorem Tryz.strconv_FormatInt_10(n:Int)(h0:-9223372036854775808≤n)(h1:n≤9223372036854775807)(w:World)(htab:Lib.TabIs Tryz.prog w "internal/strconv.uint64pow10" .u64 Lib.pow10Tab):
    Calls Tryz.prog 57 #[.int .i64 n, .int .i64 10] w fun e w'=>e= .returned (.string ⟨(Lib.itoa n).toArray⟩)∧∃k os,w'=grow (w.drewN k) os:=Any.strconv_FormatInt_10 Tryz.laysM173 n h0 h1 w htab
end Go.Proofs
namespace Go.Sep
open Go.RowKit Go.Flow Go.Mem
def BA(l:List UInt8):ByteArray:=⟨l.toArray⟩
theorem BA_size(l:List UInt8):(BA l).size=l.length:=by show l.toArray.size=_;rw[List.size_toArray]
def au(z:UInt8):List Value:=[.int .u8 ((z.toNat:Nat):Int)]
instance encBy_ok:Enc au 1:=⟨fun _=>rfl,fun x u hu=>by rw[au,aNz]at hu;subst hu;rfl⟩
theorem flat_encBy(l:List UInt8):l.flatMap au=Lib.byteCells l:=by
 induction l with
 |nil=>rfl
 |cons a r ih=>rw[aPl,ih];rfl
section
variable{P:Program}{o:Oper}{ρ:Bj}{Γ:List Ad}{x y:Operand}
theorem Rd.lenT{t:TypeId}{a:List UInt8}(ho:o.op= .call {callee:= .builtin .len,args:=#[x],argTypes:=#[t]})(ht:P.underlying t=some .string)(hx:ev ρ x=some (.string (BA a))):Rd P o ρ Γ (nv a.length):=fun w0 w ha _=>by
 unfold execOp;simp[ho,resolve,invoke,builtin,ha.eval hx,Builtin.len_,run_underlying ht,goInt,BA_size]
theorem Rd.same{f:FuncId}{t:TypeId}{v:Value}(ho:o.op= .call {callee:= .value (.func f),args:=#[x],argTypes:=#[t]})(hs:∀x w,(callFunc f #[x]).run P w= .ok (.value x) w)(hx:ev ρ x=some v):Rd P o ρ Γ v:=fun a w ha _=>by
 unfold execOp;have hf:a.eval (.func f)= .func (.func f) #[] #[]:=rfl;simp[ho,resolve,hf,Deferred.ofValue,invoke,ha.eval hx,hs]
theorem Rd.eqlSelf{t t' e:TypeId}{j:TypeInfo}{p:Addr}(ho:o.op= .binOp .neq t x y t')(ht:P.underlying t=some (.pointer e))(hj:P.info? e=some j)(hx:ev ρ x=some (.pointer (some p)))(hy:ev ρ y=some (.pointer (some p))):Rd P o ρ Γ (.bool false):=dw ho hx hy fun w=>by
 have h:=Lib.run_neq_ptr_same (P:=P) w p ht hj;simp[eqGuard,h]
theorem box_shape{b i:Nat}{cs:List Value}{t:TypeId}{w:World}(hi:Γ[i]?=some (box b cs t))(hs:oks Γ w):w.shape? b=some (t,cs.length):=by
 have h1:w.heap[b]?=some (.cells cs.toArray t (0,0)):=hs _ (sN hi);simp[World.shape?,h1]
theorem Rd.toU{s d t e:TypeId}{j:TypeInfo}{b i:Nat}{cs:List Value}(ho:o.op= .convert s d x)(hs:P.underlying s=some (.pointer t))(hd:P.underlying d=some .unsafePointer)(hj:P.info? t=some j)(h0:j.size≠0)
    (hx:ev ρ x=some (pv b)) (hi:Γ[i]?=some (box b cs e)) (hl:0<cs.length):Rd P o ρ Γ (pv b):=fun a w ha hw=>by
 unfold execOp;simp only[ho,ha.eval hx,aPg,Lib.run_to_unsafe w ⟨b,0,none⟩ hs hd hj h0 (box_shape hi hw) hl,aOy,aPp]
theorem Rd.fromU{s d t e:TypeId}{j:TypeInfo}{b i:Nat}{cs:List Value}(ho:o.op= .convert s d x)(hs:P.underlying s=some .unsafePointer)(hd:P.underlying d=some (.pointer t))(hj:P.info? t=some j)
    (hx:ev ρ x=some (pv b)) (hi:Γ[i]?=some (box b cs e)) (hl:liesAt P P.depth e (cs.length/P.cellsOf e) 0 t 1=true):Rd P o ρ Γ (pv b):=fun a w ha hw=>by
 unfold execOp;simp only[ho,ha.eval hx,aPg,Lib.run_from_unsafe w ⟨b,0,none⟩ hs hd hj (box_shape hi hw) hl,aOy,aPp]
theorem Rd.slData{t:TypeId}{ad:Addr}{n cap:Nat}(ho:o.op= .call {callee:= .builtin .unsafeSliceData,args:=#[x],argTypes:=#[t]})(hx:ev ρ x=some (.slice (some ad) n cap))(hc:cap≠0):Rd P o ρ Γ (.pointer (some ad)):=fun a w ha _=>by
 unfold execOp;simp only[ho,resolve,invoke,builtin,aPg,aPp,aOy,List.map_toArray,aOw,aPq,ha.eval hx,In.run_sliceData (ts:=#[t]) (ty:=o.type) (a:=ad) (l:=n) hc]
theorem Ge.appendB{t u e:TypeId}{A:OA}{cap i:Nat}{l s:List UInt8}(ho:o.op= .call {callee:= .builtin .append,args:=#[x,y],argTypes:=#[t,u]})(ht:In.ByteSl P t e)(hu:P.underlying u=some .string)
    (hx:ev ρ x=some (.slice A l.length cap)) (hy:ev ρ y=some (.string (BA s))) (hi:Γ[i]?=some (rows au e 1 A cap l)) (hby:l.length+s.length≤140737488355328):
    Ge P o ρ Γ (fun v Γ'=>∃A' cap',v= .slice A' (l++s).length cap'∧Γ'=Γ.set i (rows au e 1 A' cap' (l++s))):=by
 intro a w ha hs;obtain⟨v,Γ',w',h1,⟨A',c',rfl,rfl⟩,h3⟩:=In.Ge.appendStr ho ht hu hx hy hi (by rw[BA_size];exact hby) a w ha hs;have e1:l.flatMap au++Lib.strCells (BA s)=(l++s).flatMap au:=by rw[aPm];exact aOa _ (flat_encBy s).symm
 refine⟨_,_,w',h1,⟨A',c',by rw[BA_size,aj],?_⟩,h3⟩;unfold rows;rw[BA_size,aj,e1]
theorem Ge.unsafeB{b cap i:Nat}{l:List UInt8}{pt it e:TypeId}(ho:o.op= .call {callee:= .builtin .unsafeString,args:=#[x,y],argTypes:=#[pt,it]})(hp:P.underlying pt=some (.pointer e))(hc:P.cellsOf e=1)
    (hx:ev ρ x=some (pv b)) (hy:ev ρ y=some (nv l.length)) (hi:Γ[i]?=some (rows au e 1 (some ⟨b,0,none⟩) cap l)) (hn:0<l.length) (hb:l.length≤140737488355328):
    Ge P o ρ Γ (fun v Γ'=>v= .string (BA l)∧Γ'=Γ.eraseIdx i):=
 In.Ge.unsafeStr ho hp hc hx hy (by rw[hi];unfold rows;rw[flat_encBy];rfl) hn hb
end
def varc(g:Nat)(cs:Array Value):Ad where
 owns:=[]
 reads:=[g]
 holds w:=∃t f,w.heap[g]?=some (.cells cs t f)
 loc w w' h hw:=by
  obtain⟨t,f,e⟩:=hw;exact⟨t,f,by rw[h g (.inr (by simp))];exact e⟩
 lt w hw k hk:=by
  obtain⟨t,f,e⟩:=hw;rcases hk with hk|hk
  ·cases hk
  ·rw[aNz.1 hk];exact(aQh.1 e).1
section
variable{P:Program}{o:Oper}{ρ:Bj}{Γ:List Ad}{x y:Operand}
theorem Rd.slDataN{t:TypeId}{n cap:Nat}(ho:o.op= .call {callee:= .builtin .unsafeSliceData,args:=#[x],argTypes:=#[t]})(hx:ev ρ x=some (.slice none n cap)):Rd P o ρ Γ (.pointer none):=fun a w ha _=>by
 have e:(Builtin.unsafeSliceData_ #[t] o.type #[.slice none n cap]).run P w= .ok (.pointer none) w:=rfl;unfold execOp;simp only[ho,resolve,invoke,builtin,aPg,aPp,aOy,List.map_toArray,aOw,aPq,ha.eval hx,e]
theorem Rd.unsafe0{pt it:TypeId}(ho:o.op= .call {callee:= .builtin .unsafeString,args:=#[x,y],argTypes:=#[pt,it]})(hx:ev ρ x=some (.pointer none))(hy:ev ρ y=some (nv 0)):Rd P o ρ Γ (.string (BA [])):=fun a w ha _=>by
 have e:(Builtin.unsafeString_ #[pt,it] o.type #[.pointer none,nv 0]).run P w= .ok (.string (BA [])) w:=by kernel_rfl
 unfold execOp;simp only[ho,resolve,invoke,builtin,aPg,aPp,aOy,List.map_toArray,aOw,aPq,ha.eval hx,ha.eval hy,e]
end
end Go.Sep
namespace Go.Proofs.YtihgdnjkofpgiaaGreatDoor
open Go.RowKit Go.Flow Go.Mem Go.Sep
abbrev ax:Ad:=varc 1 (Lib.pow10Tab.map fun z=>Value.int .u64 z).toArray
theorem tab10{w:World}(h:ax.holds w):Lib.TabIs Tryz.prog w "internal/strconv.uint64pow10" .u64 Lib.pow10Tab:=by
 obtain⟨t,f,e⟩:=h;show(Tryz.prog.globalNamed "internal/strconv.uint64pow10").bind _=_;rw[show Tryz.prog.globalNamed "internal/strconv.uint64pow10" =some 1 by kernel_rfl];show(match w.heap[1]? with|some (.cells cs _ _)=>some cs|_=>none)=_;rw[e]
theorem grown_ext(w:World)(k:Nat)(os:Array Obj):Ext w (Go.Sort.grow (w.drewN k) os):=by
 refine⟨⟨rfl,rfl,rfl,by rw[Go.Sort.size_grow];exact Nat.le_add_right _ _,fun i hi=>by show(w.heap++os)[i]?=_;rw[Array.getElem?_append_left hi]⟩,?_⟩;exact Nat.le_add_right _ _
theorem itoa_fn(n:Int)(h0:-9223372036854775808≤n)(h1:n≤9223372036854775807):Bd Tryz.prog 54 [.int .i64 n] [ax] (fun v _=>v= .string (BA (Lib.itoa n))):=fun w hs=>by
 refine(Tryz.strconv_Itoa n h0 h1 w (tab10 (hs.each _ (List.mem_singleton_self _)))).mono fun e w' h=>?_;obtain⟨rfl,k,os,rfl⟩:=h;exact⟨_,_,rfl,rfl,(Db.refl hs).ext (grown_ext w k os)⟩
theorem fint_fn(n:Int)(h0:-9223372036854775808≤n)(h1:n≤9223372036854775807):Bd Tryz.prog 57 [.int .i64 n, .int .i64 10] [ax] (fun v _=>v= .string (BA (Lib.itoa n))):=fun w hs=>by
 refine(Tryz.strconv_FormatInt_10 n h0 h1 w (tab10 (hs.each _ (List.mem_singleton_self _)))).mono fun e w' h=>?_;obtain⟨rfl,k,os,rfl⟩:=h;exact⟨_,_,rfl,rfl,(Db.refl hs).ext (grown_ext w k os)⟩
theorem dec_step{x:Nat}(h:10≤x):Lib.decDigits x=Lib.decDigits (x/10)++[UInt8.ofNat (48+x%10)]:=by rw[Lib.decDigits,dif_neg om]
theorem dec_last{x:Nat}(h:x<10):Lib.decDigits x=[UInt8.ofNat (48+x)]:=by rw[Lib.decDigits,dif_pos h]
theorem decD_len:∀(k x:Nat),x<10^(k+1)→(Lib.decDigits x).length≤k+1
 | k, x,h=>by
   by_cases h1:x<10
   ·rw[dec_last h1];exact Nat.succ_le_succ om
   · cases k with
     |zero=>omega
     | succ k=>
       rw[dec_step om,aj];have:=decD_len k (x/10) (by rw[Nat.pow_succ]at h;omega);simp only[List.length_singleton];omega
theorem itoa_len{n:Int}(h0:-9223372036854775808≤n)(h1:n≤9223372036854775807):(Lib.itoa n).length≤20:=by
 unfold Lib.itoa;split
 ·rw[ag];have:=decD_len 18 n.natAbs om;omega
 ·have:=decD_len 18 n.toNat om;omega
structure InR(x:Ins):Prop where
 o1:1≤x.op
 o2:x.op≤34
 a1:-9223372036854775808≤x.a
 a2:x.a≤9223372036854775807
 b1:-9223372036854775808≤x.b
 b2:x.b≤9223372036854775807
 n1:-9223372036854775808≤x.n
 n2:x.n≤9223372036854775807
end Go.Proofs.YtihgdnjkofpgiaaGreatDoor
