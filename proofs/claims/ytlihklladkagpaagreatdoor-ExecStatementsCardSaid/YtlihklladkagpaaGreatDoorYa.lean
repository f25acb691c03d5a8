/- Own text. -/
import Derived.Shelf.LaysM
import Derived.Shelf.Strconv.Itoa3
import Derived.Test.YtlihklladkagpaaGreatDoorAc
import Derived.KernelRfl
import Derived.Test.YtlihklladkagpaaGreatDoorCb
set_option linter.unusedVariables false
set_option linter.unusedSimpArgs false
namespace Go.Proofs
open Go.Shelf
def Tryz.laysM171_ren:Go.Shelf.Ren:=⟨fun|171=>147|243=>181|246=>200|283=>212|284=>213|285=>214|286=>215|129=>110|317=>220|318=>221|319=>222|320=>223|337=>227|338=>228|n=>n,fun|3=>3|9=>9|2=>2|4=>4|171=>371|0=>0|53=>267|37=>22|5=>5|173=>373|212=>380|51=>265|20=>20|213=>381|46=>205|232=>391|233=>392|n=>n,fun|17=>6|18=>7|19=>8|n=>n⟩
theorem Tryz.laysM171:Go.Proofs.LaysM.n171 Tryz.prog Tryz.laysM171_ren:={
 mixed:=by kernel_rfl
 f129:=Tryz.func110.trans (congrArg some (by kernel_rfl))
 f171:=Tryz.func147.trans (congrArg some (by kernel_rfl))
 f243:=Tryz.func181.trans (congrArg some (by kernel_rfl))
 f246:=Tryz.func200.trans (congrArg some (by kernel_rfl))
 f283:=Tryz.func212.trans (congrArg some (by kernel_rfl))
 f284:=Tryz.func213.trans (congrArg some (by kernel_rfl))
 f285:=Tryz.func214.trans (congrArg some (by kernel_rfl))
 f286:=Tryz.func215.trans (congrArg some (by kernel_rfl))
 f317:=Tryz.func220.trans (congrArg some (by kernel_rfl))
 f318:=Tryz.func221.trans (congrArg some (by kernel_rfl))
 f319:=Tryz.func222.trans (congrArg some (by kernel_rfl))
 f320:=Tryz.func223.trans (congrArg some (by kernel_rfl))
 f337:=Tryz.func227.trans (congrArg some (by kernel_rfl))
 f338:=Tryz.func228.trans (congrArg some (by kernel_rfl))
 t0:=Tryz.underlying0
 a0:=Tryz.isAgg0
 z0:=Tryz.sizeOf0
 v0:=Tryz.zeroValue0
 t2:=Tryz.underlying2
 a2:=Tryz.isAgg2
 z2:=Tryz.sizeOf2
 v2:=Tryz.zeroValue2
 t3:=Tryz.underlying3
 a3:=Tryz.isAgg3
 z3:=Tryz.sizeOf3
 v3:=Tryz.zeroValue3
 t4:=Tryz.underlying4
 a4:=Tryz.isAgg4
 z4:=Tryz.sizeOf4
 v4:=Tryz.zeroValue4
 t5:=Tryz.underlying5
 a5:=Tryz.isAgg5
 z5:=Tryz.sizeOf5
 v5:=Tryz.zeroValue5
 t9:=Tryz.underlying9
 a9:=Tryz.isAgg9
 z9:=Tryz.sizeOf9
 v9:=Tryz.zeroValue9
 t20:=Tryz.underlying20
 a20:=Tryz.isAgg20
 z20:=Tryz.sizeOf20
 v20:=Tryz.zeroValue20
 t37:=Tryz.underlying22
 a37:=Tryz.isAgg22
 z37:=Tryz.sizeOf22
 v37:=Tryz.zeroValue22
 t46:=Tryz.underlying205
 a46:=Tryz.isAgg205
 z46:=Tryz.sizeOf205
 v46:=Tryz.zeroValue205
 t51:=Tryz.underlying265
 a51:=Tryz.isAgg265
 z51:=Tryz.sizeOf265
 v51:=Tryz.zeroValue265
 t53:=Tryz.underlying267
 a53:=Tryz.isAgg267
 z53:=Tryz.sizeOf267
 v53:=Tryz.zeroValue267
 t171:=Tryz.underlying371
 a171:=Tryz.isAgg371
 z171:=Tryz.sizeOf371
 v171:=Tryz.zeroValue371
 t173:=Tryz.underlying373
 a173:=Tryz.isAgg373
 z173:=Tryz.sizeOf373
 v173:=Tryz.zeroValue373
 t212:=Tryz.underlying380
 a212:=Tryz.isAgg380
 z212:=Tryz.sizeOf380
 v212:=Tryz.zeroValue380
 t213:=Tryz.underlying381
 a213:=Tryz.isAgg381
 z213:=Tryz.sizeOf381
 t232:=Tryz.underlying391
 a232:=Tryz.isAgg391
 z232:=Tryz.sizeOf391
 v232:=Tryz.zeroValue391
 t233:=Tryz.underlying392
 a233:=Tryz.isAgg392
 z233:=Tryz.sizeOf392
 v233:=Tryz.zeroValue392
 g17:=by kernel_rfl
 g18:=by kernel_rfl
 g19:=by kernel_rfl
 i0:=by kernel_rfl
 i2:=by kernel_rfl
 i3:=by kernel_rfl
 i4:=by kernel_rfl
 i5:=by kernel_rfl
 i9:=by kernel_rfl
 i20:=by kernel_rfl
 i37:=by kernel_rfl
 i46:=by kernel_rfl
 i51:=by kernel_rfl
 i53:=by kernel_rfl
 i171:=by kernel_rfl
 i173:=by kernel_rfl
 i212:=by kernel_rfl
 i232:=by kernel_rfl
 i233:=by kernel_rfl
 m17:=by kernel_rfl
 m18:=by kernel_rfl
 m19:=by kernel_rfl}
open Go.RowKit Go.Sort Go.Lib in
theorem Tryz.strconv_Itoa(n:Int)(h0:-9223372036854775808≤n)(h1:n≤9223372036854775807)(w:World)(htab:Lib.TabIs Tryz.prog w "internal/strconv.uint64pow10" .u64 Lib.pow10Tab):
    Calls Tryz.prog 147 #[.int .i64 n] w fun e w'=>e= .returned (.string ⟨(Lib.itoa n).toArray⟩)∧∃k os,w'=grow (w.drewN k) os:=Any.strconv_Itoa Tryz.laysM171 n h0 h1 w htab
end Go.Proofs
namespace Go.Sep
open Go.RowKit Go.Flow Go.Mem
def BA(l:List UInt8):ByteArray:=⟨l.toArray⟩
theorem BA_size(l:List UInt8):(BA l).size=l.length:=by show l.toArray.size=_;rw[List.size_toArray]
def encBy(z:UInt8):List Value:=[.int .u8 ((z.toNat:Nat):Int)]
instance encBy_ok:Enc encBy 1:=⟨fun _=>rfl,fun x u hu=>by rw[encBy,aEr]at hu;subst hu;rfl⟩
section
variable{P:Program}{o:Oper}{ρ:Cb}{Γ:List Ai}{x y:Operand}
theorem Rd.same{f:FuncId}{t:TypeId}{v:Value}(ho:o.op= .call {callee:= .value (.func f),args:=#[x],argTypes:=#[t]})(hs:∀x w,(callFunc f #[x]).run P w= .ok (.value x) w)(hx:ev ρ x=some v):Rd P o ρ Γ v:=fun a w ha _=>by
 unfold execOp
 have hf:a.eval (.func f)= .func (.func f) #[] #[]:=rfl
 simp[ho,resolve,hf,Deferred.ofValue,invoke,ha.eval hx,hs]
end
def varc(g:Nat)(cs:Array Value):Ai where
 owns:=[]
 reads:=[g]
 holds w:=∃t f,w.heap[g]?=some (.cells cs t f)
 loc w w' h hw:=by
  obtain⟨t,f,e⟩:=hw
  exact⟨t,f,by rw[h g (.inr (by simp))];exact e⟩
 lt w hw k hk:=by
  obtain⟨t,f,e⟩:=hw
  rcases hk with hk|hk
  ·cases hk
  ·rw[aEr.1 hk];exact(Array.getElem?_eq_some_iff.1 e).1
section
variable{P:Program}{o:Oper}{ρ:Cb}{Γ:List Ai}{x y:Operand}
end
end Go.Sep
namespace Go.Proofs.YtlihklladkagpaaGreatDoor
open Go.RowKit Go.Flow Go.Mem Go.Sep
abbrev p10c:Ai:=varc 6 (Lib.pow10Tab.map fun z=>Value.int .u64 z).toArray
theorem tab10{w:World}(h:p10c.holds w):Lib.TabIs Tryz.prog w "internal/strconv.uint64pow10" .u64 Lib.pow10Tab:=by
 obtain⟨t,f,e⟩:=h
 show(Tryz.prog.globalNamed "internal/strconv.uint64pow10").bind _=_
 rw[show Tryz.prog.globalNamed "internal/strconv.uint64pow10" =some 6 by kernel_rfl]
 show(match w.heap[6]? with|some (.cells cs _ _)=>some cs|_=>none)=_
 rw[e]
theorem grown_ext(w:World)(k:Nat)(os:Array Obj):Ext w (Go.Sort.grow (w.drewN k) os):=by
 refine⟨⟨rfl,rfl,rfl,by rw[Go.Sort.size_grow];exact Nat.le_add_right _ _,fun i hi=>by show(w.heap++os)[i]?=_;rw[Array.getElem?_append_left hi]⟩,?_⟩
 exact Nat.le_add_right _ _
theorem itoa_fn(n:Int)(h0:-9223372036854775808≤n)(h1:n≤9223372036854775807):aMa Tryz.prog 147 [.int .i64 n] [p10c] (fun v _=>v= .string (BA (Lib.itoa n))):=fun w hs=>by
 refine(Tryz.strconv_Itoa n h0 h1 w (tab10 (hs.each _ (List.mem_singleton_self _)))).mono fun e w' h=>?_
 obtain⟨rfl,k,os,rfl⟩:=h
 exact⟨_,_,rfl,rfl,(Dj.refl hs).ext (grown_ext w k os)⟩
theorem dec_step{x:Nat}(h:10≤x):Lib.decDigits x=Lib.decDigits (x/10)++[UInt8.ofNat (48+x%10)]:=by rw[Lib.decDigits,dif_neg om]
theorem dec_last{x:Nat}(h:x<10):Lib.decDigits x=[UInt8.ofNat (48+x)]:=by rw[Lib.decDigits,dif_pos h]
theorem decD_len:∀(k x:Nat),x<10^(k+1)→(Lib.decDigits x).length≤k+1
 | k, x,h=>by
   by_cases h1:x<10
   ·rw[dec_last h1];exact Nat.succ_le_succ om
   · cases k with
     |zero=>omega
     | succ k=>
       rw[dec_step om,lap]
       have:=decD_len k (x/10) (by rw[Nat.pow_succ]at h;omega)
       simp only[List.length_singleton];omega
theorem itoa_len{n:Int}(h0:-9223372036854775808≤n)(h1:n≤9223372036854775807):(Lib.itoa n).length≤20:=by
 unfold Lib.itoa
 split
 ·rw[lc1];have:=decD_len 18 n.natAbs om;omega
 ·have:=decD_len 18 n.toNat om;omega
structure InR(x:Ins):Prop where
 o1:1≤x.op
 o2:x.op≤34
 a1:-9223372036854775808≤x.a
 a2:x.a≤9223372036854775807
 b1:-9223372036854775808≤x.b
 b2:x.b≤9223372036854775807
 n1:-9223372036854775808≤x.n
 n2:x.n≤9223372036854775807
end Go.Proofs.YtlihklladkagpaaGreatDoor
