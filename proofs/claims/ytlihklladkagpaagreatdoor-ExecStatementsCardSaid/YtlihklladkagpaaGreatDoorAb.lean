/- Own text. -/
import Derived.Test.YtlihklladkagpaaGreatDoorAa
import Derived.Lib.AppendStr
import Derived.Lib.UnsafeStr
set_option linter.unusedVariables false
set_option linter.unusedSimpArgs false
namespace Go.In
open Go.RowKit Go.Flow Go.Mem Go.Sep
structure aDl(P:Program)(t e:TypeId):Prop where
 und:P.underlying t=some (.slice e)
 inf:∃i,P.info? e=some i∧i.zero=some (.int .u8 0)∧i.size=1∧i.bytes=1
section
variable{P:Program}{o:Oper}{ρ:Cb}{Γ:List Ai}{x y:Operand}{t u e:TypeId}
end
section
variable{P:Program}{o:Oper}{ρ:Qw}{M M':List MC}{σ:Nat→Nat}{v:AV}{k:Nat}{r:Res}
theorem Sup.trans{k':Nat}{σ σ' σ'':Nat→Nat}(hk:k≤k')(h:Sup k σ σ')(h':Sup k' σ' σ''):Sup k σ σ'':=fun i hi=>(h i hi).trans (h' i (Nat.lt_of_lt_of_le hi hk))
theorem Mk.mono{R R':Value→List Ai→Prop}{ρ:Cb}{Γ:List Ai}(h:Mk P o ρ Γ R)(hr:∀v N w,R v N→sat N w→R' v N):Mk P o ρ Γ R':=fun a w ha hs=>by
 obtain⟨v,N,w',h1,h2,h3⟩:=h a w ha hs
 exact⟨v,N,w',h1,hr v N w' h2 h3.sat,h3⟩
theorem Ge.mono{R R':Value→List Ai→Prop}{ρ:Cb}{Γ:List Ai}(h:Ge P o ρ Γ R)(hr:∀v N w,R v N→sat N w→R' v N):Ge P o ρ Γ R':=fun a w ha hs=>by
 obtain⟨v,N,w',h1,h2,h3⟩:=h a w ha hs
 exact⟨v,N,w',h1,hr v N w' h2 h3.sat,h3⟩
end
section
variable{P:Program}{o:Oper}{ρ:Qw}{M M':List MC}{σ:Nat→Nat}{v:AV}{k:Nat}{r:Res}
end
structure Same(P:Program) where
 is:Nat→Bool
 ok:∀f,is f=true→∀x w,(callFunc f #[x]).run P w= .ok (.value x) w
section
variable{P:Program}{S:Same P}{o:Oper}{ρ:Qw}{M:List MC}{k:Nat}{r:Res}{v:AV}
end
structure St where
 ρ:Qw
 M:List MC
 k:Nat
structure St.Good(s:St):Prop where
 big:4096≤s.k
 sl:aBi s.k s.ρ
 me:RL s.k s.M
abbrev BD:=Nat→List AV→List MC→Nat→Option (AV×List MC×Nat)
structure aDt(P:Program)(f:FuncId)(vs:List AV)(M:List MC)(k:Nat)(v:AV)(M':List MC)(k':Nat):Prop where
 le:k≤k'
 bval:bel k' v
 bmem:RL k' M'
 does:∀σ,aMa P f (pV σ vs) (mem σ M) (XD k σ v M')
def Goes(C:Cx)(s s':St)(K' K:Act→World→Prop):Prop:=
 ∀σ,(∀σ',Sup s.k σ σ'→To C (aBh σ' s'.ρ) (mem σ' s'.M) K')→To C (aBh σ s.ρ) (mem σ s.M) K
theorem Goes.trans{C:Cx}{s s' s'':St}{K K' K'':Act→World→Prop}(hk:s.k≤s'.k)(h:Goes C s s' K' K)(h':Goes C s' s'' K'' K'):Goes C s s'' K'' K:=
 fun σ k=>h σ fun σ' he=>h' σ' fun σ'' he'=>k σ'' (Sup.trans hk he he')
theorem Goes.refl{C:Cx}{s:St}{K:Act→World→Prop}:Goes C s s K K:=fun σ k=>k σ fun _ _=>rfl
section
variable{P:Program}{S:Same P}{F:BD}{o:Oper}{s s':St}{σ:Nat→Nat}{v:AV}{ops:Array Oper}{C:Cx}{Q:Exit→Act→World→Prop}{rest:List Oper}{d:Nat}
theorem mem_append{M N:List MC}:mem σ (M++N)=mem σ M++mem σ N:=by unfold mem;rw[aEq]
end
def Uc:=List (Nat×List MC)
def aBm(N:List (Nat×List MC)):List MC:=N.flatMap (·.2)
structure FS where
 ρ:Qw
 M:List MC
 N:List (Nat×List MC)
 k:Nat
structure FS.Good(s:FS):Prop where
 big:4096≤s.k
 sl:aBi s.k s.ρ
 me:RL s.k s.M
 nw:RL s.k (aBm s.N)
section
variable{P:Program}{S:Same P}{F:BD}{C:Cx}{σ σ':Nat→Nat}{l:List Oper}{Th M M':List MC}{N:List (Nat×List MC)}{m:Fe}{ms:List Fe}{s s':FS}{k k':Nat}{Q:Act→World→Prop}{v:AV}
theorem LF{M M':List MC}(h:M.Perm M'):(mem σ M).Perm (mem σ M'):=h.map _
theorem ZB{f:FuncId}{vs:List Value}{Γ:List Ai}{v:AV}{p:MC→Bool}(h:aMa P f vs Γ (XD k σ v M)):aMa P f vs Γ (XD k σ v (M.filter p)):=fun w hs=>
 (h w hs).mono fun e w' ⟨u,Γ',h1,⟨σ',h2,h3,h4⟩,h5⟩=>by
  refine⟨u,mem σ' (M.filter p),h1,⟨σ',h2,h3,rfl⟩,?_⟩
  subst h4
  have hp:(mem σ' M).Perm (mem σ' (M.filter p)++mem σ' (M.filter fun c=> !p c)):=by
   rw[←mem_append];exact LF (List.filter_append_perm p M).symm
  exact(h5.perm hp).drop
end
end Go.In
