/- Own text. -/
import Derived.Test.YtlihklladkagpaaGreatDoorAb
set_option linter.unusedVariables false
set_option linter.unusedSimpArgs false
namespace Go.Sep
open Go.RowKit Go.Flow Go.Mem
def jL(o:Oper):Prop:=∀(ρ:Operand→Value) (P:Program) (w w':World),(∀f args,(execOp ρ o).run P w≠ .ok (.enter f args) w')∧(∀row args,(execOp ρ o).run P w≠ .ok (.row row args) w')
def UZ(o:Oper):Bool:=match o.op with
 | .call c=>match c.callee with
   | .builtin .len=>true
   | .builtin .append=>true
   |_=>false
 |_=>false
def aI(o:Oper):Bool:=Ox o||UZ o
theorem EU{o:Oper}(h:aI o=true):jL o:=fun ρ P w w'=>by
 unfold aI at h
 rw[aFr]at h
 rcases h with h|h
 ·exact Zn h ρ P w w'
 · have hv:∀s:Sem Value,(∀f args,(do pure (.value (←s)):Sem Next).run P w≠ .ok (.enter f args) w')∧(∀row args,(do pure (.value (←s)):Sem Next).run P w≠ .ok (.row row args) w'):=fun s=>by
     simp only[Sem.run_bind]
     cases s.run P w<;>simp[Result.andThen]
   unfold UZ at h
   split at h
   · rename_i c hc
     obtain⟨cl,as,ts⟩:=c
     simp only at h
     split at h
     · unfold execOp
       simp only[hc,resolve,invoke,builtin,Sem.run_bind,Sem.run_pure,Result.andThen_ok]
       have:=hv (Builtin.len_ ts o.type (as.map ρ))
       simpa only[Sem.run_bind,Sem.run_pure]using this
     · unfold execOp
       simp only[hc,resolve,invoke,builtin,Sem.run_bind,Sem.run_pure,Result.andThen_ok]
       have:=hv (Builtin.append_ ts o.type (as.map ρ))
       simpa only[Sem.run_bind,Sem.run_pure]using this
     ·cases h
   ·cases h
theorem EW{P:Program}{ops:Array Oper}{o:Oper}{a:Act}{w:World}{K K':Value→World→Prop}(hp:jL o)(h:He P ops o a w K)(h':He P ops o a w K'):He P ops o a w fun v w'=>K v w'∧K' v w':=by
 unfold He at*
 split
 · rename_i hw
   rw[aEh hw]at h h'
   have hq:=hp a.eval P w
   unfold nW at*
   split
   ·rename_i he;rw[he]at h h';exact⟨h,h'⟩
   ·rename_i he;rw[he]at h h';exact⟨h,h'⟩
   ·rename_i w' he;exact absurd he ((hq w').1 _ _)
   ·rename_i w' he;exact absurd he ((hq w').2 _ _)
   · rename_i h1 h2 h3 h4
     generalize (execOp a.eval o).run P w=r at*
     cases r with
     |ok n w'=>cases n<;>first|exact absurd rfl (h1 _ _)|exact absurd rfl (h2 _)|exact absurd rfl (h3 _ _ _)|exact absurd rfl (h4 _ _ _)|exact h
     |halt x w'=>exact h
 · rename_i hw
   rw[aEa hw]at h h'
   exact⟨h,h'⟩
section
variable{P:Program}{l:List Oper}{Q:Act→World→Prop}
structure aDu(n:Nat)(l:List Oper):Prop where
 le:n≤l.length
 hd:∀i o,l[i]?=some o→i<n→(∀e∈o.after,Region.binds .any e=true→e.on<i)∧∀j s,o.guard=some (j,s)→j<n
 tl:∀i o,l[i]?=some o→n≤i→o.guard=none∧∀j,j<n→anc l i j=true
theorem EX:∀{fuel:Nat} (k:Nat) {listed:Array Bool} {a:Act} {w:World},Rm P l.toArray Q fuel listed a w→Rm P l.toArray Q (fuel+k) listed a w
 |0,0,_,_,_,h=>h
 | 0,k+1,listed,a,w,h=>by
   show Rm P l.toArray Q (0+k+1) listed a w
   exact⟨fun _=>h.2,fun i hi=>by rw[h.1]at hi;cases hi⟩
 | fuel+1,k,listed,a,w,h=>by
   rw[show fuel+1+k=(fuel+k)+1 by omega]
   exact⟨h.1,fun i hi=>(h.2 i hi).mono fun a w hh=>EX k hh⟩
variable{C:Cx}{ρ:Cb}{Γ:List Ai}
end
end Go.Sep
namespace Go.In
open Go.RowKit Go.Flow Go.Mem Go.Sep
structure Ren(π:Nat→Nat)(k:Nat):Prop where
 fix:∀i,i<k→π i=i
 big:∀i,k≤i→k≤π i
def after(σ π:Nat→Nat):Nat→Nat:=fun i=>σ (π i)
inductive XF where
 |flow (ms:List Fe) (ts:List Nat)
 |split (m p:Nat) (rest:Option Nat) (a b:XF) (keep:List Nat)
 |cut (n:Nat) (a b:XF)
section
variable{P:Program}{S:Same P}{F:BD}{C:Cx}{σ:Nat→Nat}{s s':St}{k:Nat}
end
structure Env(P:Program) where
 S:Same P
 flow:Nat→Nat→Option XF
 live:Nat→List Nat
 drop:Nat→Nat
 fuel:Nat
 mixed:P.follows .mixedOrders=true
inductive Ex where
 |nor
 |exi (id:Nat)
 |ret
def Ex.to:Ex→Exit
 | .nor=> .normal
 | .exi id=> .exit id
 | .ret=> .ret
section
variable{P:Program}{E:Env P}{F:BD}{C:Cx}{σ:Nat→Nat}{s s':St}{Q:Exit→Act→World→Prop}{f k:Nat}
def xI(C:Cx)(P:Program)(c:Code)(g:St→Option (Ex×St)):Prop:=
 ∀s e s',g s=some (e,s')→s.Good→s'.Good∧s.k≤s'.k∧∀Q,Goes C s s' (Q e.to) (c.wp P Q)
end
end Go.In
namespace Go.Sep
open Go.RowKit Go.Flow Go.Mem Go.In
theorem BF{P:Program}{o:Oper}{ρ:Cb}{Γ:List Ai}{x:Operand}{t:TypeId}{s:List Nat}(ho:o.op= .call {callee:= .builtin .len,args:=#[x],argTypes:=#[t]})(ht:P.underlying t=some .string)(hx:ev ρ x=some (.string (aLy s))):Rd P o ρ Γ (nv s.length):=fun a w ha _=>by
 unfold execOp
 simp[ho,resolve,invoke,builtin,ha.eval hx,Builtin.len_,run_underlying ht,goInt,Qc]
end Go.Sep
namespace Go.In
end Go.In
