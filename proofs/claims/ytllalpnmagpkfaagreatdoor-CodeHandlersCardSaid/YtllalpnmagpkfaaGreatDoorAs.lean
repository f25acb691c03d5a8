/- Own text. -/
import Derived.Test.YtllalpnmagpkfaaGreatDoorAc
set_option linter.unusedVariables false
set_option linter.unusedSimpArgs false
namespace Go.Sep
open Go.RowKit Go.Flow Go.Mem Go.In
theorem Rd.lenB{P:Program}{o:Oper}{ρ:Slots}{Γ:List Chunk}{x:Operand}{t:TypeId}{s:List Nat}(ho:o.op= .call {callee:= .builtin .len,args:=#[x],argTypes:=#[t]})(ht:P.underlying t=some .string)(hx:ev ρ x=some (.string (bytesOf s))):Rd P o ρ Γ (nv s.length):=fun a w ha _=>by
 unfold execOp
 simp[ho,resolve,invoke,builtin,ha.eval hx,Builtin.len_,run_underlying ht,goInt,bytes_size]
theorem Rd.strLo{P:Program}{o:Oper}{ρ:Slots}{Γ:List Chunk}{x y:Operand}{t:TypeId}{s:List Nat}{a:Nat}{k:IntKind}(ho:o.op= .slice t x (some y) none none)(ht:P.underlying t=some .string)(hx:ev ρ x=some (.string (bytesOf s)))(hy:ev ρ y=some (.int k (a:Int)))(h:a≤s.length):Rd P o ρ Γ (.string (bytesOf (s.drop a))):=by
 have:=In.Rd.strSl (P:=P) (Γ:=Γ) (a:=a) (b:=s.length) ho ht hx ⟨k,hy⟩ rfl h (Nat.le_refl _)
 rwa[List.take_of_length_le (by rw[List.length_drop];exact Nat.le_refl _)]at this
theorem Rd.strLH{P:Program}{o:Oper}{ρ:Slots}{Γ:List Chunk}{x y z:Operand}{t:TypeId}{s:List Nat}{a b:Nat}{k k':IntKind}(ho:o.op= .slice t x (some y) (some z) none)(ht:P.underlying t=some .string)(hx:ev ρ x=some (.string (bytesOf s)))(hy:ev ρ y=some (.int k (a:Int)))(hz:ev ρ z=some (.int k' ((a+b:Nat):Int)))(h:a+b≤s.length):Rd P o ρ Γ (.string (bytesOf ((s.drop a).take b))):=by
 have:=In.Rd.strSl (P:=P) (Γ:=Γ) (a:=a) (b:=a+b) ho ht hx ⟨k,hy⟩ ⟨k',hz⟩ om h
 rwa[show a+b-a=b by omega]at this
def gone(D:Nat):Chunk where
 owns:=[D]
 reads:=[]
 holds w:=D<w.heap.size
 loc w w' h hw:=by
  have:=h D (.inl (by simp))
  rw[Array.getElem?_eq_getElem hw]at this
  exact(Array.getElem?_eq_some_iff.1 this).1
 lt w hw g hg:=by simp at hg;rw[hg];exact hw
theorem To.endMT{P:Program}{C:Cx}{ρ:Slots}{Γ:List Chunk}{R:Value→List Chunk→Prop}{fn:Func}{ex:Exit}{t D:Nat}{v:Value}{n0:Nat}{Γ0:List Chunk}{w0:World}(hex:ex= .ret∨ex= .normal)(hres:fn.results=#[.tmp t])(hv:look ρ t=some v)
    (hds:C.ds=[mark D]) (h0:C=⟨n0,Γ0,w0,C.ds⟩) (h:R v Γ):To C ρ (dfr D::Γ) (bodyPostM Fence.wide 0 P fn (Fin ⟨n0,Γ0,w0,[]⟩ R) ex):=fun a w ha hp=>by
 have hD:w.heap[D]?=some (.deferred (some [])):=hp.sat.each _ (List.mem_cons_self ..)
 have key:LeavesInM Fence.wide 0 P fn a.tmps (Fin ⟨n0,Γ0,w0,[]⟩ R) a.defers .returning w:=by
  rw[ha.defers,hds]
  refine⟨by simp, .inl ⟨D,_,rfl,run_takeDeferred hD,?_⟩⟩
  refine⟨v,?_,v,Γ,rfl,h,?_⟩
  ·rw[results_tmp hres,Array.getD_eq_getD_getElem?,ha.sees t v hv];rfl
  · have e1:C.Γ0=Γ0∧C.w0=w0:=by rw[h0];exact⟨rfl,rfl⟩
    have q:=post_putObj (c':=gone D) hp.sat rfl rfl rfl (by show D<_;rw[World.putObj_size];exact(Array.getElem?_eq_some_iff.1 hD).1) (o:= .deferred none)
    have q2:Post (dfr D::Γ) (Γ++[gone D]) w (w.putObj D (.deferred none)):=q.perm (List.perm_append_comm (l₁:=[_]))
    have:=hp.trans q2.drop
    rw[e1.1,e1.2]at this
    exact this
 rcases hex with rfl|rfl
 ·exact key
 ·exact key
end Go.Sep
namespace Go.In
abbrev Tok:=Nat×List Nat×Nat
def trcF(rdA:List Nat→Option (Nat×Nat))(skA:List Nat→Option Nat):Nat→List Nat→Nat→Option (List Tok)
 |0,_,_=>none
 | n + 1,s,off=>bif Nat.blt off s.length then(match rdA (s.drop off)with
   | some (k,m)=>bif Nat.ble (off+m) s.length then(match skA (s.drop (off+m))with
     | some q=>bif Nat.ble (off+m+q) s.length then(match trcF rdA skA n s (off+m+q)with
       |some l=>some ((k,(s.drop off).take m,off)::l)
       |none=>none)else none
     |none=>none)else none
   |none=>none)else some []
theorem trcF_more{rdA:List Nat→Option (Nat×Nat)}{skA:List Nat→Option Nat}{n:Nat}{s:List Nat}{off:Nat}{l:List Tok}(h:trcF rdA skA n s off=some l)(hlt:off<s.length):∃n' k m q l',n=n'+1∧rdA (s.drop off)=some (k,m)∧off+m≤s.length∧skA (s.drop (off+m))=some q∧off+m+q≤s.length∧trcF rdA skA n' s (off+m+q)=some l'∧l=(k,(s.drop off).take m,off)::l':=by
 cases n with
 |zero=>cases h
 | succ n=>
   unfold trcF at h
   rw[show Nat.blt off s.length=true from Nat.ble_eq_true_of_le hlt]at h
   simp only[cond_true]at h
   split at h
   · rename_i k m h1
     cases h2:Nat.ble (off+m) s.length with
     |false=>rw[h2]at h;cases h
     | true=>
       rw[h2]at h;simp only[cond_true]at h
       split at h
       · rename_i q h3
         cases h4:Nat.ble (off+m+q) s.length with
         |false=>rw[h4]at h;cases h
         | true=>
           rw[h4]at h;simp only[cond_true]at h
           split at h
           · rename_i l' h5
             cases h
             exact⟨n,k,m,q,l',rfl,h1,Nat.le_of_ble_eq_true h2,h3,Nat.le_of_ble_eq_true h4,h5,rfl⟩
           ·cases h
       ·cases h
   ·cases h
theorem trcF_end{rdA:List Nat→Option (Nat×Nat)}{skA:List Nat→Option Nat}{n:Nat}{s:List Nat}{off:Nat}{l:List Tok}(h:trcF rdA skA n s off=some l)(hge:¬off<s.length):l=[]:=by
 cases n with
 |zero=>cases h
 | succ n=>
   unfold trcF at h
   have:Nat.blt off s.length=false:=by
    cases hb:Nat.blt off s.length with
    |false=>rfl
    |true=>exact absurd (Nat.le_of_ble_eq_true hb) hge
   rw[this]at h
   cases h;rfl
end Go.In
