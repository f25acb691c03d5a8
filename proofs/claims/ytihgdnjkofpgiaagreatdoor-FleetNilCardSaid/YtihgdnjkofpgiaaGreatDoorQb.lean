/- Merged out of Q3p, Q3 by merge.py. Own text. -/
import Derived.Test.YtihgdnjkofpgiaaGreatDoorQa
set_option linter.unusedVariables false
set_option linter.unusedSimpArgs false
namespace Go.Sep
open Go.RowKit Go.Flow Go.Mem
end Go.Sep
namespace Go.Proofs.YtihgdnjkofpgiaaGreatDoor
open Go.RowKit Go.Flow Go.Mem Go.Sep Go.In
section
variable{C:Cx}{ρ:Slots}{Γ:List Chunk}{K:Act→World→Prop}
theorem To.push{α:Type}{f:α→List Chunk}(O:List α)(x:α)(k:To C ρ (all ((O++[x]).flatMap f)::Γ) K):To C ρ (all (f x)::all (O.flatMap f)::Γ) K:=by
 refine To.perm (List.Perm.swap _ _ _) ?_
 refine To.allApp ?_
 rw[List.flatMap_append,show[x].flatMap f=f x from List.append_nil _]at k
 exact k
end
theorem To.cap{C:Cx}{ρ:Slots}{Γ:List Chunk}{K:Act→World→Prop}{α:Type}{enc:α→List Value}{e:TypeId}{size cap:Nat}{A:Option Addr}{l:List α}(i:Nat)(hi:Γ[i]?=some (rows enc e size A cap l))(k:l.length≤cap→To C ρ Γ K):To C ρ Γ K:=To.know (fun w hw=>by
 obtain⟨A',c',h,_,h2,_⟩:=own_form (hw.each _ (mog hi))
 injection h with _ _ h
 rw[h];exact h2) k
def Vs.Cap(v:Vs):Prop:=v.l.length≤v.q∧∀h∈v.l,h.ps.length≤h.qp
def Cm.Cap(c:Cm):Prop:=(c.vars.length≤c.qv∧c.vers.length≤c.qn)∧∀v∈c.vers,v.Cap
def Fl.Cap(F:Fl):Prop:=(F.flags.length≤F.qf∧F.links.length≤F.ql∧F.comps.length≤F.qc)∧∀c∈F.comps,c.Cap
theorem app_all{α:Type}{p:α→Prop}{l:List α}{x:α}(h:∀y∈l,p y)(hx:p x):∀y∈l++[x],p y:=fun y hy=>(List.mem_append.1 hy).elim (h y) fun hy=>by rw[List.mem_singleton.1 hy];exact hx
section
variable{k:Encs}{F:Fl}{c:Cm}{v:Vs}{h:Hd}{i:Nat}
theorem Fl.flags_k:ros encFg F.Af F.flags∈F.kids k:=List.mem_cons_self ..
theorem Fl.links_k:ros encLk F.Al F.links∈F.kids k:=List.mem_cons_of_mem _ (List.mem_cons_self ..)
theorem Fl.comps_k:ros encC F.Ac F.comps∈F.kids k:=List.mem_cons_of_mem _ (List.mem_cons_of_mem _ (List.mem_cons_self ..))
theorem Fl.comp_k(hc:F.comps[i]?=some c):∀z∈c.kids k,z∈F.kids k:=fun z hz=>List.mem_cons_of_mem _ (List.mem_cons_of_mem _ (List.mem_cons_of_mem _ (List.mem_flatMap.2 ⟨c,mog hc,hz⟩)))
theorem Cm.vars_k:ros k.v c.Av c.vars∈c.kids k:=List.mem_cons_self ..
theorem Cm.vers_k:ros encVs c.An c.vers∈c.kids k:=List.mem_cons_of_mem _ (List.mem_cons_self ..)
theorem Cm.ver_k(hv:c.vers[i]?=some v):∀z∈v.kids k,z∈c.kids k:=fun z hz=>List.mem_cons_of_mem _ (List.mem_cons_of_mem _ (List.mem_flatMap.2 ⟨v,mog hv,hz⟩))
theorem Vs.l_k:ros encH v.A v.l∈v.kids k:=List.mem_cons_self ..
theorem Vs.hd_k(hh:v.l[i]?=some h):∀z∈h.kids k,z∈v.kids k:=fun z hz=>List.mem_cons_of_mem _ (List.mem_flatMap.2 ⟨h,mog hh,hz⟩)
theorem Hd.ps_k:ros encZ h.Ap h.ps∈h.kids k:=List.mem_cons_self ..
theorem Hd.body_k:∀z∈lsG k.f k.g h.Ab h.body,z∈h.kids k:=fun z hz=>List.mem_cons_of_mem _ hz
end
structure LowF(F:Fl):Prop where
 flags:F.flags.length≤2
 links:F.links.length≤9
 comps:F.comps.length≤3
 vars:∀c∈F.comps,c.vars.length≤5∧∀v∈c.vars,v.ty≤3
 vers:∀c∈F.comps,c.vers.length≤2∧∀v∈c.vers,v.l.length≤3∧∀h∈v.l,h.ps.length≤2∧h.body.length≤12∧PS.lowL (St.pL h.body)
end Go.Proofs.YtihgdnjkofpgiaaGreatDoor
