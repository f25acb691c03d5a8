/- Merged out of B8p, B8 by merge.py. Own text. -/
import Derived.Test.YtihgdnjkofpgiaaGreatDoorBa
import Derived.Test.YtihgdnjkofpgiaaGreatDoorHa
set_option linter.unusedVariables false
set_option linter.unusedSimpArgs false
namespace Go.Proofs.YtihgdnjkofpgiaaGreatDoor
open Go.RowKit Go.Flow Go.Mem Go.Sep Go.In
abbrev Pt0:Pt:=⟨0,0,none,0,[],none,0,[]⟩
abbrev Cd1:Cd:=⟨1,none,0,[]⟩
theorem Pt0.ok:Pt.Ok Pt0:=⟨by decide,by decide,Nat.le_refl _,Nat.le_refl _,fun x h=>(by cases h),fun x h=>(by cases h)⟩
theorem Cd1.ok:Cd.Ok Cd1:=⟨by decide,fun x h=>(by cases h),Nat.le_refl _⟩
section
variable{C:Cx}{ρ:Slots}{Γ:List Chunk}{K:Act→World→Prop}{A:Option Addr}{ty:TypeId}{q:Nat}
theorem To.fl(f:Fl){t1 t2 t3:TypeId}(k:To C ρ (all (f.kids eR)::Γ) K):To C ρ (rows encFg t1 2 f.Af f.qf f.flags::rows encLk t2 3 f.Al f.ql f.links::rows encC t3 3 f.Ac f.qc f.comps::all (f.comps.flatMap (Cm.kids eR))::Γ) K:=by
 refine To.layRow (To.perm (Γ':=rows encLk t2 3 f.Al f.ql f.links::rows encC t3 3 f.Ac f.qc f.comps::all (f.comps.flatMap (Cm.kids eR))::ros encFg f.Af f.flags::Γ) ?_ (To.layRow ?_))
 ·exact(List.perm_middle (l₁:=[_,_,_])).symm
 refine To.perm (Γ':=rows encC t3 3 f.Ac f.qc f.comps::all (f.comps.flatMap (Cm.kids eR))::ros encLk f.Al f.links::ros encFg f.Af f.flags::Γ) ?_ (To.layRow (To.allCons (To.perm (List.Perm.swap _ _ _) (To.allCons ?_))))
 ·exact(List.perm_middle (l₁:=[_,_])).symm
 refine To.perm (List.Perm.swap _ _ _) ?_
 exact To.allCons k
end
theorem divmod_lt{n k:Nat}(h:k<n*n):k/n<n∧k%n<n:=by
 have h0:0<n:=Nat.pos_of_ne_zero fun e=>by rw[e]at h;simp at h
 exact⟨Nat.div_lt_of_lt_mul h,Nat.mod_lt _ h0⟩
theorem divmod_inj{n a b:Nat}(h:a/n=b/n)(h2:a%n=b%n):a=b:=by rw[←Nat.div_add_mod a n,h,h2,Nat.div_add_mod]
structure LkOk(n k:Nat)(l:List Lk):Prop where
 each:∀x∈l,∃j,j<k∧j<n*n∧x.src=nC (j/n)∧x.dst=nC (j%n)∧1≤x.lat∧x.lat≤3
 nodup:(l.map fun x=>(x.src,x.dst)).Nodup
 len:l.length≤k
theorem LkOk.nil(n:Nat):LkOk n 0 []:=⟨fun x h=>(by cases h),List.nodup_nil,Nat.le_refl _⟩
theorem LkOk.skip{n k:Nat}{l:List Lk}(h:LkOk n k l):LkOk n (k+1) l:=⟨fun x hx=>by obtain⟨j,h1,h2⟩:=h.each x hx;exact⟨j,by omega,h2⟩,h.nodup,by have:=h.len;omega⟩
theorem LkOk.push{n k y:Nat}{l:List Lk}(h:LkOk n k l)(hn:n≤3)(hk:k<n*n)(hy:1≤y∧y≤3):LkOk n (k+1) (l++[⟨nC (k/n),nC (k%n),((y:Nat):Int)⟩]):=by
 refine⟨fun x hx=>?_,?_,by rw[lap];have:=h.len;show l.length+1≤_;omega⟩
 · rcases List.mem_append.1 hx with hx|hx
   ·exact h.skip.each x hx
   ·rw[List.mem_singleton.1 hx];exact⟨k,by omega,hk,rfl,rfl,by show(1:Int)≤(y:Int);omega,by show(y:Int)≤3;omega⟩
 · rw[List.map_append]
   refine List.nodup_append.2 ⟨h.nodup,by simp,fun a ha b hb e=>?_⟩
   obtain⟨x,hx,rfl⟩:=List.mem_map.1 ha
   have hb2:b=(nC (k/n),nC (k%n)):=by simpa using hb
   rw[hb2]at e
   obtain⟨j,hj,hjn,h1,h2,_⟩:=h.each x hx
   have e1:=congrArg Prod.fst e
   have e2:=congrArg Prod.snd e
   simp only[h1,h2]at e1 e2
   obtain⟨d1,d2⟩:=divmod_lt hjn
   obtain⟨d3,d4⟩:=divmod_lt hk
   have:=divmod_inj (nC_inj (by omega) (by omega) e1) (nC_inj (by omega) (by omega) e2)
   omega
theorem LkOk.good{n k:Nat}{l:List Lk}(h:LkOk n k l)(hk:k≤n*n)(hn:n≤3):l.length≤9∧(∀x∈l,∃i j,i<n∧j<n∧x.src=nC i∧x.dst=nC j∧1≤x.lat∧x.lat≤3)∧(l.map fun x=>(x.src,x.dst)).Nodup:=by
 refine⟨?_,fun x hx=>?_,h.nodup⟩
 · have:=h.len
   have h9:n*n≤3*3:=Nat.mul_le_mul hn hn
   omega
 · obtain⟨j,_,hj,h1,h2,h3⟩:=h.each x hx
   obtain⟨d1,d2⟩:=divmod_lt hj
   exact⟨_,_,d1,d2,h1,h2,h3⟩
def VsOk(c:Ct)(ar:List Nat)(n:Nat)(v:Vs):Prop:=(∀i h,(v.l.map Hd.pure)[i]?=some h→GoodH c ar i h)∧v.l.length=n
theorem VsOk.good{c:Ct}{ar:List Nat}{n:Nat}{v:Vs}(h:VsOk c ar n v)(h1:1≤n)(h2:n≤ar.length):GoodV c ar v.pure∧v.pure.length=n:=by
 have hl:v.pure.length=n:=by show(v.l.map Hd.pure).length=n;rw[List.length_map];exact h.2
 exact⟨⟨by omega,by omega,h.1⟩,hl⟩
end Go.Proofs.YtihgdnjkofpgiaaGreatDoor
