/- A unit of a compiled fleet by component, version and number of the handler. Own text. -/
import Derived.Test.YtllalpnmagpkfaaGreatDoorMa
set_option linter.unusedVariables false
set_option linter.unusedSimpArgs false
namespace Go.Proofs.YtllalpnmagpkfaaGreatDoor
open Go.Proofs.Tryz
open Go.RowKit Go.Flow Go.Mem Go.Sep Go.In
def pU(F:Fl)(c:Cm)(v:Nat)(s:ByteArray):RU:=if v=0∨c.vers.length<v then⟨false,0,0,[]⟩else match fndV s none (c.vers.take v)with
 |none=>⟨false,0,0,[]⟩
 |some x=>⟨true,x.ps.length,(heightsV (codeR F c x)).1,codeR F c x⟩
theorem Does.nilR{P:Program}{f:FuncId}{args:List Value}{Γ:List Chunk}{v:Value}{α:Type}{enc:α→List Value}{e:TypeId}{size:Nat}(h:Does P f args Γ (fun r Γ'=>r=v∧Γ'=[])):Does P f args Γ (fun r Γ'=>r=v∧Γ'=[rows enc e size none 0 ([]:List α)]):=fun w hs=>(h w hs).mono fun x w' ⟨r,Γ',h1,⟨h2,h3⟩,h4⟩=>by
 subst h3
 have hk:Post [] [rows enc e size none 0 ([]:List α)] w' w':=(show To ⟨0,[],w',[]⟩ [] [] (fun _ w2=>w2=w'→Post [] [rows enc e size none 0 ([]:List α)] w' w')from To.nilRow (enc:=enc) (e:=e) (size:=size) (fun _ w2 _ hp e2=>by subst e2;exact hp)) _ w' (Has.start [] 0 rfl) (Post.refl h4.sat) rfl
 exact⟨r,_,h1,⟨h2,rfl⟩,h4.trans hk⟩
theorem Does.nilR'{P:Program}{f:FuncId}{args:List Value}{Γ:List Chunk}{α:Type}{enc:α→List Value}{e:TypeId}{size:Nat}(h:Does P f args Γ (fun r Γ'=>r= .tuple #[.agg #[.int .i64 0, .int .i64 0, .slice none 0 0], .bool false]∧Γ'=[])):Does P f args Γ (fun r Γ'=>r= .tuple #[.agg #[.int .i64 0, .int .i64 0, .slice none 0 0], .bool false]∧Γ'=[rows enc e size none 0 ([]:List α)]):=Does.nilR h
section
variable{F:Fl}{ps:List PP}{k:Nat}{c:Cm}{h:Nat}{s:ByteArray}
theorem punit_at(b:Nat)(A:OA)(q:Nat)(hP:ProgOk F ps)(hG:GoodF F.pure)(hc:F.comps[k]?=some c)(hs:(hnames (c.vers.map Vs.pure))[h]?=some s)(v:Nat):
    Dz 15 [pv b,nv k,nv v,nv h] [all (pgk b A q ps)] (fun r Γ'=>∃(B:OA) (m:Nat),r= .tuple #[.agg #[nv ((pU F c v s).np), .int .i64 (pU F c v s).st, .slice B (pU F c v s).l.length m], .bool (pU F c v s).ok]∧Γ'=[rows Ins.cells 109 4 B m (pU F c v s).l]):=by
 obtain⟨p,hp,hpp⟩:=prog_at hP hc
 have hX:=goodX hG
 have hpl:ps.length≤12:=by rw[hP.len];have:=hX.comps;omega
 have hcv:=(hX.comp c (mog hc)).vers2
 have hul:=hpp.ul
 have hn:p.names[h]?=some s:=by rw[hpp.names];exact hs
 by_cases hv:v=0∨c.vers.length<v
 · have e:pU F c v s=⟨false,0,0,[]⟩:=if_pos hv
   rw[e]
   exact(Does.nilR' (punitO_fn b A q ps k p hp hpl v h om)).mono fun r Γ' ⟨h1,h2⟩=>⟨none,0,h1,h2⟩
 · obtain⟨n,rfl⟩:∃n,v=n+1:=⟨v-1,by omega⟩
   obtain⟨vv,f,u,t,h1,h2,h3,h4,h5⟩:=unit_at hpp (n:=n) om hn
   have e:pU F c (n+1) s=match fndV s none (c.vers.take (n+1))with|none=>⟨false,0,0,[]⟩|some x=>⟨true,x.ps.length,(heightsV (codeR F c x)).1,codeR F c x⟩:=if_neg hv
   have hhl:=(List.getElem?_eq_some_iff.1 hn).1
   cases ho:fndV s none (c.vers.take (n+1))with
   | none=>
     rw[ho]at h5 e
     obtain⟨rfl,rfl⟩:=h5
     rw[e]
     exact(Does.nilR' (punitF_fn b A q ps k p hp hpl n vv h1 f h2 h hhl zPU h3 h4 (Nat.zero_le _) om)).mono fun r Γ' ⟨h1,h2⟩=>⟨none,0,h1,h2⟩
   | some x=>
     rw[ho]at h5 e
     obtain⟨rfl,B,m,rfl⟩:=h5
     rw[e]
     obtain⟨v',hv',hx⟩:=fnd_good hG hc ho
     have g:=(good_code hG hc hv' hx).len
     exact punit_fn b A q ps k p hp hpl n vv h1 f h2 h hhl _ h3 h4 (by show(codeR F c x).length≤_;omega) om
theorem pU_ver(hG:GoodF F.pure)(hc:F.comps[k]?=some c){v:Nat}(h:(pU F c v s).ok=true):verifyV (((pU F c v s).np:Nat):Int) (pU F c v s).st (pU F c v s).l=0:=by
 unfold pU at h⊢
 split at h
 ·cases h
 · rename_i hv
   rw[if_neg hv]
   cases ho:fndV s none (c.vers.take v)with
   |none=>rw[ho]at h;cases h
   | some x=>
     obtain⟨v',hv',hx⟩:=fnd_good hG hc ho
     exact verifyP hG hc hv' hx
theorem fndH_first{s:ByteArray}:∀{l:List Hd} {o:Option Hd},(o.isSome=true∨∃x∈l,x.name=s)→(fndH s o l).isSome=true
 | [],o,h=>by
   rcases h with h|⟨x,hx,_⟩
   ·exact h
   ·cases hx
 | y ::r,o,h=>by
   rw[fndH_cons]
   refine fndH_first ?_
   by_cases hy:y.name=s
   ·rw[if_pos hy];exact .inl rfl
   · rw[if_neg hy]
     rcases h with h|⟨x,hx,e⟩
     ·exact .inl h
     · rcases List.mem_cons.1 hx with rfl|hx
       ·exact absurd e hy
       ·exact .inr ⟨x,hx,e⟩
theorem pU_first(hG:GoodF F.pure)(hc:F.comps[k]?=some c)(hs:(hnames (c.vers.map Vs.pure))[0]?=some s):(pU F c 1 s).ok=true:=by
 have hX:=goodX hG
 have hv1:=(hX.comp c (mog hc)).vers1
 obtain⟨ct,ar,ok⟩:=hG.okC (pure_comp hc)
 obtain⟨nn,hW⟩:=cmW hG hc
 have h0:c.vers[0]?=some c.vers[0]:=gge hv1
 have hvm:=mog h0
 have gv:=ok.vers c.vers[0].pure (List.mem_map.2 ⟨_,hvm,rfl⟩)
 have hpl:c.vers[0].pure.length=c.vers[0].l.length:=List.length_map ..
 have hl:=gv.1
 have hy:c.vers[0].l[0]?=some (c.vers[0].l[0]'om):=gge _
 obtain⟨e1,e2⟩:=hW.each _ hvm 0 _ hy
 rw[hW.hn,nms_get om]at hs
 have hs:=(Option.some.inj hs).symm
 have hf:(fndV s none (c.vers.take 1)).isSome=true:=by
  rw[fndV_snoc s none h0]
  exact fndH_first (.inr ⟨_,mog hy,by rw[e1,hs]⟩)
 unfold pU
 rw[if_neg om]
 obtain⟨x,hx⟩:=Option.isSome_iff_exists.1 hf
 rw[hx]
end
end Go.Proofs.YtllalpnmagpkfaaGreatDoor
