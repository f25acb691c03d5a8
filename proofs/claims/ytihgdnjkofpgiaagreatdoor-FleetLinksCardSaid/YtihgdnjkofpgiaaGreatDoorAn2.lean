/- Own text. -/
import Derived.Test.YtihgdnjkofpgiaaGreatDoorAn1
import Derived.Test.YtihgdnjkofpgiaaGreatDoorAl
import Derived.Test.YtihgdnjkofpgiaaGreatDoorQe
import Derived.Test.YtihgdnjkofpgiaaGreatDoorUh
set_option linter.unusedVariables false
set_option linter.unusedSimpArgs false
namespace Go.Proofs.YtihgdnjkofpgiaaGreatDoor
open Go.Proofs.Tryz
open Go.RowKit Go.Flow Go.Mem Go.Sep
open Go.In
def F1V:AV:= .agg [(.str [102]),(.slu 4114 0 1 4115 1), .nils,(.slu 4346 0 2 4347 2)]
def M1F:List MC:=[⟨4346, .ro,[(.str [97]),(.slu 4149 0 2 4150 2),(.sl 4263 0 1 1),(.str [98]), .nils,(.slu 4340 0 2 4341 2)]⟩,⟨4340, .ro,[(.slu 4296 0 1 4297 1),(.slu 4336 0 2 4337 2)]⟩,⟨4336, .ro,[(.str [107]), .nils, .nils,(.str [103]),(.slu 4328 0 1 4329 1), .nils]⟩,⟨4328, .ro,[(.str [106])]⟩,⟨4296, .ro,[(.str [103]),(.slu 4288 0 1 4289 1), .nils]⟩,⟨4288, .ro,[(.str [105])]⟩,⟨4263, .ro,[(.slu 4260 0 1 4261 1)]⟩,⟨4260, .ro,[(.str [104]),(.slu 4164 0 1 4165 1),(.slu 4255 0 1 4256 1)]⟩,⟨4255, .ro,[(.int .u8 6),(.str [98]),(.str [103]),(.slu 4249 0 1 4250 1), .nils, .nils]⟩,⟨4249, .ro,[(.int .u8 5),(.str [105]),(.int .i64 0), .nils]⟩,⟨4164, .ro,[(.str [105])]⟩,⟨4149, .ro,[(.str [110]),(.int .u8 1),(.int .i64 3),(.str [116]),(.int .u8 3),(.int .i64 0)]⟩,⟨4114, .ro,[(.str [120]),(.bool true)]⟩]
set_option maxRecDepth 1000000 in
theorem NR:(match bR env ZZ 60 70 [.str uM] GL 4096 with|some (v,M,_)=>eqV v (.tup [F1V, .int .i64 0, .int .i64 0])&&thB M1F (roM M)|none=>false)=true:=by kernel_rfl
theorem NS:Dz 70 [.string (fT uM)] gA (fun v Γ'=>∃σ,v=val σ (.tup [F1V, .int .i64 0, .int .i64 0])∧Γ'=[all (mem σ M1F)]):=by
 have h:=NR;split at h
 · rename_i v M k' hc
   rw[aOc]at h;have ev:=fA _ _ h.1;subst ev;have hk:=(Xl (E:=env) IY 60 _ _ _ _ _ _ _ hc (aOd _) (by simp only[Ej,bq];exact⟨trivial,trivial⟩) DW).does z0;simp only[Dm,val]at hk;exact(qR hk h.2 rfl).mono fun u Γ' ⟨σ,_,h1,h2⟩=>⟨σ,h1,h2⟩
 ·cases h
section
variable(σ:Nat→Nat)
def eA:Ex:=⟨5,fT [105],0,none,0,[]⟩
def sA:St:=⟨6,fT [98],fT [103],some ⟨σ 4249,0,none⟩,1+σ 4250,[eA],none,0,[],none,0,[]⟩
def aAx:Hd:=⟨fT [104],some ⟨σ 4164,0,none⟩,1+σ 4165,[fT [105]],some ⟨σ 4255,0,none⟩,1+σ 4256,[sA σ]⟩
def vsA:Vs:=⟨some ⟨σ 4260,0,none⟩,1+σ 4261,[aAx σ]⟩
def cmA:Cm:=⟨fT [97],some ⟨σ 4149,0,none⟩,2+σ 4150,[⟨fT [110],1,3⟩,⟨fT [116],3,0⟩],some ⟨σ 4263,0,none⟩,1,[vsA σ]⟩
def aAy:Hd:=⟨fT [103],some ⟨σ 4288,0,none⟩,1+σ 4289,[fT [105]],none,0,[]⟩
def aAz:Hd:=⟨fT [107],none,0,[],none,0,[]⟩
def aBa:Hd:=⟨fT [103],some ⟨σ 4328,0,none⟩,1+σ 4329,[fT [106]],none,0,[]⟩
def vsB:Vs:=⟨some ⟨σ 4296,0,none⟩,1+σ 4297,[aAy σ]⟩
def vsC:Vs:=⟨some ⟨σ 4336,0,none⟩,2+σ 4337,[aAz,aBa σ]⟩
def cmB:Cm:=⟨fT [98],none,0,[],some ⟨σ 4340,0,none⟩,2+σ 4341,[vsB σ,vsC σ]⟩
def F1:Fl:=⟨fT [102],some ⟨σ 4114,0,none⟩,1+σ 4115,[⟨fT [120],true⟩],none,0,[],some ⟨σ 4346,0,none⟩,2+σ 4347,[cmA σ,cmB σ]⟩
theorem mem1:mem σ M1F=[ros Gu (some ⟨σ 4346,0,none⟩) [cmA σ,cmB σ],ros Fb (some ⟨σ 4340,0,none⟩) [vsB σ,vsC σ],ros Iu (some ⟨σ 4336,0,none⟩) [aAz,aBa σ],ros Da (some ⟨σ 4328,0,none⟩) [fT [106]],ros Iu (some ⟨σ 4296,0,none⟩) [aAy σ],ros Da (some ⟨σ 4288,0,none⟩) [fT [105]],ros Fb (some ⟨σ 4263,0,none⟩) [vsA σ],ros Iu (some ⟨σ 4260,0,none⟩) [aAx σ],ros Bl (some ⟨σ 4255,0,none⟩) [sA σ],ros Bc (some ⟨σ 4249,0,none⟩) [eA],ros Da (some ⟨σ 4164,0,none⟩) [fT [105]],ros He (some ⟨σ 4149,0,none⟩) [⟨fT [110],1,3⟩,⟨fT [116],3,0⟩],ros Gb (some ⟨σ 4114,0,none⟩) [⟨fT [120],true⟩]]:=by
 simp only[mem,M1F,aOw,aPq,ck,Dm,val];rfl
theorem aGf:val σ (.tup [F1V, .int .i64 0, .int .i64 0])= .tuple #[.agg (F1 σ).cells.toArray, .int .i64 0, .int .i64 0]:=by
 simp only[F1V,Dm,val];rfl
theorem aBb:∀c∈(F1 σ).kids eX,c∈ro none []::mem σ M1F:=fun c hc=>by
 rw[mem1];simp only[F1,cmA,cmB,vsA,vsB,vsC,aAx,aAy,aAz,aBa,sA,eA,Fl.kids,Cm.kids,Vs.kids,Hd.kids,Eh,St.kids,Ea,Ex.kids,aPl,List.flatMap_nil,aPi,aNx,aOo,aQp,aQj,aOe,aPh,eX]at hc;rcases hc with rfl|rfl|rfl|rfl|rfl|rfl|rfl|rfl|rfl|rfl|rfl|rfl|rfl|rfl|rfl|rfl|rfl|rfl|rfl|rfl|rfl|rfl|rfl|rfl|rfl|rfl|rfl|rfl|rfl|rfl|rfl|rfl|rfl|rfl|rfl|rfl|rfl|rfl|rfl|rfl
 all_goals first|exact sN (i:=0) rfl|exact sN (i:=1) rfl|exact sN (i:=2) rfl|exact sN (i:=3) rfl|exact sN (i:=4) rfl|exact sN (i:=5) rfl|exact sN (i:=6) rfl|exact sN (i:=7) rfl|exact sN (i:=8) rfl|exact sN (i:=9) rfl|exact sN (i:=10) rfl|exact sN (i:=11) rfl|exact sN (i:=12) rfl|exact sN (i:=13) rfl
theorem aGg:(F1 σ).Cap:=by
 refine⟨⟨by show 1≤1+_;omega,aOd _,by show 2≤2+_;omega⟩,fun c hc=>?_⟩;simp only[F1,aNx,aOe,aPh]at hc;rcases hc with rfl|rfl
 · refine⟨⟨by show 2≤2+_;omega,aOd _⟩,fun v hv=>?_⟩
   simp only[cmA,aNx,aOe,aPh]at hv;subst hv;refine⟨by show 1≤1+_;omega,fun h hh=>?_⟩;simp only[vsA,aNx,aOe,aPh]at hh;subst hh;show 1≤1+_;omega
 · refine⟨⟨aOd _,by show 2≤2+_;omega⟩,fun v hv=>?_⟩
   simp only[cmB,aNx,aOe,aPh]at hv;rcases hv with rfl|rfl
   · refine⟨by show 1≤1+_;omega,fun h hh=>?_⟩
     simp only[vsB,aNx,aOe,aPh]at hh;subst hh;show 1≤1+_;omega
   · refine⟨by show 2≤2+_;omega,fun h hh=>?_⟩
     simp only[vsC,aNx,aOe,aPh]at hh;rcases hh with rfl|rfl
     ·exact aOd _
     ·show 1≤1+_;omega
end
theorem nmI(c:Nat)(h:[c]∈Si):Np (fT [c]):=⟨[c],h,rfl⟩
def pf1:PF:=(F1 fun _=>0).pure
theorem aBc(σ:Nat→Nat):(F1 σ).pure=pf1:=rfl
theorem aMy{σ:Nat→Nat}:(sA σ).pure.low:=⟨by show 6≤10;decide,by show 1≤4;decide,⟨⟨by show 5≤23;decide,by show 0≤2;decide,trivial⟩,trivial⟩,⟨by show 0≤12;decide,trivial⟩,by show 0≤12;decide,trivial⟩
theorem aKl{σ:Nat→Nat}:(sA σ).pure.fine:=
 ⟨⟨by decide,⟨aOk _,by show 1≤4;decide⟩,ok1 ⟨lf0 (.inl ⟨by decide,by decide⟩) (fun _=>nmI 105 (by decide)) (fun h=>(h rfl).elim) (fun h=>by cases h) (fun _=>rfl),by show 1≤8;decide⟩⟩,⟨fun _=>nmI 98 (by decide),fun h=>by cases h⟩,⟨fun _=>nmI 103 (by decide),fun h=>by cases h⟩,⟨fun _=>rfl,fun _=>rfl⟩,trivial,trivial⟩
theorem aBd(σ:Nat→Nat):Mq (F1 σ):=by
 refine⟨nmI 102 (by decide),by show 1≤2;decide,fun x hx=>?_,aOk _,(fun _ h=>nomatch h),by show 1≤2;decide,by show 2≤3;decide,fun c hc=>?_⟩
 ·rw[aNz.1 (show x∈[_]from hx)];exact nmI 120 (by decide)
 · simp only[F1,aNx,aOe,aPh]at hc
   have hempty:∀n,Np n→∀A q ps,(∀p∈ps,Np p)→ps.length≤2→Hd.Good ⟨n,A,q,ps,none,0,[]⟩:=fun n hn A q ps hp hl=>⟨hn,hl,hp,aOk _,trivial,trivial,aOk _,aOk _⟩
   rcases hc with rfl|rfl
   · refine⟨nmI 97 (by decide),by show 2≤5;decide,fun v hv=>?_,aOd _,by show 1≤2;decide,fun v hv=>?_⟩
     · simp only[cmA,aNx,aOe,aPh]at hv
       rcases hv with rfl|rfl
       ·exact⟨nmI 110 (by decide), .inl ⟨rfl,by decide,by decide⟩⟩
       ·exact⟨nmI 116 (by decide), .inr ⟨.inr rfl,rfl⟩⟩
     · rw[aNz.1 (show v∈[_]from hv)]
       refine⟨by show 1≤3;decide,fun h hh=>?_⟩;rw[aNz.1 (show h∈[_]from hh)];exact⟨nmI 104 (by decide),by show 1≤2;decide,fun p hp=>by rw[aNz.1 (show p∈[_]from hp)];exact nmI 105 (by decide),by show 1≤12;decide,
        ⟨aMy,trivial⟩,⟨aKl,trivial⟩,by show 1≤12;decide,by show 1≤4;decide⟩
   · refine⟨nmI 98 (by decide),aOk _,(fun _ h=>nomatch h),by show 1≤2;decide,by show 2≤2;decide,fun v hv=>?_⟩
     simp only[cmB,aNx,aOe,aPh]at hv;rcases hv with rfl|rfl
     · refine⟨by show 1≤3;decide,fun h hh=>?_⟩
       rw[aNz.1 (show h∈[_]from hh)];exact hempty _ (nmI 103 (by decide)) _ _ _ (fun p hp=>by rw[aNz.1 (show p∈[_]from hp)];exact nmI 105 (by decide)) (by show 1≤2;decide)
     · refine⟨by show 2≤3;decide,fun h hh=>?_⟩
       simp only[vsC,aNx,aOe,aPh]at hh;rcases hh with rfl|rfl
       ·exact hempty _ (nmI 107 (by decide)) _ _ _ (fun p hp=>nomatch hp) (by show 0≤2;decide)
       ·exact hempty _ (nmI 103 (by decide)) _ _ _ (fun p hp=>by rw[aNz.1 (show p∈[_]from hp)];exact nmI 106 (by decide)) (by show 1≤2;decide)
end Go.Proofs.YtihgdnjkofpgiaaGreatDoor
