/- Own text. -/
import Derived.Test.YtihgdnjkofpgiaaGreatDoorUo
import Derived.Lib.SlicesCompact
import Derived.Shelf.Sort.Plain
import Derived.Shelf.Slices.CompactI
import Derived.Shelf.Slices.In.SortNone
import Derived.Sort.OwnSortedInts
set_option maxHeartbeats 8000000
set_option maxRecDepth 100000
set_option linter.unusedVariables false
set_option linter.unusedSimpArgs false
namespace Go.Proofs.YtihgdnjkofpgiaaGreatDoor
open Go.RowKit Go.Flow Go.Mem Go.Sep Go.In
def iR(n:Int):List vU:=[iv n]
instance aLx:Enc iR 1:=⟨fun _=>rfl,fun e u hu=>by
 simp only[iR,aNx,aOe,aPh]at hu;rw[hu];rfl⟩
def aEh(_:Unit):List vU:=[nz]
instance aLh:Enc aEh 1:=⟨fun _=>rfl,fun e u hu=>by
 simp only[aEh,aNx,aOe,aPh]at hu;rw[hu];rfl⟩
theorem KI{s:yB}:∀{l:List yB} {i k:Nat},l[i]?=some s→l.Nodup→bi s k l=some (k+i)
 |[],i,k,h,_=>by cases h
 | a::r,0,k,h,_=>by
   have e:a=s:=aOj h;show(if a=s then some k else _)=_;rw[aOn e];rfl
 | a::r,i+1,k,h,hn=>by
   have h':r[i]?=some s:=h;have hm:=sN h';have hn':=List.nodup_cons.1 hn;show(if a=s then some k else bi s (k+1) r)=_;rw[aNy (fun e=>hn'.1 (by rw[e];exact hm)),KI h' hn'.2,Nat.add_right_comm,Nat.add_assoc]
abbrev sZZ:yB:=fT [122,122]
theorem PO{α:Type}(f:Nat→yB)(g:α→yB)(l:List α)(h:∀i x,l[i]?=some x→g x=f i):l.map g=(List.range l.length).map f:=by
 apply List.ext_getElem?;intro i;rw[aOf,aOf];by_cases hi:i<l.length
 · rw[List.getElem?_range hi,gge hi]
   show some (g l[i])=some (f i);rw[h i l[i] (gge hi)]
 ·rw[List.getElem?_eq_none om,List.getElem?_eq_none (by rw[List.length_range];omega)];rfl
section
variable{F:Fl}
theorem aHl(h:Nn F.pure):(F.comps.map Cm.name).Nodup∧sZZ∉F.comps.map Cm.name:=by
 obtain⟨ars,har,hl,hc⟩:=h.comps;have hX:=dD h;have e:=PO nC Cm.name F.comps (fun i x hx=>(hc i x.pure (by show(F.comps.map Cm.pure)[i]?=_;rw[aOf,hx];rfl)).name);rw[e];have h1:=hX.comps1;have h3:=hX.comps;generalize F.comps.length=n at h1 h3⊢;have:n=1∨n=2∨n=3:=om;rcases this with rfl|rfl|rfl<;>decide+kernel
variable{X:FB}
theorem KJ(e:X.F.pure=F.pure):X.F.comps.map Cm.name=F.comps.map Cm.name:=by
 have h1:(X.F.comps.map Cm.pure).map PC.name=(F.comps.map Cm.pure).map PC.name:=by rw[show X.F.comps.map Cm.pure=F.comps.map Cm.pure from aOa PF.comps e]
 rw[aQe,aQe]at h1;exact h1
theorem aCs(e:X.F.pure=F.pure):X.F.comps.length=F.comps.length:=by
 have:=aOa List.length (KJ e);rwa[aNv,aNv]at this
end
theorem PQ(b c:Nat)(s:yB)(k:Nat)(fb:Nat)(X:FB)(G:List Ad)(hG:Lax G):
    Bd Tryz.prog 67 [nv k,pv b,pv c] [ro (some ⟨b,0,none⟩) [pv fb],ro (some ⟨c,0,none⟩) [.string s],all (flk fb X G)] (fun v _=>v= .bool (decide ((cmI X.F (k:Int)).name=s))):=by
 refine Ba Tryz.func67 Tryz.ntmps67 fun w0=>?_;refine Jz 6 ?_;refine Jfw [] [1,100,302,103,4,5] (jP _) ?_;refine Sn ?_;refine Ki rfl (Cq (i:=0) rfl rfl c27 rfl (Ev (A:=some ⟨b,0,none⟩) (o:=0) (k:=1) rfl)) ?_;refine Oo rfl rfl rfl rfl .fc ((fQ fb X G hG (k:Int)).mono fun _ _ h=>h.1) (by show owns (flk fb X G)++[]=[];rw[(Er hG).owns];rfl) (jS (lS 2 rfl) (jP _)) ?_;refine Ki rfl (Cq (i:=1) rfl rfl c9 rfl (Ev (A:=some ⟨c,0,none⟩) (o:=0) (k:=1) rfl)) ?_;refine df rfl (Jb rfl rfl rfl) ?_;refine Jz 4 ?_;refine ak Tryz.results67 ?_;rfl
theorem WN(b c:Nat)(s:yB)(k:Nat)(y:Cm)(fb:Nat)(X:FB)(G:List Ad)(hG:Lax G)(hy:X.F.comps[k]?=some y):Bd Tryz.prog 67 [nv k,pv b,pv c] [ro (some ⟨b,0,none⟩) [pv fb],ro (some ⟨c,0,none⟩) [.string s],all (flk fb X G)] (fun v _=>v= .bool (decide (y.name=s))):=by
 have h:=PQ b c s k fb X G hG;rw[Vo hy]at h;exact h
theorem aCt(b c:Nat)(s:yB)(o:oP Nat)(fb:Nat)(X:FB)(G:List Ad)(hG:Lax G)(hl:X.F.comps.length≤1000)(ho:bi s 0 (X.F.comps.map Cm.name)=o):
    Bd Tryz.prog 64 [nv X.F.comps.length, .func (.func 67) #[] #[pv b,pv c]] [ro (some ⟨b,0,none⟩) [pv fb],ro (some ⟨c,0,none⟩) [.string s],all (flk fb X G)] (fun v _=>v= .tuple #[nv (o.getD 0), .bool o.isSome]):=by
 refine Ba Tryz.func64 Tryz.ntmps64 fun w0=>?_;refine Jz 14 ?_;refine Il (fun u g mz ρ Γ=>∃(k:Nat),ρ=[u 1,u 7,(8,nv k)]∧Γ=[g 0,g 1,g 2]∧mz=X.F.comps.length-k∧(k≤X.F.comps.length)∧(bi s k ((X.F.comps.map Cm.name).drop k)=o)) ⟨⟨0,rfl,rfl,rfl,om,ho⟩,sb⟩ ?_;rintro mz _ _ ⟨k,rfl,rfl,rfl,hk,ho⟩;refine Jz 6 ?_;refine aa rfl ?_ ?_<;>intro k9;obtain⟨y,hy⟩:=ai X.F.comps k om;refine Jz 14 ?_;refine JcV rfl rfl rfl (di (first:=[]) (captured:=[pv b,pv c]) rfl rfl rfl (kc.h 67 rfl)) (WN b c s k y fb X G hG hy) (by show owns (flk fb X G)++[]=[];rw[(Er hG).owns];rfl) (jS (lS 0 rfl) (jS (lS 1 rfl) (jS (lS 2 rfl) (jP _)))) (Jn (Jt (aa rfl (fun k13=>?_) (fun k13=>?_))));refine Jz 13 ?_;refine Ei (.inl rfl) Tryz.results64 rfl rfl ?_;rw[show o=some k from by rw[←ho];exact vI (by rw[aOf,hy,←k13];rfl)];rfl;refine Jz 8 ?_;refine Dc ⟨⟨k+1,rfl,rfl,rfl,om,(by rw[←JM (x:=y.name) (by rw[aOf,hy];rfl) k13];exact ho)⟩,sb⟩;refine Jz 12 ?_;refine Ei (.inl rfl) Tryz.results64 rfl rfl ?_;rw[show o=none from by rw[←ho];exact vJ (by rw[aNv];omega)];rfl
theorem WO(fb:Nat)(X:FB)(G:List Ad)(hG:Lax G)(s:yB)(o:oP Nat)(hl:X.F.comps.length≤1000)(ho:bi s 0 (X.F.comps.map Cm.name)=o):
    Bd Tryz.prog 33 [pv fb, .string s] [all (flk fb X G)] (fun v _=>v= .tuple #[nv (o.getD 0), .bool o.isSome]):=by
 refine Ba Tryz.func33 Tryz.ntmps33 fun w0=>?_;refine Js (cz (Jbo fun b2=>?_));refine Jbo fun b3=>?_;refine Jz 5 ?_;refine Kj (Sm (Kj (Sm (cz (Jr (Cq (i:=1) rfl rfl c27 rfl (Ev (A:=some ⟨b2,0,none⟩) (o:=0) (k:=1) rfl)) ?_)))));refine Jqf (Sb fb X G hG) (by show owns (flk fb X G)++[]=[];rw[(Er hG).owns];rfl) (jS (lS 2 rfl) (jP _)) ?_;rintro _ _ ⟨rfl,rfl⟩;refine⟨rfl,?_⟩;refine Jr (Rd.makeFunc rfl rfl rfl) ?_;refine Jvf (aCt b2 b3 s o fb X G hG hl ho) (by show owns (flk fb X G)++[]=[];rw[(Er hG).owns];rfl) (jS (lS 1 rfl) (jS (lS 0 rfl) (jS (lS 2 rfl) (jP _)))) ?_;refine Jz 7 ?_;refine Ei (.inl rfl) Tryz.results33 rfl rfl ?_;rfl
mutual
def PS.snd(to:yB):PS→Bool
 |⟨k,a,_,_,t,e⟩=>(decide (k=6)&&decide (a=to))||Fu to t||Fu to e
def Fu(to:yB):List PS→Bool
 |[]=>false
 |s::r=>PS.snd to s||Fu to r
end
mutual
def Qt(f:yB→Nat):PS→List Nat
 |⟨k,a,_,_,t,e⟩=>(if k=6 then [f a]else [])++Du f t++Du f e
def Du(f:yB→Nat):List PS→List Nat
 |[]=>[]
 |s::r=>Qt f s++Du f r
end
mutual
def PS.sok(N:List yB):PS→Prop
 |⟨k,a,_,_,t,e⟩=>(k=6→a∈N)∧Yz N t∧Yz N e
def Yz(N:List yB):List PS→Prop
 |[]=>True
 |s::r=>PS.sok N s∧Yz N r
end
theorem Oa{N:List yB}:∀{l:List PS},(∀s∈l,PS.sok N s)→Yz N l
 |[],_=>trivial
 |s::r,h=>⟨h s (aNu ..),Oa fun x hx=>h x (aNs _ hx)⟩
theorem StE.sok{c:Ct}{np d:Nat}{s:PS}{N:List yB}(hN:∀to ar,c.ars[to]?=some ar→nC to∈N)(h:StE c np d s):PS.sok N s:=by
 induction h with
 |setB d e h=>exact⟨fun e=>(by cases e),trivial,trivial⟩
 |setX d k e hk h=>exact⟨fun e=>(by cases e),trivial,trivial⟩
 |put d a b ht ha hb=>exact⟨fun e=>(by cases e),trivial,trivial⟩
 |del d a ht ha=>exact⟨fun e=>(by cases e),trivial,trivial⟩
 |ife d e t l h ht hl iht ihl=>exact⟨fun e=>(by cases e),Oa iht,Oa ihl⟩
 |whl d e t h ht iht=>exact⟨fun e=>(by cases e),Oa iht,trivial⟩
 |send d to h ar l ha hh hl=>exact⟨fun _=>hN to ar ha,trivial,trivial⟩
 |after d h ar e l ha hh he hl=>exact⟨fun e=>(by cases e),trivial,trivial⟩
 |store d a b l ha hb hl ihl=>exact⟨fun e=>(by cases e),trivial,Oa ihl⟩
 |fetch d k e l hk h hl ihl=>exact⟨fun e=>(by cases e),trivial,Oa ihl⟩
 |stop d=>exact⟨fun e=>(by cases e),trivial,trivial⟩
def fI(N:List yB)(s:yB):Nat:=(bi s 0 N).getD 0
theorem WP{N:List yB}{s:yB}{i:Nat}(h:N[i]?=some s)(hn:N.Nodup):fI N s=i:=by
 unfold fI;rw[KI h hn,aOz];rfl
section
variable{N:List yB}{j:Nat}{nm:yB}
mutual
theorem aCu(hn:N.Nodup)(hj:N[j]?=some nm):∀s:PS,PS.sok N s→(j∈Qt (fI N) s↔PS.snd nm s=true)
 | ⟨k,a,_,_,t,e⟩,h=>by
   have it:=Yb hn hj t h.2.1;have ie:=Yb hn hj e h.2.2;show j∈((if k=6 then [fI N a]else [])++Du (fI N) t++Du (fI N) e)↔((decide (k=6)&&decide (a=nm))||Fu nm t||Fu nm e)=true;have h0:(j∈if k=6 then [fI N a]else [])↔(k=6∧a=nm):=by
    by_cases hk:k=6
    · rw[aOn hk,aNz]
      obtain⟨i,hi⟩:=aPr (h.1 hk);rw[WP hi hn];constructor
      ·rintro rfl;exact⟨hk,aOj (hi.symm.trans hj)⟩
      ·rintro⟨_,rfl⟩;exact(WP hj hn).symm.trans (WP hi hn)
    ·rw[aNy hk];simp[hk]
   rw[aPi,aPi,it,ie,h0,aPu,aPu,aOc,aPf,aPf]
theorem Yb(hn:N.Nodup)(hj:N[j]?=some nm):∀l:List PS,Yz N l→(j∈Du (fI N) l↔Fu nm l=true)
 |[],_=>by show j∈[]↔false=true;simp
 | s::r,h=>by
   have h1:=aCu hn hj s h.1;have h2:=Yb hn hj r h.2;show j∈Qt (fI N) s++Du (fI N) r↔(PS.snd nm s||Fu nm r)=true;rw[aPi,h1,h2,aPu]
end
end
mutual
theorem aHm{N:List yB}(h0:0<N.length):∀s:PS,∀j∈Qt (fI N) s,j<N.length
 | ⟨k, a, _, _,t,e⟩,j,h=>by
   have h':j∈((if k=6 then [fI N a]else [])++Du (fI N) t++Du (fI N) e):=h;rw[aPi,aPi]at h';rcases h' with(h'|h')|h'
   · split at h'
     · rw [aNz]at h'
       rw[h'];unfold fI;cases hx:bi a 0 N with
       |none=>exact h0
       | some i=>
         have :∀(l:List yB) (k i:Nat),bi a k l=some i→k≤i∧i<k+l.length:=by
          intro l
          induction l with
          |nil=>intro k i h;cases h
          | cons b r ih=>
            intro k i h;have h2:(if b=a then some k else bi a (k+1) r)=some i:=h;split at h2
            · obtain rfl:=aOj h2
              exact⟨aOd _,by rw[ag];omega⟩
            · have:=ih (k+1) i h2
              rw[ag];omega
         have:=(this N 0 i hx).2;show i<N.length;omega
     ·cases h'
   ·exact jM h0 t j h'
   ·exact jM h0 e j h'
theorem jM{N:List yB}(h0:0<N.length):∀l:List PS,∀j∈Du (fI N) l,j<N.length
 |[],j,h=>by cases h
 | s::r,j,h=>by
   have h':j∈Qt (fI N) s++Du (fI N) r:=h;rcases aPi.1 h' with h'|h'
   ·exact aHm h0 s j h'
   ·exact jM h0 r j h'
end
theorem aLi(n:Nat):decide (((n:Nat):Int)=6)=decide (n=6):=by rw[Bool.eq_iff_iff,aPf,aPf];omega
theorem oD(s:yB):∀l m:List PS,Fu s (l++m)=(Fu s l||Fu s m)
 |[],m=>by show Fu s m=(false||_);rw[Bool.false_or]
 |a::r,m=>by show(PS.snd s a||Fu s (r++m))=((PS.snd s a||Fu s r)||_);rw[oD s r m,Bool.or_assoc]
theorem Sc(s:yB)(x:St):PS.snd s x.pure=((decide (x.kind=6)&&decide (x.name=s))||Fu s (Ai x.thn)||Fu s (Ai x.els)):=by rw[Ir x];rfl
theorem oF{s:yB}{l:List St}{k:Nat}{x:St}(hx:l[k]?=some x):Fu s (Ai (l.take (k+1)))=(Fu s (Ai (l.take k))||PS.snd s x.pure):=by
 have htk:Ai (l.take (k+1))=Ai (l.take k)++[x.pure]:=by rw[Cj hx,Dg,aOb,←Dg];rfl
 rw[htk,oD];show _=_;congr 1;show(PS.snd s x.pure||false)=_;rw[Bool.or_false]
theorem oG{s:yB}{l:List St}{k:Nat}{x:St}(hx:l[k]?=some x)(h:PS.snd s x.pure=true):Fu s (Ai l)=true:=by
 have h1:Ai l=Ai (l.take (k+1))++Ai (l.drop (k+1)):=by rw[Dg,Dg,Dg,←aOb,aPn]
 rw[h1,oD,oF hx,h,Bool.or_true,Bool.true_or]
abbrev vT(s:yB)(l:List St):Prop:=∀(A:OA) (q:Nat),l.length≤12→Cu (Ai l)→Bd Tryz.prog 63 [vs A l q, .string s] [all (lsG Cy Ht A l)] (fun v Γ'=>v= .bool (Fu s (Ai l))∧Γ'=[])
theorem AZ(s:yB)(l:List St)(ih:∀x∈l,(vT s x.thn)∧(vT s x.els))(A:OA)(q:Nat)(hl:l.length≤12)(hlow:Cu (Ai l)):
    Bd Tryz.prog 63 [vs A l q, .string s] [all (lsG Cy Ht A l)] (fun v Γ'=>v= .bool (Fu s (Ai l))∧Γ'=[]):=by
 refine Ba Tryz.func63 Tryz.ntmps63 fun w0=>?_;refine Jz 7 ?_;refine bv 0 rfl (ros Ht A l) rfl (aNu ..) (Jz 7 ?_);refine Il (fun u g mz ρ Γ=>∃(k:Nat),ρ=[u 0,u 1,u 7,u 8,(9,nv k)]∧Γ=[g 0,g 1]∧mz=l.length-k∧(k≤l.length)∧(Fu s (Ai (l.take k))=false)) ⟨⟨0,rfl,rfl,rfl,om,rfl⟩,sb⟩ ?_;rintro mz _ _ ⟨k,rfl,rfl,rfl,hk,hS⟩;refine Jz 6 ?_;refine aa rfl ?_ ?_<;>intro k10;obtain⟨x,hx⟩:=ai l k om;obtain⟨hxk,⟨hxe,hxl⟩,⟨hxt,hxtl⟩,hxn,hxnl⟩:=Ii (Hy hlow (sN hx));refine Bv 1 rfl (lsG Cy Ht x.Ae x.els) (Co _ _ _ _) (fun c hc=>Hw hx c (Fe x c hc)) (Bv 2 rfl (lsG Cy Ht x.At x.thn) (Co _ _ _ _) (fun c hc=>Hw hx c (Gn x c hc)) (Jz 8 ?_));refine ae fun b6=>?_;refine Jz 7 ?_;refine Jr (Cs (v':= .bool (decide (x.kind=6))) (by rw[aLi]) (Rd.eql rfl rfl rfl)) ?_;refine JgP ?_ ?_<;>intro g16;refine Jz 3 ?_;refine Jr (Jb rfl rfl rfl) ?_;refine JpT ?_;refine JgP ?_ ?_<;>intro g22;refine Jz 25 ?_;refine Df (Cr (Cb (Ci (Cg (ak Tryz.results63 ?_)))));have hr:Fu s (Ai l)=true:=oG hx (by rw[Sc];simp_all);rw[hr];exact⟨rfl,rfl⟩;refine Jz 3 ?_;refine Jqf ((ih x (sN hx)).1 x.At x.qt hxt hxtl) (by show owns (lsG Cy Ht x.At x.thn)++[]=[];rw[(Co Cy Ht x.At x.thn).owns];rfl) (jS (lS 1 rfl) (jP _)) ?_;rintro _ _ ⟨rfl,rfl⟩;refine⟨rfl,?_⟩;refine JpF ?_;refine JgB ?_ ?_<;>intro g28;refine Jz 19 ?_;refine Df (Cr (Cb (Ci (Cg (ak Tryz.results63 ?_)))));have hr:Fu s (Ai l)=true:=oG hx (by rw[Sc];simp_all);rw[hr];exact⟨rfl,rfl⟩;refine Jz 3 ?_;refine Jqf ((ih x (sN hx)).2 x.Ae x.qe hxn hxnl) (by show owns (lsG Cy Ht x.Ae x.els)++[]=[];rw[(Co Cy Ht x.Ae x.els).owns];rfl) (jS (lS 2 rfl) (jP _)) ?_;rintro _ _ ⟨rfl,rfl⟩;refine⟨rfl,?_⟩;refine Jz 3 ?_;refine Ee rfl ?_ ?_<;>intro k33;refine Jz 11 ?_;refine Df (Cr (Cb (Ci (Cg (ak Tryz.results63 ?_)))));have hr:Fu s (Ai l)=true:=oG hx (by rw[Sc];simp_all);rw[hr];exact⟨rfl,rfl⟩;refine Jz 8 ?_;refine Bp ⟨⟨k+1,rfl,rfl,rfl,om,(by rw[oF hx,hS,Sc];simp_all)⟩,sb⟩;refine Jz 9 ?_;refine Jqf ((ih x (sN hx)).1 x.At x.qt hxt hxtl) (by show owns (lsG Cy Ht x.At x.thn)++[]=[];rw[(Co Cy Ht x.At x.thn).owns];rfl) (jS (lS 1 rfl) (jP _)) ?_;rintro _ _ ⟨rfl,rfl⟩;refine⟨rfl,?_⟩;refine JpF ?_;refine JgB ?_ ?_<;>intro g28;refine Jz 19 ?_;refine Df (Cr (Cb (Ci (Cg (ak Tryz.results63 ?_)))));have hr:Fu s (Ai l)=true:=oG hx (by rw[Sc];simp_all);rw[hr];exact⟨rfl,rfl⟩;refine Jz 3 ?_;refine Jqf ((ih x (sN hx)).2 x.Ae x.qe hxn hxnl) (by show owns (lsG Cy Ht x.Ae x.els)++[]=[];rw[(Co Cy Ht x.Ae x.els).owns];rfl) (jS (lS 2 rfl) (jP _)) ?_;rintro _ _ ⟨rfl,rfl⟩;refine⟨rfl,?_⟩;refine Jz 3 ?_;refine Ee rfl ?_ ?_<;>intro k33;refine Jz 11 ?_;refine Df (Cr (Cb (Ci (Cg (ak Tryz.results63 ?_)))));have hr:Fu s (Ai l)=true:=oG hx (by rw[Sc];simp_all);rw[hr];exact⟨rfl,rfl⟩;refine Jz 8 ?_;refine Bp ⟨⟨k+1,rfl,rfl,rfl,om,(by rw[oF hx,hS,Sc];simp_all)⟩,sb⟩;refine Jz 11 ?_;refine Ci (Cg (ak Tryz.results63 ?_));have hr:Fu s (Ai l)=false:=by rw[show k=l.length by omega,List.take_length]at hS;exact hS
 rw[hr];exact⟨rfl,rfl⟩
theorem gB(s:yB):∀l:List St,vT s l
 |l,A,q,h1,h2=>AZ s l (fun x hx=>⟨gB s x.thn,gB s x.els⟩) A q h1 h2
termination_by l=>SizeOf.sizeOf l
decreasing_by
 all_goals
  have h:=aPb hx;have:SizeOf.sizeOf x.thn<SizeOf.sizeOf x∧SizeOf.sizeOf x.els<SizeOf.sizeOf x:=by cases x;simp only[St.mk.sizeOf_spec];omega
  omega
theorem WQ(F:Fl)(a b:Int)(hbad:a<0∨(F.comps.length:Int)≤a∨b<0∨(F.comps.length:Int)≤b):
    Bd Tryz.prog 25 [.agg (cF F []).toArray,iv a,iv b] [all (F.kids eR)] (fun v Γ'=>v=iv 0∧Γ'=[]):=by
 refine Ba Tryz.func25 Tryz.ntmps25 fun w0=>?_;refine Js (cz (Jbo fun b3=>?_));refine Jz 8 ?_;refine JgP ?_ ?_<;>intro g11;refine Jz 27 ?_;refine Ci (Cg (ak Tryz.results25 ?_));exact⟨rfl,rfl⟩;refine Jz 6 ?_;refine JgP ?_ ?_<;>intro g18;refine Jz 20 ?_;refine Ci (Cg (ak Tryz.results25 ?_));exact⟨rfl,rfl⟩;refine Jz 3 ?_;refine JgP ?_ ?_<;>intro g22;refine Jz 16 ?_;refine Ci (Cg (ak Tryz.results25 ?_));exact⟨rfl,rfl⟩;refine Jz 8 ?_;refine aa rfl ?_ ?_<;>intro k28;refine Jz 7 ?_;refine Ci (Cg (ak Tryz.results25 ?_));exact⟨rfl,rfl⟩;exact aOx hbad om
theorem WR(F:Fl)(k:Nat)(x:Cm)(hx:F.comps[k]?=some x)(j:Nat)(z:Cm)(hz:F.comps[j]?=some z)(hll:F.links.length≤1000):
    Bd Tryz.prog 25 [.agg (cF F []).toArray,nv k,nv j] [all (F.kids eR)] (fun v Γ'=>v=iv (Ya x.name z.name F.links)∧Γ'=[]):=by
 have hkl:k<F.comps.length:=(aNr.1 hx).1;have hjl:j<F.comps.length:=(aNr.1 hz).1;refine Ba Tryz.func25 Tryz.ntmps25 fun w0=>?_;refine Js (cz (Jbo fun b3=>?_));refine Jz 8 ?_;refine JgP ?_ ?_<;>intro g11
 first|exact aOx c11 om|exact aOx k11 om|exact aOx g11 om
 refine Jz 6 ?_;refine JgP ?_ ?_<;>intro g18
 first|exact aOx c18 om|exact aOx k18 om|exact aOx g18 om
 refine Jz 3 ?_;refine JgP ?_ ?_<;>intro g22
 first|exact aOx c22 om|exact aOx k22 om|exact aOx g22 om
 refine Jz 8 ?_;refine aa rfl ?_ ?_<;>intro k28
 first|exact aOx c28 om|exact aOx k28 om|exact aOx g28 om
 refine Jz 4 ?_;refine bv 1 rfl (ros Gu F.Ac F.comps) rfl (Gj (k:=eR)) (bv 2 rfl (ros Jj F.Al F.links) rfl (Ml (k:=eR)) (Jz 8 ?_));refine Bw (fun s g mz ρ Γ=>∃(m:Nat),ρ=[s 1,s 2,s 3,s 30,s 31,(32,nv m)]∧Γ=[g 3,g 1,g 0,g 2]∧mz=F.links.length-m∧(m≤F.links.length)∧(Ya x.name z.name F.links=Ya x.name z.name (F.links.drop m))) ⟨⟨0,rfl,rfl,rfl,om,rfl⟩,sb⟩ ?_;rintro mz _ _ ⟨m,rfl,rfl,rfl,hm,hS⟩;refine Jz 6 ?_;refine aa rfl ?_ ?_<;>intro k33;obtain⟨y,hy⟩:=ai F.links m om;refine Jz 8 ?_;refine ae fun b8=>?_;refine Jz 4 ?_;refine Jfw [] [0,2,4,101,103,105,6,107,8,9,10,12,14,111,113,115,16,117,18,19] (jP _) ?_;refine Jz 8 ?_;refine df rfl (Jb rfl rfl rfl) ?_;refine Wq rfl rfl rfl rfl (dn rfl rfl) (fun g45=>?_) (fun g45=>?_);refine Jz 8 ?_;refine df rfl (Jb rfl rfl rfl) ?_;refine Jz 3 ?_;refine aa rfl ?_ ?_<;>intro k55;refine Jz 13 ?_;refine Df (Cr (Cb (Ci (Cg (ak Tryz.results25 ?_)))));have hr:Ya x.name z.name F.links=y.lat:=by rw[hS];exact AL hy (by simp_all) (by simp_all)
 rw[hr];exact⟨rfl,rfl⟩;refine Jz 8 ?_;refine Bp ⟨⟨m+1,rfl,rfl,rfl,om,(by rw[hS,Yy hy (fun h=>by simp_all)])⟩,sb⟩;refine Jz 21 ?_;refine Bp ⟨⟨m+1,rfl,rfl,rfl,om,(by rw[hS,Yy hy (fun h=>by simp_all)])⟩,sb⟩;refine Jz 11 ?_;refine Cr (Cb (Ci (Cg (ak Tryz.results25 ?_))));have hr:Ya x.name z.name F.links=1:=by rw[hS,aPz om];rfl
 rw[hr];exact⟨rfl,rfl⟩
theorem KL(F:Fl)(hB:PFB F.pure)(a b:Int):Bd Tryz.prog 25 [.agg (cF F []).toArray,iv a,iv b] [all (F.kids eR)] (fun r Γ'=>r=iv (iQ F.pure a b)∧Γ'=[]):=by
 have hl:F.pure.comps.length=F.comps.length:=aNv ..;by_cases h:a<0∨(F.comps.length:Int)≤a∨b<0∨(F.comps.length:Int)≤b
 · rw[show iQ F.pure a b=0 by unfold iQ;rw[aOn om]]
   exact WQ F a b h
 · rcases Ng F.comps a with h1|⟨k,x,rfl,hx⟩
   ·omega
   rcases Ng F.comps b with h1|⟨j,z,rfl,hz⟩
   ·omega
   rw[show iQ F.pure (k:Int) (j:Int)=Ya x.name z.name F.links by unfold iQ;rw[aNy om,←dU,←dU,Vo hx,Vo hz];rfl];exact WR F k x hx j z hz hB.links
def WS(s:yB)(v:Vs):Bool:=v.l.any fun h=>Fu s (Ai h.body)
def oH(s:yB)(x:Cm):Bool:=x.vers.any (WS s)
theorem BB{α:Type}{f:α→Bool}{l:List α}{k:Nat}{y:α}(h:l[k]?=some y):(l.take (k+1)).any f=((l.take k).any f||f y):=by rw[Cj h,List.any_append];simp
theorem WT{α:Type}{f:α→Bool}{l:List α}{k:Nat}{y:α}(h:l[k]?=some y)(e:f y=true):l.any f=true:=List.any_eq_true.2 ⟨y,sN h,e⟩
theorem GA(F:Fl)(k:Nat)(x:Cm)(hx:F.comps[k]?=some x)(j:Nat)(z:Cm)(hz:F.comps[j]?=some z)(hcl:F.comps.length≤3)(hvn:x.vers.length≤2)(hvs:∀v∈x.vers,v.l.length≤3∧∀h∈v.l,h.body.length≤12∧Cu (Ai h.body)):
    Bd Tryz.prog 27 [.agg (cF F []).toArray,nv k,nv j] [all (F.kids eR)] (fun v Γ'=>v= .bool (oH z.name x)∧Γ'=[]):=by
 have hkl:k<F.comps.length:=(aNr.1 hx).1;have hjl:j<F.comps.length:=(aNr.1 hz).1;refine Ba Tryz.func27 Tryz.ntmps27 fun w0=>?_;refine Js (cz (Jbo fun b3=>?_));refine Jz 5 ?_;refine bv 1 rfl (ros Gu F.Ac F.comps) rfl (Gj (k:=eR)) (bv 2 rfl (ros Fb x.An x.vers) rfl (Dh hx _ (Ij (k:=eR))) (Jz 12 ?_));refine Bw (fun s g mz ρ Γ=>∃(i:Nat),ρ=[s 1,s 2,s 3,s 16,s 17,(18,nv i)]∧Γ=[g 3,g 1,g 0,g 2]∧mz=x.vers.length-i∧(i≤x.vers.length)∧((x.vers.take i).any (WS z.name)=false)) ⟨⟨0,rfl,rfl,rfl,om,rfl⟩,sb⟩ ?_;rintro mz _ _ ⟨i,rfl,rfl,rfl,hi,hV⟩;refine Jz 6 ?_;refine aa rfl ?_ ?_<;>intro k19;obtain⟨v,hv⟩:=ai x.vers i om;obtain⟨hvl,hvh⟩:=hvs v (sN hv);refine Jz 19 ?_;refine bv 0 rfl (ros Iu v.A v.l) rfl (Dh hx _ (Gw hv _ Qs)) (Bw (fun s g mz ρ Γ=>∃(m:Nat),ρ=[s 1,s 2,s 3,s 16,s 17,s 18,s 22,s 23,(24,nv m)]∧Γ=[g 1,g 2,g 3,g 4,g 0]∧mz=v.l.length-m∧(m≤v.l.length)∧((v.l.take m).any (fun h=>Fu z.name (Ai h.body))=false)) ⟨⟨0,rfl,rfl,rfl,om,rfl⟩,sb⟩ ?_);rintro mz _ _ ⟨m,rfl,rfl,rfl,hm,hM⟩;refine Jz 6 ?_;refine aa rfl ?_ ?_<;>intro k25;obtain⟨h,hh⟩:=ai v.l m om;obtain⟨hbl,hblow⟩:=hvh h (sN hh);refine Jz 8 ?_;refine ae fun b10=>?_;refine Jz 4 ?_;refine Bv 1 rfl (lsG Cy Ht h.Ab h.body) (Co _ _ _ _) ((fun c hc=>Dh hx _ (Gw hv _ (Px hh _ (Nf (k:=eR) _ hc))))) (Jfw [box b10 [.string h.name,vs h.Ap h.ps h.qp,vs h.Ab h.body h.qb] 114,box b3 (cF F []) 32,ros Gu F.Ac F.comps] [0,1,2,3,4,105,6,7,408] (jS (lS 1 rfl) (jS (lS 5 rfl) (jS (lS 3 rfl) (jP _)))) ?_);refine Jz 8 ?_;refine Dx rfl rfl rfl rfl rfl .fc (gB z.name h.body h.Ab h.qb hbl hblow) (by show owns (lsG Cy Ht h.Ab h.body)++[]=[];rw[(Co Cy Ht h.Ab h.body).owns];rfl) (jS (lS 0 rfl) (jP _)) ?_;rintro _ _ ⟨rfl,rfl⟩;refine⟨rfl,?_⟩;refine Jz 2 ?_;refine Ee rfl ?_ ?_<;>intro k36;refine Jz 15 ?_;refine Jq (Gl (Df (Cr (Cb (Ci (Cg (ak Tryz.results27 ?_)))))));have hr:oH z.name x=true:=WT hv (show WS z.name v=true from WT hh (by simpa using k36));rw[hr];exact⟨rfl,rfl⟩;refine Jz 8 ?_;refine Bp ⟨⟨m+1,rfl,rfl,rfl,om,(by rw[BB hh,hM];simpa using k36)⟩,sb⟩;refine Jz 11 ?_;refine Bp ⟨⟨i+1,rfl,rfl,rfl,om,(by rw[BB hv,hV,show WS z.name v=false by rw[aOq om]at hM;exact hM];rfl)⟩,sb⟩;refine Jz 11 ?_;refine Cr (Cb (Ci (Cg (ak Tryz.results27 ?_))));have hr:oH z.name x=false:=by rw[aOq om]at hV;exact hV
 rw[hr];exact⟨rfl,rfl⟩
theorem aLj(n:Nat):decide (((n:Nat):Int)=6)=decide (n=6):=by rw[Bool.eq_iff_iff,aPf,aPf];omega
theorem BC(f:yB→Nat):∀l m:List PS,Du f (l++m)=Du f l++Du f m
 |[],m=>rfl
 |a::r,m=>by show Qt f a++Du f (r++m)=(Qt f a++Du f r)++_;rw[BC f r m,aOt]
theorem BD(f:yB→Nat)(x:St):Qt f x.pure=(if x.kind=6 then [f x.name]else [])++Du f (Ai x.thn)++Du f (Ai x.els):=by rw[Ir x];rfl
theorem BF{f:yB→Nat}{l:List St}{k:Nat}{x:St}(hx:l[k]?=some x):Du f (Ai (l.take (k+1)))=Du f (Ai (l.take k))++Qt f x.pure:=by
 have htk:Ai (l.take (k+1))=Ai (l.take k)++[x.pure]:=by rw[Cj hx,Dg,aOb,←Dg];rfl
 rw[htk,BC];congr 1;show Qt f x.pure++[]=_;rw[aOo]
mutual
theorem aCv(f:yB→Nat):∀s:PS,(Qt f s).length≤PS.cnt s
 | ⟨k,a,_,_,t,e⟩=>by
   show((if k=6 then [f a]else [])++Du f t++Du f e).length≤1+Be t+Be e;have h1:=Sd f t;have h2:=Sd f e;rw[aj,aj];split
   ·show 1+_+_≤_;omega
   ·show 0+_+_≤_;omega
theorem Sd(f:yB→Nat):∀l:List PS,(Du f l).length≤Be l
 |[]=>aOd _
 | s::r=>by
   show(Qt f s++Du f r).length≤PS.cnt s+Be r;have h1:=aCv f s;have h2:=Sd f r;rw[aj];omega
end
theorem WU{l:List St}{k:Nat}{x:St}(hx:l[k]?=some x):Be (Ai (l.take (k+1)))=Be (Ai (l.take k))+(1+Be (Ai x.thn)+Be (Ai x.els)):=by
 have htk:Ai (l.take (k+1))=Ai (l.take k)++[x.pure]:=by rw[Cj hx,Dg,aOb,←Dg];rfl
 rw[htk,Kr];show _+(PS.cnt x.pure+0)=_;rw[Ir x];rfl
theorem iG{l:List St}(k:Nat):Be (Ai (l.take k))≤Be (Ai l):=by
 have h1:Ai l=Ai (l.take k)++Ai (l.drop k):=by rw[Dg,Dg,Dg,←aOb,aPn]
 rw[h1,Kr];omega
theorem PR(fb:Nat)(X:FB)(G:List Ad)(hG:Lax G)(s:yB)(hl:X.F.comps.length≤1000):Bd Tryz.prog 33 [pv fb, .string s] [all (flk fb X G)] (fun v _=>v= .tuple #[nv (fI (X.F.comps.map Cm.name) s), .bool (bi s 0 (X.F.comps.map Cm.name)).isSome]):=WO fb X G hG s _ hl rfl
abbrev WV(fb:Nat)(X:FB)(G:List Ad)(l:List St):Prop:=∀(A:OA) (q:Nat) (O:List Nat) (Ab:OA) (qb:Nat),l.length≤12→Cu (Ai l)→O.length+Be (Ai l)≤1000→Bd Tryz.prog 60 [pv fb,vs A O q,vs Ab l qb] [all (flk fb X G),rows Pn 3 1 A q O,all (lsG Bc Bl Ab l)] (fun v Γ'=>∃(A':OA) (q':Nat),v= .slice A' (O++Du (fI (X.F.comps.map Cm.name)) (Ai l)).length q'∧Γ'=[rows Pn 3 1 A' q' (O++Du (fI (X.F.comps.map Cm.name)) (Ai l))])
theorem PT(fb:Nat)(X:FB)(G:List Ad)(hG:Lax G)(hcl:X.F.comps.length≤1000)(l:List St)(ih:∀x∈l,(WV fb X G x.thn)∧(WV fb X G x.els))(A:OA)(q:Nat)(O:List Nat)(Ab:OA)(qb:Nat)(hl:l.length≤12)(hlow:Cu (Ai l))(hb:O.length+Be (Ai l)≤1000):
    Bd Tryz.prog 60 [pv fb,vs A O q,vs Ab l qb] [all (flk fb X G),rows Pn 3 1 A q O,all (lsG Bc Bl Ab l)] (fun v Γ'=>∃(A':OA) (q':Nat),v= .slice A' (O++Du (fI (X.F.comps.map Cm.name)) (Ai l)).length q'∧Γ'=[rows Pn 3 1 A' q' (O++Du (fI (X.F.comps.map Cm.name)) (Ai l))]):=by
 refine Ba Tryz.func60 Tryz.ntmps60 fun w0=>?_;refine Jz 7 ?_;refine bv 2 rfl (ros Bl Ab l) rfl (aNu ..) (Jz 7 ?_);refine Bw (fun s g mz ρ Γ=>∃(A1:OA) (q1:Nat) (O1:List Nat) (k:Nat),ρ=[s 0,(1,vs A1 O1 q1),s 11,s 12,(13,nv k)]∧Γ=[g 1,rows Pn 3 1 A1 q1 O1,g 0,g 3]∧mz=l.length-k∧(k≤l.length)∧(O1=O++Du (fI (X.F.comps.map Cm.name)) (Ai (l.take k)))) ⟨⟨A,q,O,0,rfl,rfl,rfl,om,((aOo O).symm)⟩,sb⟩ ?_;rintro mz _ _ ⟨A1,q1,O1,k,rfl,rfl,rfl,hk,hO⟩;have hO1l:O1.length≤O.length+Be (Ai (l.take k)):=by rw[hO,aj];have:=Sd (fI (X.F.comps.map Cm.name)) (Ai (l.take k));omega
 have hkl:=iG (l:=l) k;refine Jz 6 ?_;refine aa rfl ?_ ?_<;>intro k14;obtain⟨x,hx⟩:=ai l k om;obtain⟨hxk,⟨hxe,hxl⟩,⟨hxt,hxtl⟩,hxn,hxnl⟩:=Ii (Hy hlow (sN hx));have hcx:=WU hx;have hcl2:=iG (l:=l) (k+1);have hrt:=Sd (fI (X.F.comps.map Cm.name)) (Ai x.thn);have hre:=Sd (fI (X.F.comps.map Cm.name)) (Ai x.els);refine Jz 8 ?_;refine ae fun b8=>?_;refine Jz 8 ?_;refine Jr (Cs (v':= .bool (decide (x.kind=6))) (by rw[aLj]) (Rd.eql rfl rfl rfl)) ?_;refine Jn (Jt (aa rfl (fun k19=>?_) (fun k19=>?_)));have h19:x.kind=6:=by first|simpa using k19|simpa using c19
 refine Jz 5 ?_;refine Jvf (PR fb X G hG x.name hcl) (by show owns (flk fb X G)++[]=[];rw[(Er hG).owns];rfl) (jS (lS 1 rfl) (jP _)) ?_;refine Jz 10 ?_;refine Ew [nv ((fI (X.F.comps.map Cm.name)) x.name)] fun b29=>?_;refine Jge rfl rfl rfl (Bz bW (i:=3) (j:=0) (el:=((fI (X.F.comps.map Cm.name)) x.name)) rfl s57 rfl rfl rfl rfl rfl om om) ?_;rintro _ _ ⟨A30,q30,rfl,rfl⟩;refine Jz 3 ?_;refine Bv 5 rfl (lsG Bc Bl x.Ae x.els) (Co _ _ _ _) (fun c hc=>Hw hx c (Fe x c hc)) (Bv 6 rfl (lsG Bc Bl x.At x.thn) (Co _ _ _ _) (fun c hc=>Hw hx c (Gn x c hc)) (Qb 4 rfl (show owns (flk fb X G)=[]from(Er hG).owns) (Qb 0 rfl (show owns (flk fb X G)=[]from(Er hG).owns) (Jfw [box b8 (Bl x) 212] [0,1,2,3,4,6,7,505,508,9] (jS (lS 5 rfl) (jP _)) ?_))));refine Jz 7 ?_;refine Dl [0,6,1] ((ih x (sN hx)).1 A30 q30 (O1++[((fI (X.F.comps.map Cm.name)) x.name)]) x.At x.qt hxt hxtl om) ?_;rintro _ _ ⟨At2,qt2,rfl,rfl⟩;refine⟨jS (lS 4 rfl) (jP _),?_⟩;refine Dl [1,0,0] ((ih x (sN hx)).2 At2 qt2 ((O1++[((fI (X.F.comps.map Cm.name)) x.name)])++Du (fI (X.F.comps.map Cm.name)) (Ai x.thn)) x.Ae x.qe hxn hxnl om) ?_;rintro _ _ ⟨At2_2,qt2_2,rfl,rfl⟩;refine⟨jS (lS 2 rfl) (jP _),?_⟩;refine Jz 9 ?_;refine Bp ⟨⟨At2_2,qt2_2,(((O1++[((fI (X.F.comps.map Cm.name)) x.name)])++Du (fI (X.F.comps.map Cm.name)) (Ai x.thn))++Du (fI (X.F.comps.map Cm.name)) (Ai x.els)),k+1,rfl,rfl,rfl,om,(by rw[hO,BF hx,BD,aOn h19];simp only[aOt,aQj])⟩,sb⟩;have h19:¬x.kind=6:=by first|simpa using k19|simpa using c19
 refine Jsp (Jt (Bv 4 rfl (lsG Bc Bl x.Ae x.els) (Co _ _ _ _) (fun c hc=>Hw hx c (Fe x c hc)) (Bv 5 rfl (lsG Bc Bl x.At x.thn) (Co _ _ _ _) (fun c hc=>Hw hx c (Gn x c hc)) (Qb 3 rfl (show owns (flk fb X G)=[]from(Er hG).owns) (Qb 0 rfl (show owns (flk fb X G)=[]from(Er hG).owns) (Jfw [box b8 (Bl x) 212] [0,1,2,3,4,6,7,505,508,9] (jS (lS 4 rfl) (jP _)) ?_))))));refine Jz 7 ?_;refine Dl [0,5,1] ((ih x (sN hx)).1 A1 q1 O1 x.At x.qt hxt hxtl om) ?_;rintro _ _ ⟨At2,qt2,rfl,rfl⟩;refine⟨jS (lS 3 rfl) (jP _),?_⟩;refine Dl [1,0,0] ((ih x (sN hx)).2 At2 qt2 (O1++Du (fI (X.F.comps.map Cm.name)) (Ai x.thn)) x.Ae x.qe hxn hxnl om) ?_;rintro _ _ ⟨At2_2,qt2_2,rfl,rfl⟩;refine⟨jS (lS 1 rfl) (jP _),?_⟩;refine Jz 9 ?_;refine Bp ⟨⟨At2_2,qt2_2,((O1++Du (fI (X.F.comps.map Cm.name)) (Ai x.thn))++Du (fI (X.F.comps.map Cm.name)) (Ai x.els)),k+1,rfl,rfl,rfl,om,(by rw[hO,BF hx,BD,aNy h19];simp only[aOt,aQj])⟩,sb⟩;refine Jz 12 ?_;refine Cr (Cb (Cg (ak Tryz.results60 ?_)));have hr:O1=O++Du (fI (X.F.comps.map Cm.name)) (Ai l):=by rw[hO,aOq om]
 subst hr;exact⟨_,_,rfl,rfl⟩
theorem vV(fb:Nat)(X:FB)(G:List Ad)(hG:Lax G)(hcl:X.F.comps.length≤1000):∀l:List St,WV fb X G l
 |l,A,q,O,Ab,qb,h1,h2,h3=>PT fb X G hG hcl l (fun x hx=>⟨vV fb X G hG hcl x.thn,vV fb X G hG hcl x.els⟩) A q O Ab qb h1 h2 h3
termination_by l=>SizeOf.sizeOf l
decreasing_by
 all_goals
  have h:=aPb hx;have:SizeOf.sizeOf x.thn<SizeOf.sizeOf x∧SizeOf.sizeOf x.els<SizeOf.sizeOf x:=by cases x;simp only[St.mk.sizeOf_spec];omega
  omega
open Go.Lib
theorem iH:∀{l m:List Int},l.Pairwise (·< ·)→m.Pairwise (·< ·)→(∀x,x∈l↔x∈m)→l=m
 |[],[],_,_,_=>rfl
 |[],b::m,_,_,h=>by have:=(h b).2 (aNu ..);cases this
 |a::l,[],_,_,h=>by have:=(h a).1 (aNu ..);cases this
 | a ::l,b::m,hl,hm,h=>by
   obtain⟨ha,hl'⟩:=List.pairwise_cons.1 hl;obtain⟨hb,hm'⟩:=List.pairwise_cons.1 hm;have e:a=b:=by
    rcases aNx.1 ((h a).1 (aNu ..))with e|e
    ·exact e
    rcases aNx.1 ((h b).2 (aNu ..))with e2|e2
    ·exact e2.symm
    · have h1:=hb a e
      have h2:=ha b e2;omega
   subst e;rw[iH hl' hm' fun x=>?_];constructor
   · intro hx
     rcases aNx.1 ((h x).1 (aNs _ hx))with e|e
     ·subst e;have:=ha x hx;omega
     ·exact e
   · intro hx
     rcases aNx.1 ((h x).2 (aNs _ hx))with e|e
     ·subst e;have:=hb x hx;omega
     ·exact e
theorem BG(d:Array Int)(hs:∀i j,i≤j→j<d.size→d[i]! ≤d[j]!):∀m,m≤d.size→(compactUpTo d m).Pairwise (·< ·)∧∀x,x∈compactUpTo d m↔ ∃j,j<m∧d[j]! =x
 | 0,_=>by
   refine⟨List.Pairwise.nil,fun x=>⟨fun h=>(by cases h),fun⟨j,h,_⟩=>om⟩⟩
 | m + 1,hm=>by
   obtain⟨h1,h2⟩:=BG d hs m om;rw[compactUpTo_succ];by_cases hk:keeps d m=true
   · rw [aOn hk]
     have hk':m=0∨d[m]! ≠d[m-1]! :=by unfold keeps at hk;simpa using hk
     constructor
     · rw[List.pairwise_append]
       refine⟨h1,List.pairwise_singleton _ _,fun x hx y hy=>?_⟩;rw[aNz]at hy;obtain⟨j,hj,rfl⟩:=(h2 x).1 hx;rw[hy];have a1:=hs j (m-1) om om;have a2:=hs (m-1) m om om;rcases hk' with e|e
       ·omega
       ·omega
     · intro x
       rw[aPi,aNz,h2];constructor
       · rintro(⟨j,hj,e⟩|e)
         ·exact⟨j,by omega,e⟩
         ·exact⟨m,by omega,e.symm⟩
       · rintro⟨j,hj,e⟩
         by_cases hjm:j=m
         ·subst hjm;exact .inr e.symm
         ·exact .inl ⟨j,by omega,e⟩
   · rw[aNy hk,aOo]
     have hk':m≠0∧d[m]! =d[m-1]! :=by unfold keeps at hk;simpa using hk
     refine⟨h1,fun x=>?_⟩;rw[h2];constructor
     ·rintro⟨j,hj,e⟩;exact⟨j,by omega,e⟩
     · rintro⟨j,hj,e⟩
       by_cases hjm:j=m
       ·subst hjm;exact⟨j-1,by omega,by rw[←hk'.2];exact e⟩
       ·exact⟨j,by omega,e⟩
theorem BH(O:List Nat)(n:Nat)(p:Nat→Bool)(hO:∀x∈O,x<n)(hp:∀k,k<n→(p k=true↔k∈O)):
    compact ((O.map fun k:Nat=>(k:Int)).mergeSort fun x y=>decide (x≤y))=((List.range n).filter p).map fun k:Nat=>(k:Int):=by
 have hS:((O.map fun k:Nat=>(k:Int)).mergeSort fun x y=>decide (x≤y)).Pairwise (fun a b=>decide (a≤b)=true):=List.pairwise_mergeSort (fun a b c h1 h2=>by simp only[aPf]at*;omega) (fun a b=>by simp only[aPu,aPf];omega) _;have hm:∀x,x∈((O.map fun k:Nat=>(k:Int)).mergeSort fun x y=>decide (x≤y))↔x∈O.map fun k:Nat=>(k:Int):=fun x=>List.mem_mergeSort;generalize ((O.map fun k:Nat=>(k:Int)).mergeSort fun x y=>decide (x≤y))=S at hS hm⊢;have hsort:∀i j,i≤j→j<S.toArray.size→S.toArray[i]! ≤S.toArray[j]! :=fun i j hij hj=>by
  have hj':j<S.length:=by simpa using hj
  have hi':i<S.length:=om;by_cases e:i=j
  ·subst e;exact Int.le_refl _
  · have:=(List.pairwise_iff_getElem.1 hS) i j hi' hj' om
    simpa[hi',hj']using this
 obtain⟨h1,h2⟩:=BG S.toArray hsort S.length sm;refine iH h1 ?_ fun x=>?_
 · rw[List.pairwise_map]
   exact(List.Pairwise.filter _ List.pairwise_lt_range).imp (fun h=>by omega)
 · show x∈compactUpTo S.toArray S.length↔_
   rw[h2];constructor
   · rintro⟨j,hj,e⟩
     have hx:x∈S:=by rw[←e];simp[hj]
     obtain⟨k,hk,rfl⟩:=aOm.1 ((hm x).1 hx);exact aOm.2 ⟨k,aQm.2 ⟨List.mem_range.2 (hO k hk),(hp k (hO k hk)).2 hk⟩,rfl⟩
   · intro hx
     obtain⟨k,hk,rfl⟩:=aOm.1 hx;obtain⟨hk1,hk2⟩:=aQm.1 hk;have hkO:=(hp k (List.mem_range.1 hk1)).1 hk2;obtain⟨j,hj⟩:=aPr ((hm _).2 (aOm.2 ⟨k,hkO,rfl⟩));have hjl:=(aNr.1 hj).1;refine⟨j,hjl,?_⟩;have:=(aNr.1 hj).2;simpa[hjl]using this
open Go.RowKit Go.Flow Go.Mem Go.Sep Go.In
def BI(f:yB→Nat)(v:Vs):List Nat:=v.l.flatMap fun h=>Du f (Ai h.body)
def iI(f:yB→Nat)(x:Cm):List Nat:=x.vers.flatMap (BI f)
def srt(O:List Nat):List Int:=(O.map fun k:Nat=>(k:Int)).mergeSort fun x y=>decide (x≤y)
theorem jN(O:List Nat):(srt O).length=O.length:=by unfold srt;rw[List.length_mergeSort,aNv]
abbrev WW:Prop:=∀(A:OA) (q:Nat) (O:List Nat),O.length≤1000→Bd Tryz.prog 61 [vs A O q] [rows Pn 3 1 A q O] (fun v Γ'=>v= .tuple #[]∧Γ'=[rows iR 3 1 A q (srt O)])
abbrev WX:Prop:=∀(A:OA) (q:Nat) (S:List Int),S.length≤1000→Bd Tryz.prog 62 [vs A S q] [rows iR 3 1 A q S] (fun v Γ'=>v= .slice A (Lib.compact S).length q∧Γ'=[rows iR 3 1 A q (Lib.compact S)])
theorem sF{α β:Type}{f:α→List β}{l:List α}{k:Nat}{y:α}(h:l[k]?=some y):(l.take (k+1)).flatMap f=(l.take k).flatMap f++f y:=by rw[Cj h,aPm];simp
theorem GD(fb:Nat)(X:FB)(G:List Ad)(hG:Lax G)(hS:WW)(hC:WX)(hcl:X.F.comps.length≤1000)(k:Nat)(x:Cm)(hx:X.F.comps[k]?=some x)(hvn:x.vers.length≤2)(hvs:∀v∈x.vers,v.l.length≤3∧∀h∈v.l,h.body.length≤12∧Cu (Ai h.body)∧Be (Ai h.body)≤12):
    Bd Tryz.prog 26 [pv fb,nv k] [all (flk fb X G)] (fun v Γ'=>∃(B:OA) (p:Nat),v= .slice B (Lib.compact (srt (iI (fI (X.F.comps.map Cm.name)) x))).length p∧Γ'=[rows iR 3 1 B p (Lib.compact (srt (iI (fI (X.F.comps.map Cm.name)) x)))]):=by
 refine Ba Tryz.func26 Tryz.ntmps26 fun w0=>?_;refine Jz 15 ?_;refine Jqf (Vp fb X G hG k x hx) (by show owns (flk fb X G)++[]=[];rw[(Er hG).owns];rfl) (jS (lS 0 rfl) (jP _)) ?_;rintro _ _ ⟨rfl,rfl⟩;refine⟨rfl,?_⟩;refine Jr (Yh (vs:=(cX x [])) rfl Tryz.underlying107 rfl Tryz.underlying105 rfl rfl rfl) ?_;refine Jz 5 ?_;refine bv 0 rfl (ros Fb x.An x.vers) rfl (iE _ (Dh hx _ (Ij (k:=eX)))) (Eb (Pn) 3 1 (Bw (fun s g mz ρ Γ=>∃(A0:OA) (q0:Nat) (O0:List Nat) (i:Nat),ρ=[s 0,(5,vs A0 O0 q0),s 13,s 14,(15,nv i)]∧Γ=[g 2,rows Pn 3 1 A0 q0 O0,g 1]∧mz=x.vers.length-i∧(i≤x.vers.length)∧(O0=(x.vers.take i).flatMap (BI (fI (X.F.comps.map Cm.name))))∧(O0.length≤36*i)) ⟨⟨none,0,([]:List Nat),0,rfl,rfl,rfl,om,rfl,(aOd _)⟩,sb⟩ ?_));rintro mz _ _ ⟨A0,q0,O0,i,rfl,rfl,rfl,hi,hO0,hl0⟩;refine Jz 6 ?_;refine aa rfl ?_ ?_<;>intro k16;obtain⟨v,hv⟩:=ai x.vers i om;obtain⟨hvl,hvh⟩:=hvs v (sN hv);refine Jz 8 ?_;refine ae fun b7=>?_;refine Jz 12 ?_;refine bv 1 rfl (ros Iu v.A v.l) rfl (iE _ (Dh hx _ (Gw hv _ Qs))) (Bw (fun s g mz ρ Γ=>∃(A1:OA) (q1:Nat) (O1:List Nat) (m:Nat),ρ=[s 0,(5,vs A1 O1 q1),s 13,s 14,s 15,s 20,s 21,(22,nv m)]∧Γ=[g 2,rows Pn 3 1 A1 q1 O1,g 4,g 0]∧mz=v.l.length-m∧(m≤v.l.length)∧(O1=O0++(v.l.take m).flatMap (fun h=>Du (fI (X.F.comps.map Cm.name)) (Ai h.body)))∧(O1.length≤36*i+12*m)) ⟨⟨A0,q0,O0,0,rfl,rfl,rfl,om,((aOo O0).symm),om⟩,sb⟩ ?_);rintro mz _ _ ⟨A1,q1,O1,m,rfl,rfl,rfl,hm,hO1,hl1⟩;refine Jz 6 ?_;refine aa rfl ?_ ?_<;>intro k23;obtain⟨h,hh⟩:=ai v.l m om;obtain⟨hbl,hblow,hbc⟩:=hvh h (sN hh);have hrl:=Sd (fI (X.F.comps.map Cm.name)) (Ai h.body);refine Jz 8 ?_;refine ae fun b9=>?_;refine Jz 3 ?_;refine Bv 1 rfl (lsG Bc Bl h.Ab h.body) (Co _ _ _ _) ((fun c hc=>iE _ (Dh hx _ (Gw hv _ (Px hh _ (Nf (k:=eX) _ hc)))))) (Qb 2 rfl (show owns (flk fb X G)=[]from(Er hG).owns) (Jz 5 ?_));refine af [0,3,0] (vV fb X G hG hcl h.body A1 q1 O1 h.Ab h.qb hbl hblow om) ?_;rintro _ _ ⟨At2,qt2,rfl,rfl⟩;refine Jz 9 ?_;refine Bp ⟨⟨At2,qt2,(O1++Du (fI (X.F.comps.map Cm.name)) (Ai h.body)),m+1,rfl,rfl,rfl,om,(by rw[hO1,sF hh,aOt]),(by rw[aj];omega)⟩,sb⟩;refine Jz 11 ?_;refine Bp ⟨⟨A1,q1,O1,i+1,rfl,rfl,rfl,om,(by rw[hO1,hO0,sF hv,aOq (l:=v.l) om];rfl),om⟩,sb⟩;refine Jz 8 ?_;refine af [1] (hS A0 q0 O0 om) ?_;rintro _ _ ⟨rfl,rfl⟩;refine Jz 5 ?_;refine af [0] ((show Bd Tryz.prog 62 [vs A0 O0 q0] _ _ from by have h:=hC A0 q0 (srt O0) (by rw[jN];omega);unfold vs at h;rw[jN]at h;exact h)) ?_;rintro _ _ ⟨rfl,rfl⟩;refine Jz 4 ?_;refine Cb (Ci (ak Tryz.results26 ?_));have hr:O0=iI (fI (X.F.comps.map Cm.name)) x:=by rw[hO0,aOq om];rfl
 subst hr;exact⟨_,_,rfl,rfl⟩
def WY(f:yB→Nat)(vs:List (List PH)):List Nat:=vs.flatMap fun v=>v.flatMap fun h=>Du f h.body
theorem KM(f:yB→Nat)(x:Cm):iI f x=WY f (x.vers.map Vs.pure):=by
 unfold iI WY;rw[List.flatMap_map];congr 1;funext v;show BI f v=(v.l.map Hd.pure).flatMap _;rw[List.flatMap_map];rfl
theorem PW{n j:Nat}{p:Nat→Bool}(hj:j<n)(hp:p j=true):((List.range n).filter p)[((List.range j).filter p).length]?=some j:=by
 have h1:List.range n=List.range j++(j::(List.range n).drop (j+1)):=by
  conv=>lhs;rw[←aPn j (List.range n)]
  rw[List.take_range,Nat.min_eq_left om,aPy (by rw[List.length_range];exact hj),List.getElem_range]
 conv=>lhs;rw[h1]
 rw[List.filter_append,List.filter_cons_of_pos hp,aPj (aOd _),aQf];rfl
theorem GG{j:Nat}{p:Nat→Bool}(hp:p j=true):((List.range (j+1)).filter p).length=((List.range j).filter p).length+1:=by
 rw[List.range_succ,List.filter_append,List.filter_cons_of_pos hp,aj];rfl
theorem BJ{j:Nat}{p:Nat→Bool}(hp:¬p j=true):((List.range (j+1)).filter p).length=((List.range j).filter p).length:=by
 rw[List.range_succ,List.filter_append,List.filter_cons_of_neg hp,List.filter_nil,aOo]
def vW(F:Fl)(j:Nat):yB:=match F.comps[j]? with|some z=>z.name|none=>nE
theorem jO{F:Fl}{j:Nat}{z:Cm}(h:F.comps[j]?=some z):vW F j=z.name:=by unfold vW;rw[h]
theorem sG{F:Fl}(h:Nn F.pure){ci:Nat}{c:Cm}(hc:F.comps[ci]?=some c){v:Vs}(hv:v∈c.vers){x:Hd}(hx:x∈v.l):Yz (F.comps.map Cm.name) (Ai x.body):=by
 obtain⟨ct,ar,ok⟩:=h.okC (Yw hc);have gv:=ok.vers v.pure (aOm.2 ⟨v,hv,rfl⟩);obtain⟨k,hk⟩:=aPr hx;have gh:=gv.2.2 k x.pure (by show(v.l.map Hd.pure)[k]?=_;rw[aOf,hk];rfl);obtain⟨np,_,_,hst⟩:=gh.ps;have hst:∀s∈Ai x.body,StE ct np 3 s:=hst;refine Oa fun s hs=>(hst s hs).sok fun to a ha=>?_;have h1:=ok.cix to (aNr.1 ha).1;have e:F.pure.comps.map PC.name=F.comps.map Cm.name:=by show(F.comps.map Cm.pure).map PC.name=_;rw[aQe];rfl
 rw[e]at h1;exact Classical.byContradiction fun hn=>by rw[Kt hn]at h1;cases h1
theorem GH{X:FB}{F:Fl}(e:X.F.pure=F.pure)(hG:Nn F.pure){k:Nat}{x x':Cm}(hx:F.comps[k]?=some x)(hp:x'.pure=x.pure):
    Lib.compact (srt (iI (fI (X.F.comps.map Cm.name)) x'))=((List.range F.comps.length).filter fun j=>oH (vW F j) x).map fun j:Nat=>(j:Int):=by
 have hn:=(aHl hG).1;have hl1:=(dD hG).comps1;have hlen:(F.comps.map Cm.name).length=F.comps.length:=aNv ..;rw[KJ e,KM,show x'.vers.map Vs.pure=x.vers.map Vs.pure from aOa PC.vers hp,←KM];unfold srt;refine BH _ _ _ (fun j hj=>?_) (fun j hj=>?_)
 · unfold iI at hj
   obtain⟨v,hv,hj⟩:=aOs.1 hj;unfold BI at hj;obtain⟨y,hy,hj⟩:=aOs.1 hj;have:=jM (N:=F.comps.map Cm.name) om _ j hj;omega
 · have hz:=gge hj
   rw[jO hz];have hN:(F.comps.map Cm.name)[j]?=some F.comps[j].name:=by rw[aOf,hz];rfl
   unfold oH iI;rw[List.any_eq_true,aOs];constructor
   · rintro⟨v,hv,h⟩
     unfold WS at h;obtain⟨y,hy,h⟩:=List.any_eq_true.1 h;exact⟨v,hv,aOs.2 ⟨y,hy,(Yb hn hN _ (sG hG hx hv hy)).2 h⟩⟩
   · rintro⟨v,hv,h⟩
     unfold BI at h;obtain⟨y,hy,h⟩:=aOs.1 h;exact⟨v,hv,List.any_eq_true.2 ⟨y,hy,(Yb hn hN _ (sG hG hx hv hy)).1 h⟩⟩
end Go.Proofs.YtihgdnjkofpgiaaGreatDoor
namespace Go.Proofs
open Go.Shelf
def gD:Go.Shelf.Ren:=⟨fun|189=>61|125=>102|257=>101|128=>151|129=>152|294=>142|295=>143|296=>144|297=>145|298=>146|299=>147|216=>148|300=>149|301=>150|328=>191|329=>192|330=>193|331=>194|332=>195|215=>196|343=>229|n=>n,fun|28=>57|3=>3|46=>215|0=>0|51=>282|53=>268|4=>4|183=>275|182=>274|131=>58|5=>5|9=>9|218=>325|222=>329|228=>357|229=>358|n=>n,fun|n=>n⟩
theorem dV:Go.Proofs.Lays.n189 Tryz.prog gD:={
 mixed:=by kernel_rfl
 f125:=Tryz.func102.trans (congrArg some (by kernel_rfl))
 f128:=Tryz.func151.trans (congrArg some (by kernel_rfl))
 f129:=Tryz.func152.trans (congrArg some (by kernel_rfl))
 f189:=Tryz.func61.trans (congrArg some (by kernel_rfl))
 f215:=Tryz.func196.trans (congrArg some (by kernel_rfl))
 f216:=Tryz.func148.trans (congrArg some (by kernel_rfl))
 f257:=Tryz.func101.trans (congrArg some (by kernel_rfl))
 f294:=Tryz.func142.trans (congrArg some (by kernel_rfl))
 f295:=Tryz.func143.trans (congrArg some (by kernel_rfl))
 f296:=Tryz.func144.trans (congrArg some (by kernel_rfl))
 f297:=Tryz.func145.trans (congrArg some (by kernel_rfl))
 f298:=Tryz.func146.trans (congrArg some (by kernel_rfl))
 f299:=Tryz.func147.trans (congrArg some (by kernel_rfl))
 f300:=Tryz.func149.trans (congrArg some (by kernel_rfl))
 f301:=Tryz.func150.trans (congrArg some (by kernel_rfl))
 f328:=Tryz.func191.trans (congrArg some (by kernel_rfl))
 f329:=Tryz.func192.trans (congrArg some (by kernel_rfl))
 f330:=Tryz.func193.trans (congrArg some (by kernel_rfl))
 f331:=Tryz.func194.trans (congrArg some (by kernel_rfl))
 f332:=Tryz.func195.trans (congrArg some (by kernel_rfl))
 f343:=Tryz.func229.trans (congrArg some (by kernel_rfl))
 t0:=Tryz.underlying0
 a0:=Tryz.isAgg0
 z0:=Tryz.sizeOf0
 v0:=Tryz.zeroValue0
 t3:=Tryz.underlying3
 a3:=Tryz.isAgg3
 z3:=Tryz.sizeOf3
 v3:=Tryz.zeroValue3
 t4:=Tryz.underlying4
 a4:=Tryz.isAgg4
 z4:=Tryz.sizeOf4
 v4:=Tryz.zeroValue4
 t5:=Tryz.underlying5
 a5:=Tryz.isAgg5
 z5:=Tryz.sizeOf5
 v5:=Tryz.zeroValue5
 t9:=Tryz.underlying9
 a9:=Tryz.isAgg9
 z9:=Tryz.sizeOf9
 v9:=Tryz.zeroValue9
 t28:=Tryz.underlying57
 a28:=Tryz.isAgg57
 z28:=Tryz.sizeOf57
 v28:=Tryz.zeroValue57
 t46:=Tryz.underlying215
 a46:=Tryz.isAgg215
 z46:=Tryz.sizeOf215
 v46:=Tryz.zeroValue215
 t51:=Tryz.underlying282
 a51:=Tryz.isAgg282
 z51:=Tryz.sizeOf282
 v51:=Tryz.zeroValue282
 t53:=Tryz.underlying268
 a53:=Tryz.isAgg268
 z53:=Tryz.sizeOf268
 v53:=Tryz.zeroValue268
 t131:=Tryz.underlying58
 a131:=Tryz.isAgg58
 z131:=Tryz.sizeOf58
 v131:=Tryz.zeroValue58
 t182:=Tryz.underlying274
 a182:=Tryz.isAgg274
 z182:=Tryz.sizeOf274
 v182:=Tryz.zeroValue274
 t183:=Tryz.underlying275
 a183:=Tryz.isAgg275
 z183:=Tryz.sizeOf275
 v183:=Tryz.zeroValue275
 t218:=Tryz.underlying325
 a218:=Tryz.isAgg325
 z218:=Tryz.sizeOf325
 v218:=Tryz.zeroValue325
 t222:=Tryz.underlying329
 a222:=Tryz.isAgg329
 z222:=Tryz.sizeOf329
 v222:=Tryz.zeroValue329
 t228:=Tryz.underlying357
 a228:=Tryz.isAgg357
 z228:=Tryz.sizeOf357
 v228:=Tryz.zeroValue357
 t229:=Tryz.underlying358
 a229:=Tryz.isAgg358
 z229:=Tryz.sizeOf358
 v229:=Tryz.zeroValue358}
open Go.Sort Go.RowKit in
theorem Tryz.slices_Sort_int(blk off cap:Nat)(zs:List Int)(w:World)(hH:Holds (Value.int .i64) w blk off zs.toArray)(hblk:blk<w.heap.size)(hsz:zs.length<4611686018427387904):
    Calls Tryz.prog 61 #[.slice (some ⟨blk,off,none⟩) zs.length cap] w fun e w'=>
     e= .returned (.tuple #[])∧∃n os,w'=grow (putRow (Value.int .i64) (Sort.ahead w n) blk off (zs.mergeSort fun x y=>decide (x≤y)).toArray) os:=Any.slices_Sort_int dV blk off cap zs w hH hblk hsz
def aL:Go.Shelf.Ren:=⟨fun|20=>62|n=>n,fun|22=>57|3=>3|4=>4|0=>0|n=>n,fun|n=>n⟩
theorem Yc:Go.Proofs.Lays2.n20 Tryz.prog aL:={
 mixed:=by kernel_rfl
 f20:=Tryz.func62.trans (congrArg some (by kernel_rfl))
 t0:=Tryz.underlying0
 a0:=Tryz.isAgg0
 z0:=Tryz.sizeOf0
 v0:=Tryz.zeroValue0
 t3:=Tryz.underlying3
 a3:=Tryz.isAgg3
 z3:=Tryz.sizeOf3
 v3:=Tryz.zeroValue3
 t4:=Tryz.underlying4
 a4:=Tryz.isAgg4
 z4:=Tryz.sizeOf4
 v4:=Tryz.zeroValue4
 t22:=Tryz.underlying57
 a22:=Tryz.isAgg57
 z22:=Tryz.sizeOf57
 v22:=Tryz.zeroValue57
 i3:=by kernel_rfl}
open Go.RowKit Go.Lib Go.Sort in
theorem Tryz.slices_Compact_int(blk off cap:Nat)(zs:List Int)(w:World)(hH:Holds (Value.int .i64) w blk off zs.toArray)(hsz:zs.length≤9223372036854775807)(hcap:zs.length≤cap):
    Calls Tryz.prog 62 #[.slice (some ⟨blk,off,none⟩) zs.length cap] w fun e w'=>e= .returned (.slice (some ⟨blk,off,none⟩) (Lib.compact zs).length cap)∧∃q,w'=putRow (Value.int .i64) (Sort.ahead w q) blk off (Lib.compact zs++List.replicate (zs.length-(Lib.compact zs).length) 0).toArray:=Any.slices_Compact_int Yc blk off cap zs w hH hsz hcap
open Go.RowKit Go.Lib Go.Sort in
theorem Tryz.slices_Compact_int_empty(a:Option Addr)(cap:Nat)(w:World):
    Calls Tryz.prog 62 #[.slice a 0 cap] w fun e w'=>e= .returned (.slice a 0 cap)∧w'=w:=Any.slices_Compact_int_empty Yc a cap w
open Go.RowKit Go.Sort in
theorem Tryz.slices_Sort_int_none(p:Option Addr)(cap:Nat)(w:World):
    Calls Tryz.prog 61 #[.slice p 0 cap] w fun e w'=>e= .returned (.tuple #[])∧w'=w:=Any.slices_Sort_int_none dV p cap w
end Go.Proofs
namespace Go.Proofs.YtihgdnjkofpgiaaGreatDoor
open Go.RowKit Go.Flow Go.Mem Go.Sep Go.Sort
theorem oJ(S:List Int):S.flatMap iR=S.map (Value.int .i64):=by
 induction S with
 |nil=>rfl
 |cons a r ih=>show iR a++r.flatMap iR=_;rw[ih];rfl
theorem WZ(O:List Nat):O.flatMap Pn=(O.map fun k:Nat=>(k:Int)).map (Value.int .i64):=by
 induction O with
 |nil=>rfl
 |cons a r ih=>show Pn a++r.flatMap Pn=_;rw[ih];rfl
theorem dW{w:wD}{g n:Nat}{os:Array Obj}(d:Array Int):Fv (fun i=>i=g) w (grow (putRow (Value.int .i64) (Sort.ahead w n) g 0 d) os):=by
 have h:=grownBy_sortedI (w:=w) (g:=g) (n:=n) (os:=os) d;refine⟨rfl,rfl,rfl,by simp[grow,putRow,mapBlock,Sort.ahead],fun i hi hn=>?_,Nat.le_add_right _ _⟩;rw[heap_grow_old _ _ (by simpa using hi)];simp[putRow,mapBlock,Sort.ahead,Array.getElem?_modify,show¬g=i from fun e=>hn e.symm]
theorem BK{w w':wD}{Γ1 Γ2:Ad}{g:Nat}(h1:Γ1.owns=[g])(h2:Γ2.owns=[g])(h3:Γ2.reads=[])(hk:Fv (fun i=>i=g) w w')(hh:Γ2.holds w'):Db [Γ1] [Γ2] w w':=by
 have e1:owns [Γ1]=[g]:=by show Γ1.owns++[]=_;rw[h1];rfl
 have e2:owns [Γ2]=[g]:=by show Γ2.owns++[]=_;rw[h2];rfl
 have e3:reads [Γ2]=[]:=by show Γ2.reads++[]=_;rw[h3];rfl
 refine⟨⟨fun c hc=>by rw[aNz.1 hc];exact hh,by rw[e2];exact List.pairwise_singleton _ _,by rw[e3];exact fun _ h=>by cases h⟩,hk.mono fun i _ e=>by rw[e1,e];exact aNz.2 rfl,fun b hb _=>by rw[e1,←e2];exact hb,fun b hb _=>by rw[e3]at hb;cases hb⟩
theorem aHn:WW:=fun A q O hO w hs=>by
 unfold vs
 have hrow:w.ownsRow 0 3 1 (vs A O q) O.length (O.flatMap Pn):=hs.each _ (aNu ..);rcases hrow.2 with⟨hv,hn⟩|⟨g,cap,cur,hv,hb,hg,h1,h2,h3,h4⟩
 · simp only[Value.slice.injEq]at hv
   obtain⟨rfl,_,rfl⟩:=hv;obtain rfl:O=[]:=aQd hn;refine(Tryz.slices_Sort_int_none none 0 w).mono fun e w' h=>?_;obtain⟨rfl,rfl⟩:=h;exact⟨_,[rows Pn 3 1 none 0 ([]:List Nat)],rfl,⟨rfl,by rw[show srt []=[] by simp[srt]];rfl⟩,Db.refl hs⟩
 · simp only[Value.slice.injEq]at hv
   obtain⟨rfl,_,rfl⟩:=hv;have hz:(O.map fun k:Nat=>(k:Int)).length=O.length:=aNv ..;have ht:cur.toList.take (O.map fun k:Nat=>(k:Int)).length=(O.map fun k:Nat=>(k:Int)).map (Value.int .i64):=by rw[hz,←WZ,←h4,Nat.mul_one]
   have hc:=Tryz.slices_Sort_int g 0 q (O.map fun k:Nat=>(k:Int)) w (holds_of_blockI hg ht) (aQh.1 hg).1 om;rw[hz]at hc;refine hc.mono fun e w' h=>?_;obtain⟨rfl,n,os,rfl⟩:=h;refine⟨_,_,rfl,⟨rfl,rfl⟩,BK (g:=g) rfl rfl rfl (dW _) ?_⟩;have ho:=ownsRow_sortedI (ss:=O.map fun k:Nat=>(k:Int)) (ts:=srt O) (n:=n) (os:=os) (by rw[jN,hz]) (aOk g) hg (by rw[hz];exact h1) h2 h3;show World.ownsRow _ 0 3 1 (.slice _ (srt O).length q) (srt O).length ((srt O).flatMap iR);rw[jN,oJ,←hz];exact ho
theorem GI(zs:List Int):(Lib.compact zs).length≤zs.length:=by
 unfold Lib.compact Lib.compactUpTo;rw[aNv];exact aPx (List.length_filter_le _ _) (by rw[List.length_range];exact aOd _)
theorem aHo:WX:=fun A q S hS w hs=>by
 unfold vs
 have hrow:w.ownsRow 0 3 1 (vs A S q) S.length (S.flatMap iR):=hs.each _ (aNu ..);rcases hrow.2 with⟨hv,hn⟩|⟨g,cap,cur,hv,hb,hg,h1,h2,h3,h4⟩
 · simp only[Value.slice.injEq]at hv
   obtain⟨rfl,_,rfl⟩:=hv;obtain rfl:S=[]:=aQd hn;refine(Tryz.slices_Compact_int_empty none 0 w).mono fun e w' h=>?_;obtain⟨rfl,rfl⟩:=h;exact⟨_,_,rfl,⟨rfl,rfl⟩,Db.refl hs⟩
 · simp only[Value.slice.injEq]at hv
   obtain⟨rfl,_,rfl⟩:=hv;have ht:cur.toList.take S.length=S.map (Value.int .i64):=by rw[←oJ,←h4,Nat.mul_one]
   have hc:=Tryz.slices_Compact_int g 0 q S w (holds_of_blockI hg ht) om h1;refine hc.mono fun e w' h=>?_;obtain⟨rfl,n,rfl⟩:=h;have hcl:=GI S;have hl:(Lib.compact S++List.replicate (S.length-(Lib.compact S).length) 0).length=S.length:=by rw[aj,aPc];omega
   have ew:putRow (Value.int .i64) (Sort.ahead w n) g 0 (Lib.compact S++List.replicate (S.length-(Lib.compact S).length) 0).toArray=grow (putRow (Value.int .i64) (Sort.ahead w n) g 0 (Lib.compact S++List.replicate (S.length-(Lib.compact S).length) 0).toArray) #[]:=(grow_empty _).symm;rw[ew];refine⟨_,_,rfl,⟨rfl,rfl⟩,BK (g:=g) rfl rfl rfl (dW _) ?_⟩;show World.ownsRow _ 0 3 1 (.slice _ (Lib.compact S).length q) (Lib.compact S).length ((Lib.compact S).flatMap iR);rw[oJ];refine⟨by rw[aNv,Nat.mul_one], .inr ⟨g,q,_,rfl,aOk _,heap_sortedI _ hg,aPx hcl h1,h2,by simp[putCells,h3],?_⟩⟩;have hp:=take_putCellsI cur (Lib.compact S++List.replicate (S.length-(Lib.compact S).length) 0) (by rw[hl];omega);rw[hl]at hp;have hq:∀l:List vU,l.take (Lib.compact S).length=(l.take S.length).take (Lib.compact S).length:=fun l=>by rw[List.take_take,Nat.min_eq_left hcl]
   rw[Nat.mul_one,hq,hp,aOb,aQs (by rw[aNv];exact aOd _),aOq (by rw[aNv];exact aOd _)]
open Go.RowKit Go.Flow Go.Mem Go.Sep Go.In
abbrev snL(F:Fl)(x:Cm):List Nat:=(List.range F.comps.length).filter fun j=>oH (vW F j) x
abbrev snI(F:Fl)(x:Cm):List Int:=(snL F x).map fun j:Nat=>(j:Int)
theorem BL(fb:Nat)(X:FB)(G:List Ad)(hG:Lax G)(F:Fl)(hXp:X.F.pure=F.pure)(hB:PFB F.pure)(a b:Int):Bd Tryz.prog 24 [pv fb,iv a,iv b] [all (flk fb X G)] (fun r _=>r=iv (iQ F.pure a b)):=by
 have h:=(KH fb X G hG (by rw[hXp];exact hB) a b).mono fun _ _ h=>h.1;rw[hXp]at h;exact h
theorem GJ(hS:WW)(hC:WX)(p:Pl)(hp:p.Ok)(a b:Int):
    Bd Tryz.prog 6 [.agg (cL p []).toArray,iv a,iv b] [all p.kids,gAc,ay,ax,Gz,Xw] (fun v _=>v=bt):=by
 refine Ba Tryz.func6 Tryz.ntmps6 fun w0=>?_;refine Js (cz (Jbo fun b3=>?_));refine Jz 6 ?_;refine Jvf (WK) rfl (jS (lS 2 rfl) (jS (lS 3 rfl) (jS (lS 4 rfl) (jS (lS 5 rfl) (jS (lS 6 rfl) (jP _)))))) ?_;refine Jz 9 ?_;refine af [1,2,2,2,2] (aCq p hp) ?_;rintro _ _ ⟨F,fb,X,A,q,ps,rfl,rfl,hG,hXC,hXp,F',hF',hP⟩;refine Jz 3 ?_;refine ae fun b8=>?_;refine Jz 6 ?_;have hFc:F.comps.length≤3:=(dD hG).comps;have hB:PFB F.pure:=aCr hG;have hcl:=aCs hXp;have hGX:Nn X.F.pure:=by rw[hXp];exact hG
 refine Jfw [] [0,1,2,3,4,5,8,9,306,107,310,11,12] (jP _) ?_;refine Sn ?_;refine df rfl (Jg rfl Tryz.underlying27 rfl rfl) ?_;refine Jz 6 ?_;refine Oo rfl rfl rfl rfl .fc (BL fb X (pgk X.pb A q ps) (Vn _ _ _ _) F hXp hB a b) (by show owns (flk fb X (pgk X.pb A q ps))++[]=[];rw[(Er (Vn _ _ _ _)).owns];rfl) (jS (lS 1 rfl) (jP _)) ?_;refine Jz 1 ?_;refine Oo rfl rfl rfl rfl .fc ((KL F hB a b).mono fun _ _ h=>h.1) (by show owns (F.kids eR)++[]=[];rw[(Fl.lax eR F).owns];rfl) (jS (lS 2 rfl) (jP _)) ?_;refine df rfl (Cs (v':=bf) sm (Rd.neq rfl rfl rfl)) ?_;refine Jz 16 ?_;refine Bw (fun s g mz ρ Γ=>∃(k:Nat),ρ=[s 1,s 2,s 7,s 8,s 35,(36,nv k)]∧Γ=[g 1,g 2,g 0]∧mz=F.comps.length-k∧(k≤F.comps.length)) ⟨⟨0,rfl,rfl,rfl,om⟩,sb⟩ ?_;rintro mz _ _ ⟨k,rfl,rfl,rfl,hk⟩;refine Jz 6 ?_;refine aa rfl ?_ ?_<;>intro k37;obtain⟨x,hx⟩:∃x,F.comps[k]?=some x:=⟨_,gge om⟩
 obtain⟨x',hx1,hx2⟩:=aLg hXp hx;have hXx:=(dD hG).comp x (sN hx);have hX':=(dD hGX).comp x' (sN hx1);have hvn:=hXx.vers2;have hvs:∀v∈x.vers,v.l.length≤3∧∀h∈v.l,h.body.length≤12∧Cu (Ai h.body):=fun v hv=>⟨(hXx.ver v hv).1,fun h hh=>⟨((hXx.ver v hv).2 h hh).len,((hXx.ver v hv).2 h hh).low⟩⟩
 have hsend:=GD fb X (pgk X.pb A q ps) (Vn _ _ _ _) hS hC (by rw[hcl];omega) k x' hx1 hX'.vers2 (fun v hv=>⟨(hX'.ver v hv).1,fun h hh=>⟨((hX'.ver v hv).2 h hh).len,((hX'.ver v hv).2 h hh).low,((hX'.ver v hv).2 h hh).cnt⟩⟩);rw[GH hXp hG hx hx2]at hsend;refine Jz 19 ?_;refine Jqf (hsend) (by show owns (flk fb X (pgk X.pb A q ps))++[]=[];rw[(Er (Vn _ _ _ _)).owns];rfl) (jS (lS 0 rfl) (jP _)) ?_;rintro _ _ ⟨Bn,pn,rfl,rfl⟩;refine⟨rfl,?_⟩;refine Jz 13 ?_;refine Bw (fun s g mz ρ Γ=>∃(u:Nat) (j:Nat),ρ=[s 1,s 2,s 7,s 8,s 35,s 36,s 9,(10,nv u),s 11,s 44,(45,nv j)]∧Γ=[g 1,g 2,g 3,g 0]∧mz=F.comps.length-j∧(j≤F.comps.length)∧(u=((List.range j).filter fun j=>oH (vW F j) x).length)) ⟨⟨0,0,rfl,rfl,rfl,om,rfl⟩,sb⟩ ?_;rintro mz _ _ ⟨u,j,rfl,rfl,rfl,hj,hu⟩;have hul:u≤1000:=by rw[hu];have:=List.length_filter_le (fun j=>oH (vW F j) x) (List.range j);rw[List.length_range]at this;omega
 refine Jz 6 ?_;refine aa rfl ?_ ?_<;>intro k46;obtain⟨z,hz⟩:∃z,F.comps[j]?=some z:=⟨_,gge om⟩
 refine Jz 12 ?_;refine Jfw [] [0,1,2,5,6,303,104,307,8] (jP _) ?_;refine Jz 5 ?_;refine Oo rfl rfl rfl rfl .fc (BL fb X (pgk X.pb A q ps) (Vn _ _ _ _) F hXp hB ((k:Nat):Int) ((j:Nat):Int)) (by show owns (flk fb X (pgk X.pb A q ps))++[]=[];rw[(Er (Vn _ _ _ _)).owns];rfl) (jS (lS 0 rfl) (jP _)) ?_;refine Jz 1 ?_;refine Oo rfl rfl rfl rfl .fc ((KL F hB ((k:Nat):Int) ((j:Nat):Int)).mono fun _ _ h=>h.1) (by show owns (F.kids eR)++[]=[];rw[(Fl.lax eR F).owns];rfl) (jS (lS 1 rfl) (jP _)) ?_;refine df rfl (Cs (v':=bf) sm (Rd.neq rfl rfl rfl)) ?_;refine Jz 10 ?_;refine Jqf (GA F k x hx j z hz hFc hvn hvs) (by show owns (F.kids eR)++[]=[];rw[(Fl.lax eR F).owns];rfl) (jS (lS 1 rfl) (jP _)) ?_;rintro _ _ ⟨rfl,rfl⟩;refine⟨rfl,?_⟩;refine Jn (Jt (Ee rfl (fun k60=>?_) (fun k60=>?_)));have hq:(snL F x)[u]?=some j:=by rw[hu];exact PW (p:=fun j=>oH (vW F j) x) om (by rw[jO hz];simpa using k60)
 have hq2:(snI F x)[u]?=some ((j:Nat):Int):=by show((snL F x).map _)[u]?=_;rw[aOf,hq];rfl
 have hlt:u<(snI F x).length:=(aNr.1 hq2).1;have:u<(((List.range F.comps.length).filter fun j=>oH (vW F j) x).map fun j:Nat=>(j:Int)).length:=hlt;refine Jz 7 ?_;refine JgP ?_ ?_<;>intro g65
 first|exact aOx c65 om|exact aOx k65 om|exact aOx g65 om
 refine Jz 5 ?_;refine Jr (Cs (v':=bf) sm (Rd.neq rfl rfl rfl)) ?_;refine Jz 18 ?_;refine Dc ⟨⟨u+1,j+1,rfl,rfl,rfl,om,(by rw[hu,GG (p:=fun j=>oH (vW F j) x) (by rw[jO hz];simpa using k60)])⟩,sb⟩;refine Jz 8 ?_;refine Dc ⟨⟨u,j+1,rfl,rfl,rfl,om,(by rw[hu,BJ (p:=fun j=>oH (vW F j) x) (by rw[jO hz];simpa using k60)])⟩,sb⟩;refine Jz 6 ?_;have hend:(snI F x).length=u:=by rw[hu,show j=F.comps.length by omega];exact aNv ..
 refine Jz 4 ?_;refine Jr (Cs (v':=bf) (by simp[hend]) (Rd.neq rfl rfl rfl)) ?_;refine Jz 11 ?_;refine Bp ⟨⟨k+1,rfl,rfl,rfl,om⟩,sb⟩;refine Jz 11 ?_;refine ak Tryz.results6 ?_;rfl
end Go.Proofs.YtihgdnjkofpgiaaGreatDoor
