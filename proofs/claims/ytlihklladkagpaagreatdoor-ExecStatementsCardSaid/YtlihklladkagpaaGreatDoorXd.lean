/- Own text. -/
import Derived.Test.YtlihklladkagpaaGreatDoorXc
import Derived.Test.YtlihklladkagpaaGreatDoorCb
set_option linter.unusedVariables false
set_option linter.unusedSimpArgs false
set_option maxHeartbeats 2000000
set_option maxRecDepth 100000
namespace Go.Proofs.YtlihklladkagpaaGreatDoor
open Go.Proofs.Tryz
open Go.RowKit Go.Flow Go.Mem Go.Sep
structure Wx where
 Av:OA
 qv:Nat
 vars:List Int
 At:OA
 qt:Nat
 tabs:List (Int×Int)
 Ad:OA
 qd:Nat
 disk:List (Int×Int)
 Aa:OA
 qa:Nat
 args:List Int
 now:Int
 flags:Nat
 before:Nat
 Af:OA
 qf:Nat
 fail:List Nat
abbrev cW(w:Wx):List Value:=[vs w.Av w.vars w.qv,vs w.At w.tabs w.qt,vs w.Ad w.disk w.qd,vs w.Aa w.args w.qa,iv w.now, .int .u8 ((w.flags:Nat):Int), .int .u8 ((w.before:Nat):Int),vs w.Af w.fail w.qf]
def Wx.cells(w:Wx):List Value:=(cW w)
structure Wx.ok(w:Wx):Prop where
 qt:w.tabs.length≤w.qt
 qd:w.disk.length≤w.qd
 before:w.before<256
def pJ(l:List Int)(n:Nat):List Int:=(List.range n).map fun i=>l.getD i 0
def dH(l:List (Int×Int))(n:Nat):List (List (Int×Int)):=(List.range n).map fun i=>ofT (l.take (16-i))
def stV(w:Wx)(mv nt:Nat):List Int×List (List (Int×Int))×List (Int×Int):=(pJ w.vars mv,dH w.tabs nt,ofT (w.disk.take 16))
theorem Zy(l:List Int)(n:Nat):pJ l (n+1)=pJ l n++[l.getD n 0]:=by simp[pJ,List.range_succ]
theorem eZ(l:List Int)(n:Nat):(pJ l n).length=n:=by simp[pJ]
theorem mO(l:List (Int×Int))(n:Nat):dH l (n+1)=dH l n++[ofT (l.take (16-n))]:=by simp[dH,List.range_succ]
theorem iV(l:List (Int×Int))(n:Nat):(dH l n).length=n:=by simp[dH]
theorem sQ{T:List Tb}{e:Tb}{Γ:List Ai}(h:Γ[0]?=some (ros Be e.A e.l)):∀p∈(T++[e]).map Tb.ar,p∈T.map Tb.ar∨ros Be p.1 p.2∈Γ:=fun p hp=>by
 rw[aEq]at hp
 rcases aFi.1 hp with h1|h1
 ·exact .inl h1
 ·rw[aEr.1 h1];exact .inr (mog h)
open Go.Sep
def Cs:List (Int×Int)→Int→Nat
 |[],_=>0
 |e::r,k=>if e.1<k then Cs r k+1 else 0
theorem Yg(k:Int):∀l:List (Int×Int),Cs l k≤l.length
 |[]=>aEu _
 |e::r=>by rw[Cs];split<;>simp[Yg k r]
theorem AP{k:Int}:∀{l:List (Int×Int)} {h:Nat} {x:Int×Int},Asc l→l[h]?=some x→(x.1<k↔h<Cs l k)
 |[],h,x,_,hx=>by simp at hx
 | e ::r,h,x,ha,hx=>by
   obtain⟨h1,h2⟩:=aFo.1 ha
   rw[Cs]
   cases h with
   | zero=>
     obtain rfl:e=x:=by simpa using hx
     by_cases c:e.1<k
     ·simp[c]
     ·simp[c]
   | succ h=>
     have hx':r[h]?=some x:=by simpa using hx
     by_cases c:e.1<k
     ·rw[aEh c,AP h2 hx'];omega
     · rw[aEa c]
       have:=h1 x (mog hx')
       omega
theorem Qr(e:Int×Int)(r:List (Int×Int))(k:Int):Fp (e::r) k=if e.1=k then some e.2 else Fp r k:=by
 unfold Fp
 rw[List.find?_cons]
 by_cases c:e.1=k<;>simp[c]
theorem Ri{k:Int}:∀{l:List (Int×Int)},(∀y∈l,k<y.1)→Fp l k=none
 |[],_=>rfl
 | e::r,h=>by
   rw[Qr,aEa (by have:=h e (aEd ..);omega)]
   exact Ri fun y hy=>h y (aEb _ hy)
theorem fA{k:Int}:∀{l:List (Int×Int)},Asc l→Fp l k=match l[Cs l k]? with|some y=>if y.1=k then some y.2 else none|none=>none
 |[],_=>rfl
 | e ::r,ha=>by
   obtain⟨h1,h2⟩:=aFo.1 ha
   rw[Qr,Cs]
   by_cases c:e.1<k
   ·rw[aEa om,aEh c,fA h2];simp
   · rw[aEa c]
     by_cases c2:e.1=k
     ·simp[c2]
     · simp only[c2,if_false,List.getElem?_cons_zero]
       exact Ri fun y hy=>by have:=h1 y hy;omega
theorem get_at{k:Int}{l:List (Int×Int)}(ha:Asc l){y:Int×Int}(hy:l[Cs l k]?=some y):Fp l k=if y.1=k then some y.2 else none:=by rw[fA ha,hy]
theorem QX{k:Int}{l:List (Int×Int)}(ha:Asc l)(h:¬Cs l k<l.length):Fp l k=none:=by rw[fA ha,List.getElem?_eq_none om]
theorem wY{k:Int}{l:List (Int×Int)}(ha:Asc l)(h:(Fp l k).isSome=true):∃y,l[Cs l k]?=some y∧y.1=k∧Fp l k=some y.2:=by
 cases hy:l[Cs l k]? with
 |none=>rw[fA ha,hy]at h;cases h
 | some y=>
   rw[get_at ha hy]at h⊢
   by_cases c:y.1=k
   ·exact⟨y,rfl,c,by rw[aEh c]⟩
   ·rw[aEa c]at h;cases h
theorem pK{k v:Int}:∀{l:List (Int×Int)},Asc l→Jp l k v=l.take (Cs l k)++(k,v)::(if(Fp l k).isSome=true then l.drop (Cs l k+1)else l.drop (Cs l k))
 |[],_=>rfl
 | e ::r,ha=>by
   obtain⟨h1,h2⟩:=aFo.1 ha
   rw[Jp,Cs,Qr]
   by_cases c:e.1<k
   ·rw[aEh c,aEa (show¬e.1=k by omega),aEh c,pK h2];simp
   · rw[aEa c,aEa c]
     by_cases c2:e.1=k
     ·simp[c2]
     · have:Fp r k=none:=Ri fun y hy=>by have:=h1 y hy;omega
       simp[c2,this]
theorem sS{k v:Int}:∀{l:List (Int×Int)},Asc l→Fp l k=some v→Jp l k v=l
 |[],_,h=>by cases h
 | e ::r,ha,h=>by
   obtain⟨h1,h2⟩:=aFo.1 ha
   rw[Qr]at h
   rw[Jp]
   by_cases c2:e.1=k
   · rw[aEh c2]at h
     obtain rfl:=aEn h
     rw[aEa om,aEh c2,←c2]
   · rw[aEa c2]at h
     by_cases c:e.1<k
     ·rw[aEh c,sS h2 h]
     ·rw[Ri fun y hy=>by have:=h1 y hy;omega]at h;cases h
theorem pM{k:Int}:∀{l:List (Int×Int)},Asc l→Im l k=if(Fp l k).isSome=true then l.take (Cs l k)++l.drop (Cs l k+1)else l
 |[],_=>rfl
 | e :: r,ha=>by
   obtain⟨h1,h2⟩:=aFo.1 ha
   rw[Cs,Qr]
   by_cases c:e.1<k
   · rw[aEa (show¬e.1=k by omega),aEh c]
     have:Im (e::r) k=e::Im r k:=List.filter_cons_of_pos (aEk om)
     rw[this,pM h2]
     by_cases d:(Fp r k).isSome=true
     ·simp[d]
     ·simp[d]
   · rw [aEa c]
     by_cases c2:e.1=k
     · have h3:∀y∈r,k<y.1:=fun y hy=>by have:=h1 y hy;omega
       have:Im (e::r) k=Im r k:=List.filter_cons_of_neg (by simp[c2])
       rw[this,Wv h3];simp[c2]
     · have h3:∀y∈e::r,k<y.1:=fun y hy=>by
         rcases aEi.1 hy with rfl|hy
         ·omega
         ·have:=h1 y hy;omega
       have h4:Fp r k=none:=Ri fun y hy=>h3 y (aEb _ hy)
       rw[Wv h3];simp[c2,h4]
theorem QY{t:List (Int×Int)}{k:Int}(h:Asc t):Asc (Im t k):=List.Pairwise.filter _ h
theorem AQ{k v:Int}:∀l:List (Int×Int),(Jp l k v).length≤l.length+1
 |[]=>aEu _
 | e::r=>by
   rw[Jp]
   split
   ·have:=AQ (k:=k) (v:=v) r;simp;omega
   ·split<;>simp
theorem iW{k v:Int}:∀{l:List (Int×Int)},Asc l→(Fp l k).isSome=true→(Jp l k v).length=l.length
 |[],_,h=>by cases h
 | e ::r,ha,h=>by
   obtain⟨h1,h2⟩:=aFo.1 ha
   rw[Qr]at h
   rw[Jp]
   by_cases c2:e.1=k
   ·rw[aEa om,aEh c2];simp
   · rw[aEa c2]at h
     by_cases c:e.1<k
     ·rw[aEh c];simp[iW h2 h]
     ·rw[Ri fun y hy=>by have:=h1 y hy;omega]at h;cases h
structure Good(t:List (Int×Int)):Prop where
 asc:Asc t
 len:t.length≤16
theorem Good.put{t:List (Int×Int)}(h:Good t)(k v:Int):Good (Oq t k v):=by
 unfold Oq
 by_cases c:(Fp t k).isSome=true∨t.length<16
 · rw[aEh c]
   refine⟨AB h.asc,?_⟩
   rcases c with c|c
   ·rw[iW h.asc c];exact h.len
   ·have:=AQ (k:=k) (v:=v) t;omega
 ·rw[aEa c];exact h
theorem Good.del{t:List (Int×Int)}(h:Good t)(k:Int):Good (Im t k):=⟨QY h.asc,aGd (Zw _ _) h.len⟩
theorem Good.of{l:List (Int×Int)}(h:l.length≤16):Good (ofT l):=⟨(iU l).2,by rw[←(iU l).1];exact aGd (zZ l) h⟩
theorem KN{t:List (Int×Int)}(h:Good t)(k v:Int):(if¬(Fp t k).isSome=true∧16≤t.length then t else Oi t k v)=Oq t k v:=by
 unfold Oq
 rw[AJ h.asc]
 by_cases c:(Fp t k).isSome=true
 ·rw[aEa (fun e=>e.1 c),aEh (.inl c)]
 · by_cases d:t.length<16
   ·rw[aEa (fun e=>by omega),aEh (.inr d)]
   ·rw[aEh ⟨c,by omega⟩,aEa (fun e=>e.elim c d)]
open Go.RowKit Go.Flow Go.Mem Go.Sep
def Yh(f n:Nat):List Bool:=(List.range n).map fun m=>decide ((((f/2^(m%8))&&& 1:Nat):Int)=1)
theorem wZ(f n:Nat):Yh f (n+1)=Yh f n++[decide ((((f/2^(n%8))&&& 1:Nat):Int)=1)]:=by simp[Yh,List.range_succ]
theorem mP(f n:Nat):(Yh f n).length=n:=by simp[Yh]
theorem EO{T:List Tb}{e:Tb}(h:∀x∈T,x.l.length≤x.q)(h2:e.l.length≤e.q):∀x∈T++[e],x.l.length≤x.q:=fun x hx=>by
 rcases aFi.1 hx with h3|h3
 ·exact h x h3
 ·rw[aEr.1 h3];exact h2
theorem QZ(w:Wx)(hw:w.ok)(hfl:w.flags<256)(mv nt na nf:Nat)(hnv:mv≤1000)(hnt:nt≤16)(hna:na≤1000)(hnf:nf≤1000):
    Dz 11 [.agg (cW w).toArray,nv mv,nv nt,nv na,nv nf] [ros aLz w.Av w.vars,ros Be w.At w.tabs,ros Be w.Ad w.disk,ros aLz w.Aa w.args,ros Gw w.Af w.fail] (fun v Γ'=>∃(a b:Sx) (Fa:OA) (qf:Nat) (Fl:List Int) (Ap:OA) (qp:Nat) (P:List Int) (Gp:OA) (qg:Nat) (G:List Bool),v= .tuple #[.agg a.cells.toArray, .agg b.cells.toArray, .agg #[vs Ap P qp,iv w.now,vs Gp G qg,nv w.before,vs Fa Fl qf], .agg #[vs Ap P qp,iv w.now,vs Gp G qg,nv w.before,vs Fa Fl qf]]∧Γ'=[rows aLz 2 1 a.Av a.qv a.vars,rows Tb.cells 54 1 a.At a.qt a.tabs,De Be (a.tabs.map Tb.ar),ros Be a.dk.A a.dk.l,rows aLz 2 1 b.Av b.qv b.vars,rows Tb.cells 58 1 b.At b.qt b.tabs,De Be (b.tabs.map Tb.ar),ros Be b.dk.A b.dk.l,rows aLz 2 1 Ap qp P,rows Qv 4 1 Gp qg G,rows aLz 3 1 Fa qf Fl]∧a.val=stV w mv nt∧b.val=stV w mv nt∧Fl.length≤8∧P=pJ w.args na∧G=Yh w.flags nf∧(∀x∈a.tabs,x.l.length≤x.q)∧a.dk.l.length≤a.dk.q):=by
 refine Am func11 ntmps11 fun w0=>?_
 refine Js (To.g (Jbo fun b5=>?_))
 refine Jal fun b10=>?_
 refine Jal fun b11=>?_
 refine Jal fun b12=>?_
 refine Jal fun b13=>?_
 refine Jz 4 ?_
 refine Jr (.bd [nz,nz,nz]) ?_
 refine Jr (.bd [nz,nz,nz]) ?_
 refine Jal fun b14=>?_
 refine Jal fun b15=>?_
 refine Jz 12 ?_
 refine Cz (aLz) 2 1 (Le (Jj (Su (Su (Su (Su (Su (JF (DX (Ux (Pq (Su (Ie (fun mz ρ Γ=>∃(Ao:OA) (qo:Nat) (O:List Int) (i:Nat),ρ=[(5,pv b5),(10,pv b10),(11,pv b11),(12,pv b12),(13,pv b13),(14,pv b14),(15,pv b15),(2,nv nt),(3,nv na),(4,nv nf),(28,nv mv),(29,nv i)]∧Γ=[box b5 (cW w) 31,box b10 [nz,nz,nz] 56,box b11 [nz,nz,nz] 60,box b12 [nz,iv 0,nz,iv 0,nz] 64,box b13 [nz,iv 0,nz,iv 0,nz] 65,ros aLz w.Av w.vars,ros Be w.At w.tabs,ros Be w.Ad w.disk,ros aLz w.Aa w.args,ros Gw w.Af w.fail,box b14 [vs Ao O qo,nz,nz] 56,box b15 [nz,nz,nz] 60,rows aLz 2 1 Ao qo O]∧mz=mv-i∧(i≤mv)∧(O=pJ w.vars i)) (mv-0) ⟨⟨none,0,([]:List Int),0,rfl,rfl,rfl,om,rfl⟩,sb⟩ ?_)))))))))))))
 rintro mz _ _ ⟨Ao,qo,O,i,rfl,rfl,rfl,hi,hO⟩
 have hOl:O.length=i:=by rw[hO,eZ]
 refine Jz 6 ?_
 refine Jcp rfl ?_ ?_<;>intro k30
 refine Jz 25 ?_
 refine Jcp rfl ?_ ?_<;>intro k36
 obtain⟨y,hy⟩:=exg w.vars i om
 refine Jz 13 ?_
 refine Eg [iv y] fun b45=>?_
 refine Jge rfl rfl rfl (Bg Cy (i:=13) (j:=0) (el:=y) rfl s28 rfl rfl rfl rfl rfl om om) ?_
 rintro _ _ ⟨A46,q46,rfl,rfl⟩
 refine Jz 10 ?_
 refine Cg ⟨⟨A46,q46,(O++[y]),i+1,rfl,rfl,rfl,om,(by rw[Zy,←hO,aEx,hy];rfl)⟩,sb⟩
 refine Jz 6 ?_
 refine Eg [iv 0] fun b45_2=>?_
 refine Jge rfl rfl rfl (Bg Cy (i:=13) (j:=0) (el:=0) rfl s28 rfl rfl rfl rfl rfl om om) ?_
 rintro _ _ ⟨A46_2,q46_2,rfl,rfl⟩
 refine Jz 10 ?_
 refine Cg ⟨⟨A46_2,q46_2,(O++[0]),i+1,rfl,rfl,rfl,om,(by rw[Zy,←hO,aEx,List.getElem?_eq_none om];rfl)⟩,sb⟩
 refine Jz 6 ?_
 obtain rfl:i=mv:=om
 refine Ot [(5,pv b5),(10,pv b10),(11,pv b11),(12,pv b12),(13,pv b13),(14,pv b14),(15,pv b15),(2,nv nt),(3,nv na),(4,nv nf)] sb (Cz (aLz) 2 1 (Jz 5 ?_))
 refine Jge rfl rfl rfl (Hf Cy (i:=0) (m:=O) rfl s28 rfl rfl rfl (Rb (i:=13) rfl) om om) ?_
 rintro _ _ ⟨A53,q53,rfl,rfl⟩
 refine Jz 12 ?_
 refine Cz (Tb.cells) 54 1 (dC (enc:=Be) (Cz (Tb.cells) 58 1 (dC (enc:=Be) (Le (Jj (Ic (Md (Sv (Sv (Sv (Sv (Sv (Sv (Sv (Sv (Sv (Sv (Sv (Sv (Sv (Ie (fun mz ρ Γ=>∃(Ta:OA) (qa:Nat) (T:List Tb) (Tr:OA) (qr:Nat) (R:List Tb) (i:Nat),ρ=[(5,pv b5),(10,pv b10),(11,pv b11),(12,pv b12),(13,pv b13),(14,pv b14),(15,pv b15),(3,nv na),(4,nv nf),(55,nv nt),(56,nv i)]∧Γ=[box b5 (cW w) 31,box b10 [nz,nz,nz] 56,box b11 [nz,nz,nz] 60,box b12 [nz,iv 0,nz,iv 0,nz] 64,box b13 [nz,iv 0,nz,iv 0,nz] 65,ros aLz w.Av w.vars,ros Be w.At w.tabs,ros Be w.Ad w.disk,ros aLz w.Aa w.args,ros Gw w.Af w.fail,box b14 [vs Ao O qo,vs Ta T qa,nz] 56,box b15 [vs A53 O q53,vs Tr R qr,nz] 60,rows aLz 2 1 Ao qo O,rows aLz 2 1 A53 q53 O,rows Tb.cells 54 1 Ta qa T,De Be (T.map Tb.ar),rows Tb.cells 58 1 Tr qr R,De Be (R.map Tb.ar)]∧mz=nt-i∧(i≤nt)∧(T.map Tb.l=dH w.tabs i)∧(R.map Tb.l=dH w.tabs i)∧(∀x∈T,x.l.length≤x.q)) (nt-0) ⟨⟨none,0,([]:List Tb),none,0,([]:List Tb),0,rfl,rfl,rfl,om,rfl,rfl,(fun x hx=>by simp at hx)⟩,sb⟩ ?_)))))))))))))))))))))
 rintro mz _ _ ⟨Ta,qa,T,Tr,qr,R,i,rfl,rfl,rfl,hi,hT,hR,hTq⟩
 have hTl:T.length=i:=by have:=congrArg List.length hT;rw[aEg,iV]at this;exact this
 have hRl:R.length=i:=by have:=congrArg List.length hR;rw[aEg,iV]at this;exact this
 refine Jz 6 ?_
 refine Jcp rfl ?_ ?_<;>intro k57
 refine Jz 15 ?_
 refine Jr (Cr (v':=nv (16-i)) (congrArg iv om) (Gi rfl rfl rfl om)) ?_
 refine Jvf (iQ w.At w.qt (16-i) w.tabs hw.qt) rfl (ocn _) ?_
 refine Jz 4 ?_
 have htk:(w.tabs.take (16-i)).length≤16:=by rw[aEe];omega
 refine To.take (16-i) 6 rfl (Pp [] [⟨0,[],0⟩,⟨2,[],0⟩,⟨3,[],4⟩,⟨1,[],1⟩,⟨4,[3],2⟩,⟨5,[3,4],5⟩,⟨6,[],0⟩,⟨7,[],5⟩] mixed.h (by kernel_rfl) (ocn _) (Jz 2 ?_))
 refine Gj rfl rfl rfl rfl rfl .fc (KL w.At w.qt (w.tabs.take (16-i)) om) rfl (ocs (oca 0 rfl) (ocn _)) ?_
 rintro _ _ ⟨Bo,qo_,rfl,rfl⟩
 refine⟨rfl,?_⟩
 refine Jz 1 ?_
 refine Es [vs Bo (ofT (w.tabs.take (16-i))) qo_] fun b68=>?_
 refine Fw.ge rfl rfl rfl rfl (Bg Nf (i:=17) (j:=0) (el:=(⟨Bo,qo_,(ofT (w.tabs.take (16-i)))⟩:Tb)) rfl s51 rfl rfl rfl rfl rfl om om) ?_
 rintro _ _ ⟨A69,q69,rfl,rfl⟩
 refine⟨ocn _,?_⟩
 refine Jz 1 ?_
 refine Fw.up rfl rfl rfl (Up.store (i:=13) rfl rfl rfl c51 rfl rfl (bt1 rfl)) (ocn _) ?_
 refine Jz 2 ?_
 refine Lt (p:=(ofT (w.tabs.take (16-i))).length≤qo_) (fun w hw=>Mw 1 rfl hw) (fun hcq=>?_)
 refine Le (Cq (La ((T++[(⟨Bo,qo_,(ofT (w.tabs.take (16-i)))⟩:Tb)]).map Tb.ar) 18 rfl (sQ rfl) (Pp [] [⟨0,[],0⟩,⟨2,[],0⟩,⟨3,[],4⟩,⟨1,[],1⟩,⟨4,[3],2⟩,⟨5,[3,4],5⟩,⟨6,[],0⟩,⟨7,[],5⟩] mixed.h (by kernel_rfl) (ocn _) (Jz 2 ?_))))
 refine Gj rfl rfl rfl rfl rfl .fc (KH w.At w.qt (w.tabs.take (16-i)) om) rfl (ocs (oca 3 rfl) (ocn _)) ?_
 rintro _ _ ⟨Br,qr_,rfl,rfl⟩
 refine⟨rfl,?_⟩
 refine Fw.lo 15 c57 ?_
 refine Es [vs Br (Sg (w.tabs.take (16-i))) qr_] fun b75=>?_
 refine Fw.ge rfl rfl rfl rfl (Bg Nf (i:=22) (j:=0) (el:=(⟨Br,qr_,(Sg (w.tabs.take (16-i)))⟩:Tb)) rfl s57 rfl rfl rfl rfl rfl om om) ?_
 rintro _ _ ⟨A76,q76,rfl,rfl⟩
 refine⟨ocn _,?_⟩
 refine Jz 1 ?_
 refine Fw.up rfl rfl rfl (Up.store (i:=17) rfl rfl rfl c57 rfl rfl (bt1 rfl)) (ocn _) ?_
 refine Jz 3 ?_
 refine Le (Cq (La ((R++[(⟨Br,qr_,(Sg (w.tabs.take (16-i)))⟩:Tb)]).map Tb.ar) 23 rfl (sQ rfl) (Jz 5 ?_)))
 refine Cg ⟨⟨A69,q69,(T++[(⟨Bo,qo_,(ofT (w.tabs.take (16-i)))⟩:Tb)]),A76,q76,(R++[(⟨Br,qr_,(Sg (w.tabs.take (16-i)))⟩:Tb)]),i+1,rfl,rfl,rfl,om,(by rw[aEq,hT,mO];rfl),(by rw[aEq,hR,mO,←(iU _).1];rfl),(EO hTq hcq)⟩,sb⟩
 refine Jz 6 ?_
 have hbf:=hw.before
 have hin:i=nt:=om
 have hdk:(w.disk.take 16).length≤16:=by rw[aEe];omega
 refine To.take 16 7 rfl (Pp [box b5 (cW w) 31] [⟨0,[],0⟩,⟨1,[],0⟩,⟨4,[],0⟩,⟨5,[],0⟩,⟨2,[],3⟩,⟨3,[],4⟩,⟨8,[3],0⟩,⟨6,[3],3⟩,⟨7,[3],4⟩,⟨9,[3,7],5⟩,⟨10,[],0⟩,⟨11,[],5⟩] mixed.h (by kernel_rfl) (ocs (oca 1 rfl) (ocn _)) (Jz 4 ?_))
 refine Fw.qf (iQ w.Ad w.qd 16 w.disk hw.qd) (ocn _) ?_
 refine Gj rfl rfl rfl rfl rfl .fc (KL w.Ad w.qd (w.disk.take 16) om) rfl (ocs (oca 0 rfl) (ocn _)) ?_
 rintro _ _ ⟨Bo_2,qo__2,rfl,rfl⟩
 refine⟨rfl,?_⟩
 refine Jz 1 ?_
 refine Fw.qf (iQ w.Ad w.qd 16 w.disk hw.qd) (ocn _) ?_
 refine Gj rfl rfl rfl rfl rfl .fc (KH w.Ad w.qd (w.disk.take 16) om) rfl (ocs (oca 1 rfl) (ocn _)) ?_
 rintro _ _ ⟨Br_2,qr__2,rfl,rfl⟩
 refine⟨rfl,?_⟩
 refine Fw.up rfl rfl rfl (Bl (i:=13) rfl rfl rfl r54 rfl rfl rfl (Rf (ds:=[vs Ao O qo,vs Ta T qa,vs Bo_2 (ofT (w.disk.take 16)) qo__2]) rfl rfl)) (ocs (oca 3 rfl) (ocn _)) ?_
 refine Jz 1 ?_
 refine Fw.up rfl rfl rfl (Up.store (i:=14) rfl rfl rfl c58 rfl rfl (bt1 rfl)) (ocs (oca 3 rfl) (ocn _)) ?_
 refine Jz 3 ?_
 refine Lt (p:=(ofT (w.disk.take 16)).length≤qo__2) (fun w hw=>Mw 1 rfl hw) (fun hdq=>?_)
 refine Le (Cq (Le (Cq (Jz 2 ?_))))
 refine Jlo 3 c2 ?_
 refine Jz 1 ?_
 refine Jlo 3 c5 ?_
 refine Jr (Fv rfl rfl underlying5 underlying3 (IntWalk.i64_in _ om)) ?_
 refine Jr (.bd [nz,iv w.now,nz,nv w.before,nz]) ?_
 refine Jal fun b20=>?_
 refine Jz 11 ?_
 refine Cz (aLz) 2 1 (Er (Le (Ie (fun mz ρ Γ=>∃(Ap:OA) (qp:Nat) (P:List Int) (m:Nat),ρ=[(5,pv b5),(10,pv b10),(11,pv b11),(12,pv b12),(13,pv b13),(14,pv b14),(15,pv b15),(20,pv b20),(4,nv nf),(95,nv na),(96,nv m)]∧Γ=[box b20 [vs Ap P qp,iv w.now,nz,nv w.before,nz] 64,rows aLz 2 1 Ap qp P,ros Be Br_2 (Sg (w.disk.take 16)),ros Be Bo_2 (ofT (w.disk.take 16)),box b5 (cW w) 31,box b10 [nz,nz,nz] 56,box b11 [nz,nz,nz] 60,box b12 [nz,iv 0,nz,iv 0,nz] 64,box b13 [nz,iv 0,nz,iv 0,nz] 65,ros aLz w.Av w.vars,ros Be w.At w.tabs,ros Be w.Ad w.disk,ros aLz w.Aa w.args,ros Gw w.Af w.fail,box b14 [vs Ao O qo,vs Ta T qa,vs Bo_2 (ofT (w.disk.take 16)) qo__2] 56,box b15 [vs A53 O q53,vs Tr R qr,vs Br_2 (Sg (w.disk.take 16)) qr__2] 60,rows aLz 2 1 Ao qo O,rows aLz 2 1 A53 q53 O,rows Tb.cells 54 1 Ta qa T,De Be (T.map Tb.ar),rows Tb.cells 58 1 Tr qr R,De Be (R.map Tb.ar)]∧mz=na-m∧(m≤na)∧(P=pJ w.args m)) (na-0) ⟨⟨none,0,([]:List Int),0,rfl,rfl,rfl,om,rfl⟩,sb⟩ ?_)))
 rintro mz _ _ ⟨Ap,qp,P,m,rfl,rfl,rfl,hm,hP⟩
 have hPl:P.length=m:=by rw[hP,eZ]
 refine Jz 6 ?_
 refine Jcp rfl ?_ ?_<;>intro k97
 refine Jz 25 ?_
 refine Jcp rfl ?_ ?_<;>intro k103
 obtain⟨y,hy⟩:=exg w.args m om
 refine Jz 13 ?_
 refine Eg [iv y] fun b112=>?_
 refine Jge rfl rfl rfl (Bg Cy (i:=2) (j:=0) (el:=y) rfl s28 rfl rfl rfl rfl rfl om om) ?_
 rintro _ _ ⟨A113,q113,rfl,rfl⟩
 refine Jz 10 ?_
 refine Cg ⟨⟨A113,q113,(P++[y]),m+1,rfl,rfl,rfl,om,(by rw[Zy,←hP,aEx,hy];rfl)⟩,sb⟩
 refine Jz 6 ?_
 refine Eg [iv 0] fun b112_2=>?_
 refine Jge rfl rfl rfl (Bg Cy (i:=2) (j:=0) (el:=0) rfl s28 rfl rfl rfl rfl rfl om om) ?_
 rintro _ _ ⟨A113_2,q113_2,rfl,rfl⟩
 refine Jz 10 ?_
 refine Cg ⟨⟨A113_2,q113_2,(P++[0]),m+1,rfl,rfl,rfl,om,(by rw[Zy,←hP,aEx,List.getElem?_eq_none om];rfl)⟩,sb⟩
 refine Jz 7 ?_
 have hmn:m=na:=om
 refine Jz 6 ?_
 refine Cz (Qv) 4 1 (Le (Ie (fun mz ρ Γ=>∃(Gp:OA) (qg:Nat) (G:List Bool) (m2:Nat),ρ=[(5,pv b5),(10,pv b10),(11,pv b11),(12,pv b12),(13,pv b13),(14,pv b14),(15,pv b15),(20,pv b20),(116,nv nf),(117,nv m2)]∧Γ=[box b20 [vs Ap P qp,iv w.now,vs Gp G qg,nv w.before,nz] 64,rows Qv 4 1 Gp qg G,rows aLz 2 1 Ap qp P,ros Be Br_2 (Sg (w.disk.take 16)),ros Be Bo_2 (ofT (w.disk.take 16)),box b5 (cW w) 31,box b10 [nz,nz,nz] 56,box b11 [nz,nz,nz] 60,box b12 [nz,iv 0,nz,iv 0,nz] 64,box b13 [nz,iv 0,nz,iv 0,nz] 65,ros aLz w.Av w.vars,ros Be w.At w.tabs,ros Be w.Ad w.disk,ros aLz w.Aa w.args,ros Gw w.Af w.fail,box b14 [vs Ao O qo,vs Ta T qa,vs Bo_2 (ofT (w.disk.take 16)) qo__2] 56,box b15 [vs A53 O q53,vs Tr R qr,vs Br_2 (Sg (w.disk.take 16)) qr__2] 60,rows aLz 2 1 Ao qo O,rows aLz 2 1 A53 q53 O,rows Tb.cells 54 1 Ta qa T,De Be (T.map Tb.ar),rows Tb.cells 58 1 Tr qr R,De Be (R.map Tb.ar)]∧mz=nf-m2∧(m2≤nf)∧(G=Yh w.flags m2)) (nf-0) ⟨⟨none,0,([]:List Bool),0,rfl,rfl,rfl,om,rfl⟩,sb⟩ ?_))
 rintro mz _ _ ⟨Gp,qg,G,m2,rfl,rfl,rfl,hm2,hG⟩
 have hGl:G.length=m2:=by rw[hG,mP]
 refine Jz 6 ?_
 refine Jcp rfl ?_ ?_<;>intro k118
 refine Jz 10 ?_
 refine Jfw [box b5 (cW w) 31] [0,2,4,5,101,103,6,7,8,209,10510,11,512] (ocs (oca 5 rfl) (ocn _)) ?_
 refine Jz 3 ?_
 refine Fw.f rfl (Ke (a:=m2) (b:=8) rfl rfl rfl om) ?_
 refine Jz 2 ?_
 refine Fw.f rfl (eT (a:=w.flags) (j:=(m2%8)) rfl rfl rfl (by simp only[IntKind.bits];omega)) ?_
 refine Fw.f rfl (QB (a:=(w.flags/2^(m2%8))) (b:=1) rfl rfl rfl (Nat.lt_of_le_of_lt (Nat.div_le_self _ _) hfl) om) ?_
 refine Jz 1 ?_
 refine Es [.bool (decide ((((w.flags/2^(m2%8))&&& 1:Nat):Int)=1))] fun b129=>?_
 refine Fw.ge rfl rfl rfl rfl (Bg oW (i:=2) (j:=0) (el:=decide ((((w.flags/2^(m2%8))&&& 1:Nat):Int)=1)) rfl s61 rfl rfl rfl rfl rfl om om) ?_
 rintro _ _ ⟨A130,q130,rfl,rfl⟩
 refine⟨ocs (oca 6 rfl) (ocn _),?_⟩
 refine Jz 1 ?_
 refine Fw.up rfl rfl rfl (Up.store (i:=1) rfl rfl rfl c61 rfl rfl (bt1 rfl)) (ocs (oca 6 rfl) (ocn _)) ?_
 refine Jz 8 ?_
 refine Cg ⟨⟨A130,q130,(G++[decide ((((w.flags/2^(m2%8))&&& 1:Nat):Int)=1)]),m2+1,rfl,rfl,rfl,om,(by rw[wZ,←hG])⟩,sb⟩
 refine Jz 17 ?_
 refine Cz (aLz) 3 1 (Le (Ie (fun mz ρ Γ=>∃(Fa:OA) (qf:Nat) (Fl:List Int) (la:Int) (k:Nat),ρ=[(5,pv b5),(10,pv b10),(11,pv b11),(12,pv b12),(13,pv b13),(14,pv b14),(15,pv b15),(20,pv b20),(24,iv la),(25,nv k)]∧Γ=[box b20 [vs Ap P qp,iv w.now,vs Gp G qg,nv w.before,vs Fa Fl qf] 64,rows aLz 3 1 Fa qf Fl,rows Qv 4 1 Gp qg G,rows aLz 2 1 Ap qp P,ros Be Br_2 (Sg (w.disk.take 16)),ros Be Bo_2 (ofT (w.disk.take 16)),box b5 (cW w) 31,box b10 [nz,nz,nz] 56,box b11 [nz,nz,nz] 60,box b12 [nz,iv 0,nz,iv 0,nz] 64,box b13 [nz,iv 0,nz,iv 0,nz] 65,ros aLz w.Av w.vars,ros Be w.At w.tabs,ros Be w.Ad w.disk,ros aLz w.Aa w.args,ros Gw w.Af w.fail,box b14 [vs Ao O qo,vs Ta T qa,vs Bo_2 (ofT (w.disk.take 16)) qo__2] 56,box b15 [vs A53 O q53,vs Tr R qr,vs Br_2 (Sg (w.disk.take 16)) qr__2] 60,rows aLz 2 1 Ao qo O,rows aLz 2 1 A53 q53 O,rows Tb.cells 54 1 Ta qa T,De Be (T.map Tb.ar),rows Tb.cells 58 1 Tr qr R,De Be (R.map Tb.ar)]∧mz=8-k∧(k≤8)∧(Fl.length=k)∧(-1≤la∧la≤256+4*k)) (8-0) ⟨⟨none,0,([]:List Int),(-1),0,rfl,rfl,rfl,om,rfl,om⟩,sb⟩ ?_))
 rintro mz _ _ ⟨Fa,qf,Fl,la,k,rfl,rfl,rfl,hk8,hFl,hla⟩
 refine Jz 8 ?_
 refine JgP ?_ ?_<;>intro g138
 refine Jz 5 ?_
 refine Jcp rfl ?_ ?_<;>intro k141
 refine Jz 5 ?_
 obtain⟨y,hy⟩:=exg w.fail k om
 have hym:y%4<4:=Nat.mod_lt _ (by decide)
 refine Jfw [box b5 (cW w) 31] [0,1,2,6,8,103,4,5,107,109,110,11,12,13,14] (ocs (oca 6 rfl) (ocn _)) ?_
 refine Ib ?_
 refine Fw.f rfl (Hl rfl rfl rfl om) ?_
 refine Jz 4 ?_
 refine Fw.f rfl (Fv rfl rfl underlying5 underlying3 (IntWalk.i64_in _ om)) ?_
 refine Fw.f rfl (Rd.max rfl rfl rfl) ?_
 refine Jz 3 ?_
 refine Fw.f rfl (Ke (a:=y) (b:=4) rfl rfl rfl om) ?_
 refine Fw.f rfl (Fv rfl rfl underlying5 underlying3 (IntWalk.i64_in _ om)) ?_
 refine Fw.f rfl (Hl rfl rfl rfl om) ?_
 refine Jz 7 ?_
 refine Eg [iv ((max (la+1) ((w.before:Nat):Int))+((y%4:Nat):Int))] fun b161=>?_
 refine Jge rfl rfl rfl (Bg Cy (i:=2) (j:=0) (el:=(max (la+1) ((w.before:Nat):Int))+((y%4:Nat):Int)) rfl s62 rfl rfl rfl rfl rfl om om) ?_
 rintro _ _ ⟨A162,q162,rfl,rfl⟩
 refine Jz 11 ?_
 refine Cg ⟨⟨A162,q162,(Fl++[(max (la+1) ((w.before:Nat):Int))+((y%4:Nat):Int)]),(max (la+1) ((w.before:Nat):Int))+((y%4:Nat):Int),k+1,rfl,rfl,rfl,om,(by rw[lap,hFl];rfl),om⟩,sb⟩
 refine Jz 6 ?_
 refine Jfw [box b14 [vs Ao O qo,vs Ta T qa,vs Bo_2 (ofT (w.disk.take 16)) qo__2] 56,box b15 [vs A53 O q53,vs Tr R qr,vs Br_2 (Sg (w.disk.take 16)) qr__2] 60,box b20 [vs Ap P qp,iv w.now,vs Gp G qg,nv w.before,vs Fa Fl qf] 64] [0,1,2,3,4,5,6,7,8,9,10,11,12,13,514,515,516,517] (ocs (oca 16 rfl) (ocs (oca 17 rfl) (ocs (oca 0 rfl) (ocn _)))) ?_
 refine Jz 13 ?_
 refine Fw.f rfl (.bd [vs Ap P qp,iv w.now,vs Gp G qg,nv w.before,vs Fa Fl qf]) ?_
 refine Fw.up rfl rfl rfl (Bl (i:=7) rfl rfl rfl r56 rfl rfl rfl (bta rfl)) (ocs (oca 16 rfl) (ocs (oca 17 rfl) (ocs (oca 0 rfl) (ocn _)))) ?_
 refine Fw.up rfl rfl rfl (Bl (i:=8) rfl rfl rfl r60 rfl rfl rfl (bta rfl)) (ocs (oca 16 rfl) (ocs (oca 17 rfl) (ocs (oca 0 rfl) (ocn _)))) ?_
 refine Fw.up rfl rfl rfl (Bl (i:=9) rfl rfl rfl r64 rfl rfl rfl (bta rfl)) (ocs (oca 16 rfl) (ocs (oca 17 rfl) (ocs (oca 0 rfl) (ocn _)))) ?_
 refine Fw.up rfl rfl rfl (Bl (i:=10) rfl rfl rfl r65 rfl rfl rfl (bta rfl)) (ocs (oca 16 rfl) (ocs (oca 17 rfl) (ocs (oca 0 rfl) (ocn _)))) ?_
 refine Jz 3 ?_
 have hFl8:Fl.length≤8:=om
 refine JE (i1:=7) (i2:=8) (i3:=9) (i4:=10) [18,19,19,5,17,17,17,4,3,2,1] rfl (.inl rfl) results11 rfl rfl r56 rfl rfl rfl r60 rfl rfl rfl r64 rfl rfl rfl r65 rfl ?_
 exact⟨⟨Ao,qo,O,Ta,qa,T,⟨Bo_2,qo__2,(ofT (w.disk.take 16))⟩⟩,⟨A53,q53,O,Tr,qr,R,⟨Br_2,qr__2,(Sg (w.disk.take 16))⟩⟩,Fa,qf,Fl,Ap,qp,P,Gp,qg,G,rfl,rfl,by unfold Sx.val stV;rw[hT,hO,hin],by unfold Sx.val stV;rw[hR,hO,hin,←(iU (w.disk.take 16)).1],hFl8,by rw[hP,hmn],by rw[hG,show m2=nf from by omega],hTq,hdq⟩
 refine Jz 12 ?_
 refine Jfw [box b14 [vs Ao O qo,vs Ta T qa,vs Bo_2 (ofT (w.disk.take 16)) qo__2] 56,box b15 [vs A53 O q53,vs Tr R qr,vs Br_2 (Sg (w.disk.take 16)) qr__2] 60,box b20 [vs Ap P qp,iv w.now,vs Gp G qg,nv w.before,vs Fa Fl qf] 64] [0,1,2,3,4,5,6,7,8,9,10,11,12,13,514,515,516,517] (ocs (oca 16 rfl) (ocs (oca 17 rfl) (ocs (oca 0 rfl) (ocn _)))) ?_
 refine Jz 13 ?_
 refine Fw.f rfl (.bd [vs Ap P qp,iv w.now,vs Gp G qg,nv w.before,vs Fa Fl qf]) ?_
 refine Fw.up rfl rfl rfl (Bl (i:=7) rfl rfl rfl r56 rfl rfl rfl (bta rfl)) (ocs (oca 16 rfl) (ocs (oca 17 rfl) (ocs (oca 0 rfl) (ocn _)))) ?_
 refine Fw.up rfl rfl rfl (Bl (i:=8) rfl rfl rfl r60 rfl rfl rfl (bta rfl)) (ocs (oca 16 rfl) (ocs (oca 17 rfl) (ocs (oca 0 rfl) (ocn _)))) ?_
 refine Fw.up rfl rfl rfl (Bl (i:=9) rfl rfl rfl r64 rfl rfl rfl (bta rfl)) (ocs (oca 16 rfl) (ocs (oca 17 rfl) (ocs (oca 0 rfl) (ocn _)))) ?_
 refine Fw.up rfl rfl rfl (Bl (i:=10) rfl rfl rfl r65 rfl rfl rfl (bta rfl)) (ocs (oca 16 rfl) (ocs (oca 17 rfl) (ocs (oca 0 rfl) (ocn _)))) ?_
 refine Jz 3 ?_
 have hFl8:Fl.length≤8:=om
 refine JE (i1:=7) (i2:=8) (i3:=9) (i4:=10) [18,19,19,5,17,17,17,4,3,2,1] rfl (.inl rfl) results11 rfl rfl r56 rfl rfl rfl r60 rfl rfl rfl r64 rfl rfl rfl r65 rfl ?_
 exact⟨⟨Ao,qo,O,Ta,qa,T,⟨Bo_2,qo__2,(ofT (w.disk.take 16))⟩⟩,⟨A53,q53,O,Tr,qr,R,⟨Br_2,qr__2,(Sg (w.disk.take 16))⟩⟩,Fa,qf,Fl,Ap,qp,P,Gp,qg,G,rfl,rfl,by unfold Sx.val stV;rw[hT,hO,hin],by unfold Sx.val stV;rw[hR,hO,hin,←(iU (w.disk.take 16)).1],hFl8,by rw[hP,hmn],by rw[hG,show m2=nf from by omega],hTq,hdq⟩
end Go.Proofs.YtlihklladkagpaaGreatDoor
