/- Own text. -/
import Derived.Test.YtlihklladkagpaaGreatDoorXc
import Derived.Test.YtlihklladkagpaaGreatDoorCb
set_option linter.unusedVariables false
set_option linter.unusedSimpArgs false
set_option maxHeartbeats 2000000
set_option maxRecDepth 100000
namespace Go.Proofs.YtlihklladkagpaaGreatDoor
open Go.Proofs.Tryz
open Go.RowKit Go.Flow Go.Mem Go.Sep
structure Wx where
 Av:OA
 qv:Nat
 vars:List Int
 At:OA
 qt:Nat
 tabs:List (Int×Int)
 Ad:OA
 qd:Nat
 disk:List (Int×Int)
 Aa:OA
 qa:Nat
 args:List Int
 now:Int
 flags:Nat
 before:Nat
 Af:OA
 qf:Nat
 fail:List Nat
def Wx.cells(w:Wx):List Value:=[vs w.Av w.vars w.qv,vs w.At w.tabs w.qt,vs w.Ad w.disk w.qd,vs w.Aa w.args w.qa, .int .i64 w.now, .int .u8 ((w.flags:Nat):Int), .int .u8 ((w.before:Nat):Int),vs w.Af w.fail w.qf]
structure Wx.ok(w:Wx):Prop where
 qt:w.tabs.length≤w.qt
 qd:w.disk.length≤w.qd
 before:w.before<256
def padV(l:List Int)(n:Nat):List Int:=(List.range n).map fun i=>l.getD i 0
def tabsV(l:List (Int×Int))(n:Nat):List (List (Int×Int)):=(List.range n).map fun i=>ofT (l.take (16-i))
def stV(w:Wx)(mv nt:Nat):List Int×List (List (Int×Int))×List (Int×Int):=(padV w.vars mv,tabsV w.tabs nt,ofT (w.disk.take 16))
theorem pad_succ(l:List Int)(n:Nat):padV l (n+1)=padV l n++[l.getD n 0]:=by simp[padV,List.range_succ]
theorem pad_len(l:List Int)(n:Nat):(padV l n).length=n:=by simp[padV]
theorem tabs_succ(l:List (Int×Int))(n:Nat):tabsV l (n+1)=tabsV l n++[ofT (l.take (16-n))]:=by simp[tabsV,List.range_succ]
theorem tabs_len(l:List (Int×Int))(n:Nat):(tabsV l n).length=n:=by simp[tabsV]
theorem fam_snoc{T:List Tb}{e:Tb}{Γ:List Chunk}(h:Γ[0]?=some (ros encEn e.A e.l)):∀p∈(T++[e]).map Tb.ar,p∈T.map Tb.ar∨ros encEn p.1 p.2∈Γ:=fun p hp=>by
 rw[List.map_append]at hp
 rcases List.mem_append.1 hp with h1|h1
 ·exact .inl h1
 ·rw[List.mem_singleton.1 h1];exact .inr (mog h)
open Go.Sep
def lowN:List (Int×Int)→Int→Nat
 |[],_=>0
 |e::r,k=>if e.1<k then lowN r k+1 else 0
theorem low_le(k:Int):∀l:List (Int×Int),lowN l k≤l.length
 |[]=>Nat.le_refl _
 |e::r=>by rw[lowN];split<;>simp[low_le k r]
theorem low_iff{k:Int}:∀{l:List (Int×Int)} {h:Nat} {x:Int×Int},Asc l→l[h]?=some x→(x.1<k↔h<lowN l k)
 |[],h,x,_,hx=>by simp at hx
 | e ::r,h,x,ha,hx=>by
   obtain⟨h1,h2⟩:=List.pairwise_cons.1 ha
   rw[lowN]
   cases h with
   | zero=>
     obtain rfl:e=x:=by simpa using hx
     by_cases c:e.1<k
     ·simp[c]
     ·simp[c]
   | succ h=>
     have hx':r[h]?=some x:=by simpa using hx
     by_cases c:e.1<k
     ·rw[if_pos c,low_iff h2 hx'];omega
     · rw[if_neg c]
       have:=h1 x (mog hx')
       omega
theorem get_cons(e:Int×Int)(r:List (Int×Int))(k:Int):getT (e::r) k=if e.1=k then some e.2 else getT r k:=by
 unfold getT
 rw[List.find?_cons]
 by_cases c:e.1=k<;>simp[c]
theorem get_above{k:Int}:∀{l:List (Int×Int)},(∀y∈l,k<y.1)→getT l k=none
 |[],_=>rfl
 | e::r,h=>by
   rw[get_cons,if_neg (by have:=h e (List.mem_cons_self ..);omega)]
   exact get_above fun y hy=>h y (List.mem_cons_of_mem _ hy)
theorem get_low{k:Int}:∀{l:List (Int×Int)},Asc l→getT l k=match l[lowN l k]? with|some y=>if y.1=k then some y.2 else none|none=>none
 |[],_=>rfl
 | e ::r,ha=>by
   obtain⟨h1,h2⟩:=List.pairwise_cons.1 ha
   rw[get_cons,lowN]
   by_cases c:e.1<k
   ·rw[if_neg om,if_pos c,get_low h2];simp
   · rw[if_neg c]
     by_cases c2:e.1=k
     ·simp[c2]
     · simp only[c2,if_false,List.getElem?_cons_zero]
       exact get_above fun y hy=>by have:=h1 y hy;omega
theorem get_at{k:Int}{l:List (Int×Int)}(ha:Asc l){y:Int×Int}(hy:l[lowN l k]?=some y):getT l k=if y.1=k then some y.2 else none:=by rw[get_low ha,hy]
theorem get_end{k:Int}{l:List (Int×Int)}(ha:Asc l)(h:¬lowN l k<l.length):getT l k=none:=by rw[get_low ha,List.getElem?_eq_none om]
theorem get_is{k:Int}{l:List (Int×Int)}(ha:Asc l)(h:(getT l k).isSome=true):∃y,l[lowN l k]?=some y∧y.1=k∧getT l k=some y.2:=by
 cases hy:l[lowN l k]? with
 |none=>rw[get_low ha,hy]at h;cases h
 | some y=>
   rw[get_at ha hy]at h⊢
   by_cases c:y.1=k
   ·exact⟨y,rfl,c,by rw[if_pos c]⟩
   ·rw[if_neg c]at h;cases h
theorem put_low{k v:Int}:∀{l:List (Int×Int)},Asc l→putT l k v=l.take (lowN l k)++(k,v)::(if(getT l k).isSome=true then l.drop (lowN l k+1)else l.drop (lowN l k))
 |[],_=>rfl
 | e ::r,ha=>by
   obtain⟨h1,h2⟩:=List.pairwise_cons.1 ha
   rw[putT,lowN,get_cons]
   by_cases c:e.1<k
   ·rw[if_pos c,if_neg (show¬e.1=k by omega),if_pos c,put_low h2];simp
   · rw[if_neg c,if_neg c]
     by_cases c2:e.1=k
     ·simp[c2]
     · have:getT r k=none:=get_above fun y hy=>by have:=h1 y hy;omega
       simp[c2,this]
theorem put_same{k v:Int}:∀{l:List (Int×Int)},Asc l→getT l k=some v→putT l k v=l
 |[],_,h=>by cases h
 | e ::r,ha,h=>by
   obtain⟨h1,h2⟩:=List.pairwise_cons.1 ha
   rw[get_cons]at h
   rw[putT]
   by_cases c2:e.1=k
   · rw[if_pos c2]at h
     obtain rfl:=Option.some.inj h
     rw[if_neg om,if_pos c2,←c2]
   · rw[if_neg c2]at h
     by_cases c:e.1<k
     ·rw[if_pos c,put_same h2 h]
     ·rw[get_above fun y hy=>by have:=h1 y hy;omega]at h;cases h
theorem del_low{k:Int}:∀{l:List (Int×Int)},Asc l→delT l k=if(getT l k).isSome=true then l.take (lowN l k)++l.drop (lowN l k+1)else l
 |[],_=>rfl
 | e :: r,ha=>by
   obtain⟨h1,h2⟩:=List.pairwise_cons.1 ha
   rw[lowN,get_cons]
   by_cases c:e.1<k
   · rw[if_neg (show¬e.1=k by omega),if_pos c]
     have:delT (e::r) k=e::delT r k:=List.filter_cons_of_pos (decide_eq_true om)
     rw[this,del_low h2]
     by_cases d:(getT r k).isSome=true
     ·simp[d]
     ·simp[d]
   · rw [if_neg c]
     by_cases c2:e.1=k
     · have h3:∀y∈r,k<y.1:=fun y hy=>by have:=h1 y hy;omega
       have:delT (e::r) k=delT r k:=List.filter_cons_of_neg (by simp[c2])
       rw[this,del_above h3];simp[c2]
     · have h3:∀y∈e::r,k<y.1:=fun y hy=>by
         rcases List.mem_cons.1 hy with rfl|hy
         ·omega
         ·have:=h1 y hy;omega
       have h4:getT r k=none:=get_above fun y hy=>h3 y (List.mem_cons_of_mem _ hy)
       rw[del_above h3];simp[c2,h4]
theorem del_asc{t:List (Int×Int)}{k:Int}(h:Asc t):Asc (delT t k):=List.Pairwise.filter _ h
theorem put_len{k v:Int}:∀l:List (Int×Int),(putT l k v).length≤l.length+1
 |[]=>Nat.le_refl _
 | e::r=>by
   rw[putT]
   split
   ·have:=put_len (k:=k) (v:=v) r;simp;omega
   ·split<;>simp
theorem put_len_is{k v:Int}:∀{l:List (Int×Int)},Asc l→(getT l k).isSome=true→(putT l k v).length=l.length
 |[],_,h=>by cases h
 | e ::r,ha,h=>by
   obtain⟨h1,h2⟩:=List.pairwise_cons.1 ha
   rw[get_cons]at h
   rw[putT]
   by_cases c2:e.1=k
   ·rw[if_neg om,if_pos c2];simp
   · rw[if_neg c2]at h
     by_cases c:e.1<k
     ·rw[if_pos c];simp[put_len_is h2 h]
     ·rw[get_above fun y hy=>by have:=h1 y hy;omega]at h;cases h
structure Good(t:List (Int×Int)):Prop where
 asc:Asc t
 len:t.length≤16
theorem Good.put{t:List (Int×Int)}(h:Good t)(k v:Int):Good (putR t k v):=by
 unfold putR
 by_cases c:(getT t k).isSome=true∨t.length<16
 · rw[if_pos c]
   refine⟨put_asc h.asc,?_⟩
   rcases c with c|c
   ·rw[put_len_is h.asc c];exact h.len
   ·have:=put_len (k:=k) (v:=v) t;omega
 ·rw[if_neg c];exact h
theorem Good.del{t:List (Int×Int)}(h:Good t)(k:Int):Good (delT t k):=⟨del_asc h.asc,Nat.le_trans (delT_len _ _) h.len⟩
theorem Good.of{l:List (Int×Int)}(h:l.length≤16):Good (ofT l):=⟨(rof_eq l).2,by rw[←(rof_eq l).1];exact Nat.le_trans (rof_len l) h⟩
open Go.RowKit Go.Flow Go.Mem Go.Sep
def flagsV(f n:Nat):List Bool:=(List.range n).map fun m=>decide ((((f/2^(m%8))&&& 1:Nat):Int)=1)
theorem flags_succ(f n:Nat):flagsV f (n+1)=flagsV f n++[decide ((((f/2^(n%8))&&& 1:Nat):Int)=1)]:=by simp[flagsV,List.range_succ]
theorem flags_len(f n:Nat):(flagsV f n).length=n:=by simp[flagsV]
theorem caps_snoc{T:List Tb}{e:Tb}(h:∀x∈T,x.l.length≤x.q)(h2:e.l.length≤e.q):∀x∈T++[e],x.l.length≤x.q:=fun x hx=>by
 rcases List.mem_append.1 hx with h3|h3
 ·exact h x h3
 ·rw[List.mem_singleton.1 h3];exact h2
theorem make_fn(w:Wx)(hw:w.ok)(hfl:w.flags<256)(mv nt na nf:Nat)(hnv:mv≤1000)(hnt:nt≤16)(hna:na≤1000)(hnf:nf≤1000):
    Dz 11 [.agg #[vs w.Av w.vars w.qv,vs w.At w.tabs w.qt,vs w.Ad w.disk w.qd,vs w.Aa w.args w.qa, .int .i64 w.now, .int .u8 ((w.flags:Nat):Int), .int .u8 ((w.before:Nat):Int),vs w.Af w.fail w.qf],nv mv,nv nt,nv na,nv nf] [ros encI w.Av w.vars,ros encEn w.At w.tabs,ros encEn w.Ad w.disk,ros encI w.Aa w.args,ros encY w.Af w.fail] (fun v Γ'=>∃(a b:Sx) (Fa:OA) (qf:Nat) (Fl:List Int) (Ap:OA) (qp:Nat) (P:List Int) (Gp:OA) (qg:Nat) (G:List Bool),v= .tuple #[.agg a.cells.toArray, .agg b.cells.toArray, .agg #[vs Ap P qp, .int .i64 w.now,vs Gp G qg,nv w.before,vs Fa Fl qf], .agg #[vs Ap P qp, .int .i64 w.now,vs Gp G qg,nv w.before,vs Fa Fl qf]]∧Γ'=[rows encI 2 1 a.Av a.qv a.vars,rows Tb.cells 54 1 a.At a.qt a.tabs,rosS encEn (a.tabs.map Tb.ar),ros encEn a.dk.A a.dk.l,rows encI 2 1 b.Av b.qv b.vars,rows Tb.cells 58 1 b.At b.qt b.tabs,rosS encEn (b.tabs.map Tb.ar),ros encEn b.dk.A b.dk.l,rows encI 2 1 Ap qp P,rows encB 4 1 Gp qg G,rows encI 3 1 Fa qf Fl]∧a.val=stV w mv nt∧b.val=stV w mv nt∧Fl.length≤8∧P=padV w.args na∧G=flagsV w.flags nf∧(∀x∈a.tabs,x.l.length≤x.q)∧a.dk.l.length≤a.dk.q):=by
 refine Does.en func11 ntmps11 fun w0=>?_
 refine Js (To.g (Jbo fun b5=>?_))
 refine Jal fun b10=>?_
 refine Jal fun b11=>?_
 refine Jal fun b12=>?_
 refine Jal fun b13=>?_
 refine Jz 4 ?_
 refine Jr (.bd [.slice none 0 0, .slice none 0 0, .slice none 0 0]) ?_
 refine Jr (.bd [.slice none 0 0, .slice none 0 0, .slice none 0 0]) ?_
 refine Jal fun b14=>?_
 refine Jal fun b15=>?_
 refine Jz 12 ?_
 refine JnilRow (encI) 2 1 (Jup1 (Jup2 (Jup12 (Jup12 (Jup12 (Jup12 (Jup12 (Jup8 (Jup9 (Jup10 (Jup11 (Jup12 (JloopS (fun mz ρ Γ=>∃(Ao:OA) (qo:Nat) (O:List Int) (i:Nat),ρ=[(5,pv b5),(10,pv b10),(11,pv b11),(12,pv b12),(13,pv b13),(14,pv b14),(15,pv b15),(2,nv nt),(3,nv na),(4,nv nf),(28,nv mv),(29,nv i)]∧Γ=[box b5 [vs w.Av w.vars w.qv,vs w.At w.tabs w.qt,vs w.Ad w.disk w.qd,vs w.Aa w.args w.qa, .int .i64 w.now, .int .u8 ((w.flags:Nat):Int), .int .u8 ((w.before:Nat):Int),vs w.Af w.fail w.qf] 31,box b10 [.slice none 0 0, .slice none 0 0, .slice none 0 0] 56,box b11 [.slice none 0 0, .slice none 0 0, .slice none 0 0] 60,box b12 [.slice none 0 0, .int .i64 0, .slice none 0 0, .int .i64 0, .slice none 0 0] 64,box b13 [.slice none 0 0, .int .i64 0, .slice none 0 0, .int .i64 0, .slice none 0 0] 65,ros encI w.Av w.vars,ros encEn w.At w.tabs,ros encEn w.Ad w.disk,ros encI w.Aa w.args,ros encY w.Af w.fail,box b14 [vs Ao O qo, .slice none 0 0, .slice none 0 0] 56,box b15 [.slice none 0 0, .slice none 0 0, .slice none 0 0] 60,rows encI 2 1 Ao qo O]∧mz=mv-i∧(i≤mv)∧(O=padV w.vars i)) (mv-0) ⟨⟨none,0,([]:List Int),0,rfl,rfl,rfl,om,rfl⟩,sb⟩ ?_)))))))))))))
 rintro mz _ _ ⟨Ao,qo,O,i,rfl,rfl,rfl,hi,hO⟩
 have hOl:O.length=i:=by rw[hO,pad_len]
 refine Jz 6 ?_
 refine Jcp rfl ?_ ?_<;>intro k30
 refine Jz 25 ?_
 refine Jcp rfl ?_ ?_<;>intro k36
 obtain⟨y,hy⟩:=exg w.vars i om
 refine Jz 13 ?_
 refine To.sn [.int .i64 y] fun b45=>?_
 refine Jge rfl rfl rfl (Ge.append1 encI_ok (i:=13) (j:=0) (el:=y) rfl s28 rfl rfl rfl rfl rfl om om) ?_
 rintro _ _ ⟨A46,q46,rfl,rfl⟩
 refine Jz 10 ?_
 refine To.agP ⟨⟨A46,q46,(O++[y]),i+1,rfl,rfl,rfl,om,(by rw[pad_succ,←hO,List.getD_eq_getElem?_getD,hy];rfl)⟩,sb⟩
 refine Jz 6 ?_
 refine To.sn [.int .i64 0] fun b45_2=>?_
 refine Jge rfl rfl rfl (Ge.append1 encI_ok (i:=13) (j:=0) (el:=0) rfl s28 rfl rfl rfl rfl rfl om om) ?_
 rintro _ _ ⟨A46_2,q46_2,rfl,rfl⟩
 refine Jz 10 ?_
 refine To.agP ⟨⟨A46_2,q46_2,(O++[0]),i+1,rfl,rfl,rfl,om,(by rw[pad_succ,←hO,List.getD_eq_getElem?_getD,List.getElem?_eq_none om];rfl)⟩,sb⟩
 refine Jz 6 ?_
 obtain rfl:i=mv:=om
 refine Jsub [(5,pv b5),(10,pv b10),(11,pv b11),(12,pv b12),(13,pv b13),(14,pv b14),(15,pv b15),(2,nv nt),(3,nv na),(4,nv nf)] sb (JnilRow (encI) 2 1 (Jz 5 ?_))
 refine Jge rfl rfl rfl (Ge.appendL encI_ok (i:=0) (m:=O) rfl s28 rfl rfl rfl (src_row (i:=13) rfl) om om) ?_
 rintro _ _ ⟨A53,q53,rfl,rfl⟩
 refine Jz 12 ?_
 refine JnilRow (Tb.cells) 54 1 (JnilS (enc:=encEn) (JnilRow (Tb.cells) 58 1 (JnilS (enc:=encEn) (Jup1 (Jup2 (Jup3 (Jup4 (Jup17 (Jup17 (Jup17 (Jup17 (Jup17 (Jup17 (Jup17 (Jup17 (Jup17 (Jup17 (Jup17 (Jup17 (Jup17 (JloopS (fun mz ρ Γ=>∃(Ta:OA) (qa:Nat) (T:List Tb) (Tr:OA) (qr:Nat) (R:List Tb) (i:Nat),ρ=[(5,pv b5),(10,pv b10),(11,pv b11),(12,pv b12),(13,pv b13),(14,pv b14),(15,pv b15),(3,nv na),(4,nv nf),(55,nv nt),(56,nv i)]∧Γ=[box b5 [vs w.Av w.vars w.qv,vs w.At w.tabs w.qt,vs w.Ad w.disk w.qd,vs w.Aa w.args w.qa, .int .i64 w.now, .int .u8 ((w.flags:Nat):Int), .int .u8 ((w.before:Nat):Int),vs w.Af w.fail w.qf] 31,box b10 [.slice none 0 0, .slice none 0 0, .slice none 0 0] 56,box b11 [.slice none 0 0, .slice none 0 0, .slice none 0 0] 60,box b12 [.slice none 0 0, .int .i64 0, .slice none 0 0, .int .i64 0, .slice none 0 0] 64,box b13 [.slice none 0 0, .int .i64 0, .slice none 0 0, .int .i64 0, .slice none 0 0] 65,ros encI w.Av w.vars,ros encEn w.At w.tabs,ros encEn w.Ad w.disk,ros encI w.Aa w.args,ros encY w.Af w.fail,box b14 [vs Ao O qo,vs Ta T qa, .slice none 0 0] 56,box b15 [vs A53 O q53,vs Tr R qr, .slice none 0 0] 60,rows encI 2 1 Ao qo O,rows encI 2 1 A53 q53 O,rows Tb.cells 54 1 Ta qa T,rosS encEn (T.map Tb.ar),rows Tb.cells 58 1 Tr qr R,rosS encEn (R.map Tb.ar)]∧mz=nt-i∧(i≤nt)∧(T.map Tb.l=tabsV w.tabs i)∧(R.map Tb.l=tabsV w.tabs i)∧(∀x∈T,x.l.length≤x.q)) (nt-0) ⟨⟨none,0,([]:List Tb),none,0,([]:List Tb),0,rfl,rfl,rfl,om,rfl,rfl,(fun x hx=>by simp at hx)⟩,sb⟩ ?_)))))))))))))))))))))
 rintro mz _ _ ⟨Ta,qa,T,Tr,qr,R,i,rfl,rfl,rfl,hi,hT,hR,hTq⟩
 have hTl:T.length=i:=by have:=congrArg List.length hT;rw[List.length_map,tabs_len]at this;exact this
 have hRl:R.length=i:=by have:=congrArg List.length hR;rw[List.length_map,tabs_len]at this;exact this
 refine Jz 6 ?_
 refine Jcp rfl ?_ ?_<;>intro k57
 refine Jz 15 ?_
 refine Jr (Rd.as (v':=nv (16-i)) (congrArg (Value.int .i64) om) (Rd.sub64 rfl rfl rfl om)) ?_
 refine Jvf (pairs_fn w.At w.qt (16-i) w.tabs hw.qt) rfl (ocn _) ?_
 refine Jz 4 ?_
 have htk:(w.tabs.take (16-i)).length≤16:=by rw[List.length_take];omega
 refine To.take (16-i) 6 rfl (Jflow [] [⟨0,[],0⟩,⟨2,[],0⟩,⟨3,[],4⟩,⟨1,[],1⟩,⟨4,[3],2⟩,⟨5,[3,4],5⟩,⟨6,[],0⟩,⟨7,[],5⟩] mixed.h (by kernel_rfl) (ocn _) (Jz 2 ?_))
 refine Fw.callM rfl rfl rfl rfl rfl .fc (tof_fn w.At w.qt (w.tabs.take (16-i)) om) rfl (ocs (oca 0 rfl) (ocn _)) ?_
 rintro _ _ ⟨Bo,qo_,rfl,rfl⟩
 refine⟨rfl,?_⟩
 refine Jz 1 ?_
 refine Fw.sn [vs Bo (ofT (w.tabs.take (16-i))) qo_] fun b68=>?_
 refine Fw.ge rfl rfl rfl rfl (Ge.append1 encTb (i:=17) (j:=0) (el:=(⟨Bo,qo_,(ofT (w.tabs.take (16-i)))⟩:Tb)) rfl s51 rfl rfl rfl rfl rfl om om) ?_
 rintro _ _ ⟨A69,q69,rfl,rfl⟩
 refine⟨ocn _,?_⟩
 refine Jz 1 ?_
 refine Fw.up rfl rfl rfl (Up.store (i:=13) rfl rfl rfl c51 rfl rfl (bt1 rfl)) (ocn _) ?_
 refine Jz 2 ?_
 refine Jknow (p:=(ofT (w.tabs.take (16-i))).length≤qo_) (fun w hw=>rows_capD 1 rfl hw) (fun hcq=>?_)
 refine Jup1 (JlayRow (JfamS ((T++[(⟨Bo,qo_,(ofT (w.tabs.take (16-i)))⟩:Tb)]).map Tb.ar) 18 rfl (fam_snoc rfl) (Jflow [] [⟨0,[],0⟩,⟨2,[],0⟩,⟨3,[],4⟩,⟨1,[],1⟩,⟨4,[3],2⟩,⟨5,[3,4],5⟩,⟨6,[],0⟩,⟨7,[],5⟩] mixed.h (by kernel_rfl) (ocn _) (Jz 2 ?_))))
 refine Fw.callM rfl rfl rfl rfl rfl .fc (rof_fn w.At w.qt (w.tabs.take (16-i)) om) rfl (ocs (oca 3 rfl) (ocn _)) ?_
 rintro _ _ ⟨Br,qr_,rfl,rfl⟩
 refine⟨rfl,?_⟩
 refine Fw.lo 15 c57 ?_
 refine Fw.sn [vs Br (rofT (w.tabs.take (16-i))) qr_] fun b75=>?_
 refine Fw.ge rfl rfl rfl rfl (Ge.append1 encTb (i:=22) (j:=0) (el:=(⟨Br,qr_,(rofT (w.tabs.take (16-i)))⟩:Tb)) rfl s57 rfl rfl rfl rfl rfl om om) ?_
 rintro _ _ ⟨A76,q76,rfl,rfl⟩
 refine⟨ocn _,?_⟩
 refine Jz 1 ?_
 refine Fw.up rfl rfl rfl (Up.store (i:=17) rfl rfl rfl c57 rfl rfl (bt1 rfl)) (ocn _) ?_
 refine Jz 3 ?_
 refine Jup1 (JlayRow (JfamS ((R++[(⟨Br,qr_,(rofT (w.tabs.take (16-i)))⟩:Tb)]).map Tb.ar) 23 rfl (fam_snoc rfl) (Jz 5 ?_)))
 refine To.agP ⟨⟨A69,q69,(T++[(⟨Bo,qo_,(ofT (w.tabs.take (16-i)))⟩:Tb)]),A76,q76,(R++[(⟨Br,qr_,(rofT (w.tabs.take (16-i)))⟩:Tb)]),i+1,rfl,rfl,rfl,om,(by rw[List.map_append,hT,tabs_succ];rfl),(by rw[List.map_append,hR,tabs_succ,←(rof_eq _).1];rfl),(caps_snoc hTq hcq)⟩,sb⟩
 refine Jz 6 ?_
 have hbf:=hw.before
 have hin:i=nt:=om
 have hdk:(w.disk.take 16).length≤16:=by rw[List.length_take];omega
 refine To.take 16 7 rfl (Jflow [box b5 [vs w.Av w.vars w.qv,vs w.At w.tabs w.qt,vs w.Ad w.disk w.qd,vs w.Aa w.args w.qa, .int .i64 w.now, .int .u8 ((w.flags:Nat):Int), .int .u8 ((w.before:Nat):Int),vs w.Af w.fail w.qf] 31] [⟨0,[],0⟩,⟨1,[],0⟩,⟨4,[],0⟩,⟨5,[],0⟩,⟨2,[],3⟩,⟨3,[],4⟩,⟨8,[3],0⟩,⟨6,[3],3⟩,⟨7,[3],4⟩,⟨9,[3,7],5⟩,⟨10,[],0⟩,⟨11,[],5⟩] mixed.h (by kernel_rfl) (ocs (oca 1 rfl) (ocn _)) (Jz 4 ?_))
 refine Fw.qf (pairs_fn w.Ad w.qd 16 w.disk hw.qd) (ocn _) ?_
 refine Fw.callM rfl rfl rfl rfl rfl .fc (tof_fn w.Ad w.qd (w.disk.take 16) om) rfl (ocs (oca 0 rfl) (ocn _)) ?_
 rintro _ _ ⟨Bo_2,qo__2,rfl,rfl⟩
 refine⟨rfl,?_⟩
 refine Jz 1 ?_
 refine Fw.qf (pairs_fn w.Ad w.qd 16 w.disk hw.qd) (ocn _) ?_
 refine Fw.callM rfl rfl rfl rfl rfl .fc (rof_fn w.Ad w.qd (w.disk.take 16) om) rfl (ocs (oca 1 rfl) (ocn _)) ?_
 rintro _ _ ⟨Br_2,qr__2,rfl,rfl⟩
 refine⟨rfl,?_⟩
 refine Fw.up rfl rfl rfl (Up.storeS (i:=13) rfl rfl rfl r54 rfl rfl rfl (box_takes (ds:=[vs Ao O qo,vs Ta T qa,vs Bo_2 (ofT (w.disk.take 16)) qo__2]) rfl rfl)) (ocs (oca 3 rfl) (ocn _)) ?_
 refine Jz 1 ?_
 refine Fw.up rfl rfl rfl (Up.store (i:=14) rfl rfl rfl c58 rfl rfl (bt1 rfl)) (ocs (oca 3 rfl) (ocn _)) ?_
 refine Jz 3 ?_
 refine Jknow (p:=(ofT (w.disk.take 16)).length≤qo__2) (fun w hw=>rows_capD 1 rfl hw) (fun hdq=>?_)
 refine Jup1 (JlayRow (Jup1 (JlayRow (Jz 2 ?_))))
 refine Jlo 3 c2 ?_
 refine Jz 1 ?_
 refine Jlo 3 c5 ?_
 refine Jr (Rd.conv rfl rfl underlying5 underlying3 (IntWalk.i64_in _ om)) ?_
 refine Jr (.bd [.slice none 0 0, .int .i64 w.now, .slice none 0 0,nv w.before, .slice none 0 0]) ?_
 refine Jal fun b20=>?_
 refine Jz 11 ?_
 refine JnilRow (encI) 2 1 (Jdel4 (Jup1 (JloopS (fun mz ρ Γ=>∃(Ap:OA) (qp:Nat) (P:List Int) (m:Nat),ρ=[(5,pv b5),(10,pv b10),(11,pv b11),(12,pv b12),(13,pv b13),(14,pv b14),(15,pv b15),(20,pv b20),(4,nv nf),(95,nv na),(96,nv m)]∧Γ=[box b20 [vs Ap P qp, .int .i64 w.now, .slice none 0 0,nv w.before, .slice none 0 0] 64,rows encI 2 1 Ap qp P,ros encEn Br_2 (rofT (w.disk.take 16)),ros encEn Bo_2 (ofT (w.disk.take 16)),box b5 [vs w.Av w.vars w.qv,vs w.At w.tabs w.qt,vs w.Ad w.disk w.qd,vs w.Aa w.args w.qa, .int .i64 w.now, .int .u8 ((w.flags:Nat):Int), .int .u8 ((w.before:Nat):Int),vs w.Af w.fail w.qf] 31,box b10 [.slice none 0 0, .slice none 0 0, .slice none 0 0] 56,box b11 [.slice none 0 0, .slice none 0 0, .slice none 0 0] 60,box b12 [.slice none 0 0, .int .i64 0, .slice none 0 0, .int .i64 0, .slice none 0 0] 64,box b13 [.slice none 0 0, .int .i64 0, .slice none 0 0, .int .i64 0, .slice none 0 0] 65,ros encI w.Av w.vars,ros encEn w.At w.tabs,ros encEn w.Ad w.disk,ros encI w.Aa w.args,ros encY w.Af w.fail,box b14 [vs Ao O qo,vs Ta T qa,vs Bo_2 (ofT (w.disk.take 16)) qo__2] 56,box b15 [vs A53 O q53,vs Tr R qr,vs Br_2 (rofT (w.disk.take 16)) qr__2] 60,rows encI 2 1 Ao qo O,rows encI 2 1 A53 q53 O,rows Tb.cells 54 1 Ta qa T,rosS encEn (T.map Tb.ar),rows Tb.cells 58 1 Tr qr R,rosS encEn (R.map Tb.ar)]∧mz=na-m∧(m≤na)∧(P=padV w.args m)) (na-0) ⟨⟨none,0,([]:List Int),0,rfl,rfl,rfl,om,rfl⟩,sb⟩ ?_)))
 rintro mz _ _ ⟨Ap,qp,P,m,rfl,rfl,rfl,hm,hP⟩
 have hPl:P.length=m:=by rw[hP,pad_len]
 refine Jz 6 ?_
 refine Jcp rfl ?_ ?_<;>intro k97
 refine Jz 25 ?_
 refine Jcp rfl ?_ ?_<;>intro k103
 obtain⟨y,hy⟩:=exg w.args m om
 refine Jz 13 ?_
 refine To.sn [.int .i64 y] fun b112=>?_
 refine Jge rfl rfl rfl (Ge.append1 encI_ok (i:=2) (j:=0) (el:=y) rfl s28 rfl rfl rfl rfl rfl om om) ?_
 rintro _ _ ⟨A113,q113,rfl,rfl⟩
 refine Jz 10 ?_
 refine To.agP ⟨⟨A113,q113,(P++[y]),m+1,rfl,rfl,rfl,om,(by rw[pad_succ,←hP,List.getD_eq_getElem?_getD,hy];rfl)⟩,sb⟩
 refine Jz 6 ?_
 refine To.sn [.int .i64 0] fun b112_2=>?_
 refine Jge rfl rfl rfl (Ge.append1 encI_ok (i:=2) (j:=0) (el:=0) rfl s28 rfl rfl rfl rfl rfl om om) ?_
 rintro _ _ ⟨A113_2,q113_2,rfl,rfl⟩
 refine Jz 10 ?_
 refine To.agP ⟨⟨A113_2,q113_2,(P++[0]),m+1,rfl,rfl,rfl,om,(by rw[pad_succ,←hP,List.getD_eq_getElem?_getD,List.getElem?_eq_none om];rfl)⟩,sb⟩
 refine Jz 7 ?_
 have hmn:m=na:=om
 refine Jz 6 ?_
 refine JnilRow (encB) 4 1 (Jup1 (JloopS (fun mz ρ Γ=>∃(Gp:OA) (qg:Nat) (G:List Bool) (m2:Nat),ρ=[(5,pv b5),(10,pv b10),(11,pv b11),(12,pv b12),(13,pv b13),(14,pv b14),(15,pv b15),(20,pv b20),(116,nv nf),(117,nv m2)]∧Γ=[box b20 [vs Ap P qp, .int .i64 w.now,vs Gp G qg,nv w.before, .slice none 0 0] 64,rows encB 4 1 Gp qg G,rows encI 2 1 Ap qp P,ros encEn Br_2 (rofT (w.disk.take 16)),ros encEn Bo_2 (ofT (w.disk.take 16)),box b5 [vs w.Av w.vars w.qv,vs w.At w.tabs w.qt,vs w.Ad w.disk w.qd,vs w.Aa w.args w.qa, .int .i64 w.now, .int .u8 ((w.flags:Nat):Int), .int .u8 ((w.before:Nat):Int),vs w.Af w.fail w.qf] 31,box b10 [.slice none 0 0, .slice none 0 0, .slice none 0 0] 56,box b11 [.slice none 0 0, .slice none 0 0, .slice none 0 0] 60,box b12 [.slice none 0 0, .int .i64 0, .slice none 0 0, .int .i64 0, .slice none 0 0] 64,box b13 [.slice none 0 0, .int .i64 0, .slice none 0 0, .int .i64 0, .slice none 0 0] 65,ros encI w.Av w.vars,ros encEn w.At w.tabs,ros encEn w.Ad w.disk,ros encI w.Aa w.args,ros encY w.Af w.fail,box b14 [vs Ao O qo,vs Ta T qa,vs Bo_2 (ofT (w.disk.take 16)) qo__2] 56,box b15 [vs A53 O q53,vs Tr R qr,vs Br_2 (rofT (w.disk.take 16)) qr__2] 60,rows encI 2 1 Ao qo O,rows encI 2 1 A53 q53 O,rows Tb.cells 54 1 Ta qa T,rosS encEn (T.map Tb.ar),rows Tb.cells 58 1 Tr qr R,rosS encEn (R.map Tb.ar)]∧mz=nf-m2∧(m2≤nf)∧(G=flagsV w.flags m2)) (nf-0) ⟨⟨none,0,([]:List Bool),0,rfl,rfl,rfl,om,rfl⟩,sb⟩ ?_))
 rintro mz _ _ ⟨Gp,qg,G,m2,rfl,rfl,rfl,hm2,hG⟩
 have hGl:G.length=m2:=by rw[hG,flags_len]
 refine Jz 6 ?_
 refine Jcp rfl ?_ ?_<;>intro k118
 refine Jz 10 ?_
 refine Jfw [box b5 [vs w.Av w.vars w.qv,vs w.At w.tabs w.qt,vs w.Ad w.disk w.qd,vs w.Aa w.args w.qa, .int .i64 w.now, .int .u8 ((w.flags:Nat):Int), .int .u8 ((w.before:Nat):Int),vs w.Af w.fail w.qf] 31] [0,2,4,5,101,103,6,7,8,209,10510,11,512] (ocs (oca 5 rfl) (ocn _)) ?_
 refine Jz 3 ?_
 refine Fw.f rfl (Rd.remN (a:=m2) (b:=8) rfl rfl rfl om) ?_
 refine Jz 2 ?_
 refine Fw.f rfl (Rd.shrK (a:=w.flags) (j:=(m2%8)) rfl rfl rfl (by simp only[IntKind.bits];omega)) ?_
 refine Fw.f rfl (Rd.and8 (a:=(w.flags/2^(m2%8))) (b:=1) rfl rfl rfl (Nat.lt_of_le_of_lt (Nat.div_le_self _ _) hfl) om) ?_
 refine Jz 1 ?_
 refine Fw.sn [.bool (decide ((((w.flags/2^(m2%8))&&& 1:Nat):Int)=1))] fun b129=>?_
 refine Fw.ge rfl rfl rfl rfl (Ge.append1 encB_ok (i:=2) (j:=0) (el:=decide ((((w.flags/2^(m2%8))&&& 1:Nat):Int)=1)) rfl s61 rfl rfl rfl rfl rfl om om) ?_
 rintro _ _ ⟨A130,q130,rfl,rfl⟩
 refine⟨ocs (oca 6 rfl) (ocn _),?_⟩
 refine Jz 1 ?_
 refine Fw.up rfl rfl rfl (Up.store (i:=1) rfl rfl rfl c61 rfl rfl (bt1 rfl)) (ocs (oca 6 rfl) (ocn _)) ?_
 refine Jz 8 ?_
 refine To.agP ⟨⟨A130,q130,(G++[decide ((((w.flags/2^(m2%8))&&& 1:Nat):Int)=1)]),m2+1,rfl,rfl,rfl,om,(by rw[flags_succ,←hG])⟩,sb⟩
 refine Jz 17 ?_
 refine JnilRow (encI) 3 1 (Jup1 (JloopS (fun mz ρ Γ=>∃(Fa:OA) (qf:Nat) (Fl:List Int) (la:Int) (k:Nat),ρ=[(5,pv b5),(10,pv b10),(11,pv b11),(12,pv b12),(13,pv b13),(14,pv b14),(15,pv b15),(20,pv b20),(24, .int .i64 la),(25,nv k)]∧Γ=[box b20 [vs Ap P qp, .int .i64 w.now,vs Gp G qg,nv w.before,vs Fa Fl qf] 64,rows encI 3 1 Fa qf Fl,rows encB 4 1 Gp qg G,rows encI 2 1 Ap qp P,ros encEn Br_2 (rofT (w.disk.take 16)),ros encEn Bo_2 (ofT (w.disk.take 16)),box b5 [vs w.Av w.vars w.qv,vs w.At w.tabs w.qt,vs w.Ad w.disk w.qd,vs w.Aa w.args w.qa, .int .i64 w.now, .int .u8 ((w.flags:Nat):Int), .int .u8 ((w.before:Nat):Int),vs w.Af w.fail w.qf] 31,box b10 [.slice none 0 0, .slice none 0 0, .slice none 0 0] 56,box b11 [.slice none 0 0, .slice none 0 0, .slice none 0 0] 60,box b12 [.slice none 0 0, .int .i64 0, .slice none 0 0, .int .i64 0, .slice none 0 0] 64,box b13 [.slice none 0 0, .int .i64 0, .slice none 0 0, .int .i64 0, .slice none 0 0] 65,ros encI w.Av w.vars,ros encEn w.At w.tabs,ros encEn w.Ad w.disk,ros encI w.Aa w.args,ros encY w.Af w.fail,box b14 [vs Ao O qo,vs Ta T qa,vs Bo_2 (ofT (w.disk.take 16)) qo__2] 56,box b15 [vs A53 O q53,vs Tr R qr,vs Br_2 (rofT (w.disk.take 16)) qr__2] 60,rows encI 2 1 Ao qo O,rows encI 2 1 A53 q53 O,rows Tb.cells 54 1 Ta qa T,rosS encEn (T.map Tb.ar),rows Tb.cells 58 1 Tr qr R,rosS encEn (R.map Tb.ar)]∧mz=8-k∧(k≤8)∧(Fl.length=k)∧(-1≤la∧la≤256+4*k)) (8-0) ⟨⟨none,0,([]:List Int),(-1),0,rfl,rfl,rfl,om,rfl,om⟩,sb⟩ ?_))
 rintro mz _ _ ⟨Fa,qf,Fl,la,k,rfl,rfl,rfl,hk8,hFl,hla⟩
 refine Jz 8 ?_
 refine JgP ?_ ?_<;>intro g138
 refine Jz 5 ?_
 refine Jcp rfl ?_ ?_<;>intro k141
 refine Jz 5 ?_
 obtain⟨y,hy⟩:=exg w.fail k om
 have hym:y%4<4:=Nat.mod_lt _ (by decide)
 refine Jfw [box b5 [vs w.Av w.vars w.qv,vs w.At w.tabs w.qt,vs w.Ad w.disk w.qd,vs w.Aa w.args w.qa, .int .i64 w.now, .int .u8 ((w.flags:Nat):Int), .int .u8 ((w.before:Nat):Int),vs w.Af w.fail w.qf] 31] [0,1,2,6,8,103,4,5,107,109,110,11,12,13,14] (ocs (oca 6 rfl) (ocn _)) ?_
 refine Fw.mo ?_
 refine Fw.f rfl (Rd.add64 rfl rfl rfl om) ?_
 refine Jz 4 ?_
 refine Fw.f rfl (Rd.conv rfl rfl underlying5 underlying3 (IntWalk.i64_in _ om)) ?_
 refine Fw.f rfl (Rd.max rfl rfl rfl) ?_
 refine Jz 3 ?_
 refine Fw.f rfl (Rd.remN (a:=y) (b:=4) rfl rfl rfl om) ?_
 refine Fw.f rfl (Rd.conv rfl rfl underlying5 underlying3 (IntWalk.i64_in _ om)) ?_
 refine Fw.f rfl (Rd.add64 rfl rfl rfl om) ?_
 refine Jz 7 ?_
 refine To.sn [.int .i64 ((max (la+1) ((w.before:Nat):Int))+((y%4:Nat):Int))] fun b161=>?_
 refine Jge rfl rfl rfl (Ge.append1 encI_ok (i:=2) (j:=0) (el:=(max (la+1) ((w.before:Nat):Int))+((y%4:Nat):Int)) rfl s62 rfl rfl rfl rfl rfl om om) ?_
 rintro _ _ ⟨A162,q162,rfl,rfl⟩
 refine Jz 11 ?_
 refine To.agP ⟨⟨A162,q162,(Fl++[(max (la+1) ((w.before:Nat):Int))+((y%4:Nat):Int)]),(max (la+1) ((w.before:Nat):Int))+((y%4:Nat):Int),k+1,rfl,rfl,rfl,om,(by rw[lap,hFl];rfl),om⟩,sb⟩
 refine Jz 6 ?_
 refine Jfw [box b14 [vs Ao O qo,vs Ta T qa,vs Bo_2 (ofT (w.disk.take 16)) qo__2] 56,box b15 [vs A53 O q53,vs Tr R qr,vs Br_2 (rofT (w.disk.take 16)) qr__2] 60,box b20 [vs Ap P qp, .int .i64 w.now,vs Gp G qg,nv w.before,vs Fa Fl qf] 64] [0,1,2,3,4,5,6,7,8,9,10,11,12,13,514,515,516,517] (ocs (oca 16 rfl) (ocs (oca 17 rfl) (ocs (oca 0 rfl) (ocn _)))) ?_
 refine Jz 13 ?_
 refine Fw.f rfl (.bd [vs Ap P qp, .int .i64 w.now,vs Gp G qg,nv w.before,vs Fa Fl qf]) ?_
 refine Fw.up rfl rfl rfl (Up.storeS (i:=7) rfl rfl rfl r56 rfl rfl rfl (bta rfl)) (ocs (oca 16 rfl) (ocs (oca 17 rfl) (ocs (oca 0 rfl) (ocn _)))) ?_
 refine Fw.up rfl rfl rfl (Up.storeS (i:=8) rfl rfl rfl r60 rfl rfl rfl (bta rfl)) (ocs (oca 16 rfl) (ocs (oca 17 rfl) (ocs (oca 0 rfl) (ocn _)))) ?_
 refine Fw.up rfl rfl rfl (Up.storeS (i:=9) rfl rfl rfl r64 rfl rfl rfl (bta rfl)) (ocs (oca 16 rfl) (ocs (oca 17 rfl) (ocs (oca 0 rfl) (ocn _)))) ?_
 refine Fw.up rfl rfl rfl (Up.storeS (i:=10) rfl rfl rfl r65 rfl rfl rfl (bta rfl)) (ocs (oca 16 rfl) (ocs (oca 17 rfl) (ocs (oca 0 rfl) (ocn _)))) ?_
 refine Jz 3 ?_
 have hFl8:Fl.length≤8:=om
 refine JendC4 (i1:=7) (i2:=8) (i3:=9) (i4:=10) [18,19,19,5,17,17,17,4,3,2,1] rfl (.inl rfl) results11 rfl rfl r56 rfl rfl rfl r60 rfl rfl rfl r64 rfl rfl rfl r65 rfl ?_
 exact⟨⟨Ao,qo,O,Ta,qa,T,⟨Bo_2,qo__2,(ofT (w.disk.take 16))⟩⟩,⟨A53,q53,O,Tr,qr,R,⟨Br_2,qr__2,(rofT (w.disk.take 16))⟩⟩,Fa,qf,Fl,Ap,qp,P,Gp,qg,G,rfl,rfl,by unfold Sx.val stV;rw[hT,hO,hin],by unfold Sx.val stV;rw[hR,hO,hin,←(rof_eq (w.disk.take 16)).1],hFl8,by rw[hP,hmn],by rw[hG,show m2=nf from by omega],hTq,hdq⟩
 refine Jz 12 ?_
 refine Jfw [box b14 [vs Ao O qo,vs Ta T qa,vs Bo_2 (ofT (w.disk.take 16)) qo__2] 56,box b15 [vs A53 O q53,vs Tr R qr,vs Br_2 (rofT (w.disk.take 16)) qr__2] 60,box b20 [vs Ap P qp, .int .i64 w.now,vs Gp G qg,nv w.before,vs Fa Fl qf] 64] [0,1,2,3,4,5,6,7,8,9,10,11,12,13,514,515,516,517] (ocs (oca 16 rfl) (ocs (oca 17 rfl) (ocs (oca 0 rfl) (ocn _)))) ?_
 refine Jz 13 ?_
 refine Fw.f rfl (.bd [vs Ap P qp, .int .i64 w.now,vs Gp G qg,nv w.before,vs Fa Fl qf]) ?_
 refine Fw.up rfl rfl rfl (Up.storeS (i:=7) rfl rfl rfl r56 rfl rfl rfl (bta rfl)) (ocs (oca 16 rfl) (ocs (oca 17 rfl) (ocs (oca 0 rfl) (ocn _)))) ?_
 refine Fw.up rfl rfl rfl (Up.storeS (i:=8) rfl rfl rfl r60 rfl rfl rfl (bta rfl)) (ocs (oca 16 rfl) (ocs (oca 17 rfl) (ocs (oca 0 rfl) (ocn _)))) ?_
 refine Fw.up rfl rfl rfl (Up.storeS (i:=9) rfl rfl rfl r64 rfl rfl rfl (bta rfl)) (ocs (oca 16 rfl) (ocs (oca 17 rfl) (ocs (oca 0 rfl) (ocn _)))) ?_
 refine Fw.up rfl rfl rfl (Up.storeS (i:=10) rfl rfl rfl r65 rfl rfl rfl (bta rfl)) (ocs (oca 16 rfl) (ocs (oca 17 rfl) (ocs (oca 0 rfl) (ocn _)))) ?_
 refine Jz 3 ?_
 have hFl8:Fl.length≤8:=om
 refine JendC4 (i1:=7) (i2:=8) (i3:=9) (i4:=10) [18,19,19,5,17,17,17,4,3,2,1] rfl (.inl rfl) results11 rfl rfl r56 rfl rfl rfl r60 rfl rfl rfl r64 rfl rfl rfl r65 rfl ?_
 exact⟨⟨Ao,qo,O,Ta,qa,T,⟨Bo_2,qo__2,(ofT (w.disk.take 16))⟩⟩,⟨A53,q53,O,Tr,qr,R,⟨Br_2,qr__2,(rofT (w.disk.take 16))⟩⟩,Fa,qf,Fl,Ap,qp,P,Gp,qg,G,rfl,rfl,by unfold Sx.val stV;rw[hT,hO,hin],by unfold Sx.val stV;rw[hR,hO,hin,←(rof_eq (w.disk.take 16)).1],hFl8,by rw[hP,hmn],by rw[hG,show m2=nf from by omega],hTq,hdq⟩
end Go.Proofs.YtlihklladkagpaaGreatDoor
