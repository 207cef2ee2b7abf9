/- Part 14 of the proof of TopPeek. -/
import Derived.Test.YtnkcbfgfkadoaaaGreatX13
set_option linter.all false
namespace Go.Proofs.YtnkcbfgfkadoaaaGreat.Sx
open Go
set_option maxRecDepth 10000
structure bS where
 th:Int
 st:Int
 ga:Int
 le:Int
 re:Int
 ti:Int
 PL:List Int
 cp:Option Nat
 lv:Value
 P:Nat
def bS.cells(C:bS):List SV:=[.int .i64 C.th,.int .i64 C.st,.int .i64 C.ga,.int .i64 C.le,.int .i64 C.re,.int .i64 C.ti,.slice C.P 0 C.PL.length C.cp,.val C.lv]
structure Ev where
 at_:Int
 th:Int
 kind:Int
 k1:Int
 k2:Int
 k3:Int
 a1:Int
 a2:Int
 a3:Bool
 a4:Int
def Ev.c(v:Ev):List SV:=lB v.at_ v.th v.kind v.k1 v.k2 v.k3 v.a1 v.a2 v.a3 v.a4
def eH(l:List Ev):List SV:=l.flatMap Ev.c
theorem lD:∀l:List Ev,(eH l).length=l.length*10
 |[]=>rfl
 |v::l=>by
  have:=lD l;simp only[eH,List.flatMap_cons,List.length_append,List.length_cons]at this⊢;rw[this];simp[Ev.c,lB];omega
theorem jS(q:Nat→Nat):∀l:List Ev,SV.rens q (eH l)=eH l
 |[]=>rfl
 |v::l=>by
  have:=jS q l;simp only[eH,List.flatMap_cons]at this⊢;rw[SV.rens_append,this];rfl
theorem evsC_app(l m:List Ev):eH (l++m)=eH l++eH m:=by simp[eH]
structure Names where
 ns:Nat
 nm:Nat
 nw:Nat
 nt:Nat
 ne:Nat
 nl:Nat
 ct:Option Nat
 c:Option Nat
def evS(ne:Nat):List Ev→SV
 |[]=>aC
 |l=>.slice ne 0 l.length none
def lgS(nl:Nat):Nat→SV
 |0=>aC
 |n+1=>.slice nl 0 (n+1) none
def tg(i j:Nat):Nat:=1000*(i+1)+j
def At(h:H)(own:Nat→Nat)(m t:Nat)(o:SO):Prop:=h.get m=o∧own m=t∧m<h.n
structure Core(h:H)(own:Nat→Nat)(C:bS)(W:List Int)(nL:Nat)(aD:List Ev)(aL:List Nat)(N:Names):Prop where
 oR:∀m∈h.R,own m=6∧m<h.n
 oC:h.C=[]
 sched:At h own N.ns 0 (.cells 68 11 (C.cells++[.ptr N.nm 0 0,.slice N.nt 0 aL.length N.ct,evS N.ne aD]))
 mem:At h own N.nm 1 (.cells 107 2 [.slice N.nw 0 W.length N.c,lgS N.nl nL])
 words:At h own N.nw 2 (.ints 3 1 W)
 thr:At h own N.nt 3 (.cells 69 1 (aL.map fun t=>.ptr t 0 0))
 ev:aD≠[]→At h own N.ne 4 (.cells 42 10 (eH aD))
 log:nL≠0→At h own N.nl 5 (.any 122 5 nL)
 par:At h own C.P 6 (.ints 3 1 C.PL)
section
variable{h:H}{own:Nat→Nat}{C:bS}{W:List Int}{nL:Nat}{aD:List Ev}{aL:List Nat}{N:Names}
theorem At.ok{m t:Nat}{o:SO}(hR:∀m∈h.R,own m=6∧m<h.n)(hC:h.C=[])(a:At h own m t o)(ht:t≠6):okK h m=true:=by
 simp only[okK,okR,Bool.and_eq_true,List.all_eq_true,hC];refine⟨fun x hx=>?_,fun x hx=>by cases hx⟩;have:=(hR x hx).1;cases hb:Nat.beq x m
 ·rfl
 ·rw[Nat.eq_of_beq_eq_true hb,a.2.1]at this;exact absurd this ht
theorem pB.app{r:Nat→Nat}{R:List Nat}:∀{ns:List Nat} {os:List SO} {i:Nat} {wX:List Nat} {oV:List SO},pB h r R i ns os→pB h r R (i+ns.length) wX oV→pB h r R i (ns++wX) (os++oV)
 |[],[],_,_,_,_,h'=>h'
 |_::ns,_::os,i,_,_,h1,h'=>⟨h1.1,h1.2.1,pB.app h1.2.2 (by rw[List.length_cons]at h';rwa [show i+1+ns.length=i+(ns.length+1) by omega])⟩
 |[],_::_,_,_,_,h1,_=>h1.elim
 |_::_,[],_,_,_,h1,_=>h1.elim
theorem jF{r:Nat→Nat}{n t s k:Nat}{l sm:List SV}(hg:h.get n=.cells t s l)(hk:(k+1)*s≤l.length)(hl:sm.length≤s)(he:∀i v,sm[i]?=some v→l[k*s+i]?=some (v.ren r)):
 ((.spot t s k sm:SO)≠.dead→live h n)∧∀(ρ:bF) (p:Pl) (w:World),OR ρ p w (h.get n)→OR (ρ.via r) p w (.spot t s k sm):=by
 refine⟨fun _=>by unfold live;rw[hg];simp,fun ρ p w ho=>?_⟩;rw[hg]at ho;obtain⟨a1,a2,cs,fr,a3,a4,a5,a6⟩:=ho;refine⟨a1,hl,by omega,cs,fr,a3,a4,a5,fun i v hv=>?_⟩;obtain⟨u,b1,b2⟩:=a6 _ _ (he i v hv);exact⟨u,by rw[←b1];congr 1;omega,(jH (oH ρ r)).2 b2⟩
def aV(C:bS)(W:List Int)(nL:Nat)(aD:List Ev)(aL:List Nat)(N:Names)(i:Nat)(k1 k2 k3:Int)(lf:SV):Env:=
 ⟨C.th,C.st,C.ga,C.le,C.re,C.ti,k1,k2,k3,C.PL.length,aL.length,aD.length,W.length,nL,i,C.cp,N.ct,N.c,C.lv,lf,W,eH aD⟩
def qX(C:bS)(N:Names)(t sb nb lr:Nat):List Nat:=[N.ns,N.nm,N.nw,N.nt,N.ne,t,sb,nb,C.P,lr]
structure Here(h:H)(own:Nat→Nat)(aL:List Nat)(i t sb nb lr:Nat)(ns:Nat)(k1 k2 k3:Int)(lf now:SV):Prop where
 at_:aL[i]?=some t
 thr:At h own t (tg i 0) (.cells 74 5 [lf,.int .i64 k1,.int .i64 k2,.int .i64 k3,now])
 sb:At h own sb (tg i 998) (.cells 49 1 [.ptr ns 0 0])
 nb:At h own nb (tg i 999) (.cells 3 1 [.int .i64 ↑i])
 lr:lr<h.n
theorem base_fit(co:Core h own C W nL aD aL N){X:List Nat}(hX:∀x∈X,10≤x){o8:SO}(h8:o8=.dead∨o8=.ints 3 1 C.PL){i t sb nb lr:Nat}{k1 k2 k3:Int}{lf bV now iF:SV}{lg:SV}{rest:List Nat}{tail:List SO}(he:aD≠[])(hh:Here h own aL i t sb nb lr N.ns k1 k2 k3 lf now)(hlg:lg.ren (nm (qX C N t sb nb lr++rest))=lgS N.nl nL)
 (nI:bV.ren (nm (qX C N t sb nb lr++rest))=lf)(hnow:iF.ren (nm (qX C N t sb nb lr++rest))=now)(ht:pB h (nm (qX C N t sb nb lr++rest)) (3::8::9::X) 10 rest tail):
 pB h (nm (qX C N t sb nb lr++rest)) (3::8::9::X) 0 (qX C N t sb nb lr++rest) ((aV C W nL aD aL N i k1 k2 k3 bV).obj8 o8 lg iF tail):=by
 have hZ:evS N.ne aD=.slice N.ne 0 aD.length none:=by cases aD<;>first|rfl|exact absurd rfl he
 have htag:∀j,tg i j≠6:=fun j=>by unfold tg;omega
 have hc:∀j,j<10→(3::8::9::X).contains j=[3,8,9].contains j:=fun j hj=>by
  have:X.contains j=false:=by
   cases hx:X.contains j
   ·rfl
   ·have:=hX j (by simpa using hx);omega
  simp only[List.contains_cons,this,List.contains_nil]
 have fo:∀j n o,j<10→jI h (nm (qX C N t sb nb lr++rest)) [3,8,9] j n o→jI h (nm (qX C N t sb nb lr++rest)) (3::8::9::X) j n o:=fun j n o hj hf=>by unfold jI at*;rw[hc j hj];exact hf
 generalize hr:nm (qX C N t sb nb lr++rest)=r at*;have e0:r 0=N.ns:=by rw[←hr];rfl
 have e1:r 1=N.nm:=by rw[←hr];rfl
 have e2:r 2=N.nw:=by rw[←hr];rfl
 have e3:r 3=N.nt:=by rw[←hr];rfl
 have e4:r 4=N.ne:=by rw[←hr];rfl
 have e5:r 5=t:=by rw[←hr];rfl
 have e8:r 8=C.P:=by rw[←hr];rfl
 refine⟨co.sched.2.2,fo 0 _ _ (by omega) ⟨co.sched.ok co.oR co.oC (by omega),.of ?_,rfl⟩,co.mem.2.2,fo 1 _ _ (by omega) ⟨co.mem.ok co.oR co.oC (by omega),.of ?_,rfl⟩,co.words.2.2,fo 2 _ _ (by omega) ⟨co.words.ok co.oR co.oC (by omega),.of co.words.1,rfl⟩,co.thr.2.2,fo 3 _ _ (by omega) ?_,(co.ev he).2.2,fo 4 _ _ (by omega) ⟨(co.ev he).ok co.oR co.oC (by omega),.of ?_,rfl⟩,
  hh.thr.2.2,fo 5 _ _ (by omega) ⟨hh.thr.ok co.oR co.oC (htag _),.of ?_,rfl⟩,hh.sb.2.2,fo 6 _ _ (by omega) ⟨hh.sb.ok co.oR co.oC (htag _),.of ?_,rfl⟩,hh.nb.2.2,fo 7 _ _ (by omega) ⟨hh.nb.ok co.oR co.oC (htag _),.of hh.nb.1,rfl⟩,co.par.2.2,fo 8 _ _ (by omega) ?_,hh.lr,fo 9 _ _ (by omega) ⟨fun h=>absurd rfl h,fun _ _ _ _=>trivial⟩,ht⟩
 ·rw[co.sched.1,hZ]
  simp[Env.sO,aV,SO.ren,SV.rens,SV.ren,bS.cells,e1,e3,e4,e8]
 ·rw[co.mem.1,←hlg]
  simp[bI,aV,SO.ren,SV.rens,SV.ren,e2]
 ·refine jF co.thr.1 ?_ (by simp) fun j v hv=>?_
  ·have:=(List.getElem?_eq_some_iff.1 hh.at_).1
   simp[aV];omega
  ·cases j with
   |zero=>
    simp at hv;subst hv;simp[aV,SV.ren,e5,hh.at_]
   |succ j=>simp at hv
 ·rw[(co.ev he).1]
  simp[aV,SO.ren,jS]
 ·rw[hh.thr.1]
  simp[Env.tO,aV,SO.ren,SV.rens,SV.ren,nI,hnow]
 ·rw[hh.sb.1]
  simp[SO.ren,SV.rens,SV.ren,e0]
 ·rcases h8 with e|e<;>subst e
  ·exact⟨fun h=>absurd rfl h,fun _ _ _ _=>trivial⟩
  ·exact⟨fun _=>by unfold live;rw[co.par.1];simp,fun ρ p w h=>by rw[co.par.1]at h;exact h⟩
structure wY(h h':H)(own bZ:Nat→Nat)(i:Nat):Prop where
 n:h.n≤h'.n
 same:∀m,m<h.n→bZ m=own m
 frame:∀m,m<h.n→own m≠0→own m≠1→own m≠2→own m≠4→own m≠5→(∀c,c<1000→own m≠tg i c)→h'.get m=h.get m
theorem wY.at_{h':H}{bZ:Nat→Nat}{i m t:Nat}{o:SO}(f:wY h h' own bZ i)(a:At h own m t o)(h0:t≠0)(h1:t≠1)(h2:t≠2)(h4:t≠4)(h5:t≠5)(hi:∀c,c<1000→t≠tg i c):At h' bZ m t o:=by
 obtain⟨a1,a2,a3⟩:=a;exact⟨by rw[f.frame m a3 (by rw[a2];exact h0) (by rw[a2];exact h1) (by rw[a2];exact h2) (by rw[a2];exact h4) (by rw[a2];exact h5) (fun c hc=>by rw[a2];exact hi c hc)];exact a1,by rw[f.same m a3];exact a2,Nat.lt_of_lt_of_le a3 f.n⟩
def gR(n:Nat)(own nt:Nat→Nat)(m:Nat):Nat:=if m<n then own m else nt (m-n)
theorem rot0(x:Nat):oI [] x=x:=rfl
structure Out6(h:H)(own:Nat→Nat)(C:bS)(nL:Nat)(aD:List Ev)(aL:List Nat)(N:Names)(i t sb nb lr:Nat)(k1 k2 k3:Int)(bV:SV)(W:List Int)(rest:List Nat)(tail:List SO)(ls:List Nat)(os:List SO)(n K:Nat)(nt:Nat→Nat)(W':List Int)(eX:List Ev)(ne jl:Nat)(iF:SV)(X:List Nat):Prop where
 pre:∃lsT,ls=0::1::2::4::5::6::7::lsT
 okls:fO (10+tail.length) (3::8::9::X) n ls=true
 plen:ls.length=os.length
 pK:n-(10+tail.length)≤K
 o0:os[0]?=some ((aV C W nL aD aL N i k1 k2 k3 bV).sO (.slice ne 0 eX.length none))
 o1:os[1]?=some (bI 2 W.length N.c (.slice jl 0 (nL+1) none))
 o2:os[2]?=some (.ints 3 1 W')
 o4:os[4]?=some ((aV C W nL aD aL N i k1 k2 k3 bV).tO iF)
 plog:∃a:Nat,ls[a]?=some jl∧os[a]?=some (SO.any 122 5 (nL+1))
 pev:∃a:Nat,ls[a]?=some ne∧os[a]?=some (SO.cells 42 10 (eH eX))
 nne:eX≠[]
 wlen:W'.length=W.length
 pjl:10+tail.length≤jl∧nt (jl-(10+tail.length))=5
 pne:ne=4∨(10+tail.length≤ne∧nt (ne-(10+tail.length))=4)
theorem core6(co:Core h own C W nL aD aL N){X:List Nat}{o8:SO}{i t sb nb lr:Nat}{k1 k2 k3:Int}{lf bV now tN:SV}{lg:SV}{rest:List Nat}{tail:List SO}{ls:List Nat}{os:List SO}{n K:Nat}{nt:Nat→Nat}{W':List Int}{eX:List Ev}{ne jl:Nat}{iF:SV}(he:aD≠[])(hh:Here h own aL i t sb nb lr N.ns k1 k2 k3 lf now)
 (o:Out6 h own C nL aD aL N i t sb nb lr k1 k2 k3 bV W rest tail ls os n K nt W' eX ne jl iF X)(nI:bV.ren (nm (qX C N t sb nb lr++rest))=lf)
 (ft:Fit h (aT ((aV C W nL aD aL N i k1 k2 k3 bV).obj8 o8 lg tN tail) (3::8::9::X)) (nm (qX C N t sb nb lr++rest)))(eK:eU (3::8::9::X) ((aV C W nL aD aL N i k1 k2 k3 bV).obj8 o8 lg tN tail)=true)(uO:∀m∈rest,own m=5∨∃c,c<1000∧own m=tg i c)(hrl:rest.length=tail.length)(h6:h.n+K≤1000000)
 (hlf2:bV.ren (nx h.n (10+tail.length) [] (qX C N t sb nb lr++rest))=bV.ren (nm (qX C N t sb nb lr++rest))):
 let q:=nx h.n (10+tail.length) [] (qX C N t sb nb lr++rest);let h':=h.lay K (laid q ls os);let bZ:=gR h.n own nt
 Core h' bZ C W' (nL+1) eX aL {N with ne:=q ne,nl:=q jl}∧wY h h' own bZ i∧At h' bZ t (tg i 0) (.cells 74 5 [lf,.int .i64 k1,.int .i64 k2,.int .i64 k3,iF.ren q])∧
  (∀(a l:Nat) (ob:SO),ls[a]?=some l→os[a]?=some ob→h'.get (q l)=ob.ren q∧q l<h'.n∧(l<10+tail.length→bZ (q l)=own (nm (qX C N t sb nb lr++rest) l))∧(10+tail.length≤l→bZ (q l)=nt (l-(10+tail.length))))∧
  (∀m,m<h.n→(∀l∈ls,l<10+tail.length→own m≠own (nm (qX C N t sb nb lr++rest) l))→h'.get m=h.get m):=by
 have hk:((aV C W nL aD aL N i k1 k2 k3 bV).obj8 o8 lg tN tail).length=10+tail.length:=by simp[Env.obj8];omega
 obtain⟨b1,b2,b3⟩:=zG (K:=K) (j:=[]) (n:=n) ft eK (by rw[hk];exact o.okls) (by rw[hk];exact o.pK) (by simp) h6 o.plen;rw[hk]at b1 b2 b3;intro q h' bZ;have hn':h'.n=h.n+K:=rfl;have nm_lt:∀l,l<10+tail.length→nm (qX C N t sb nb lr++rest) l<h.n:=fun l hl=>ft.low l (by rw[sY (by rw[hk];have:=o.okls;simp only[fO,Bool.and_eq_true]at this;have:=Nat.le_of_ble_eq_true this.2;omega),hk];exact hl)
 have uP:∀(a l:Nat) (ob:SO),ls[a]?=some l→os[a]?=some ob→h'.get (q l)=ob.ren q∧q l<h'.n∧(l<10+tail.length→bZ (q l)=own (nm (qX C N t sb nb lr++rest) l))∧(10+tail.length≤l→bZ (q l)=nt (l-(10+tail.length))):=fun a l ob h1 h2=>by
  have hm:=List.mem_of_getElem? h1;obtain⟨c1,c2,c3,c4⟩:=b3 l hm;refine⟨b1 a l ob h1 h2,?_,fun hl=>?_,fun hl=>?_⟩
  ·rw[hn']
   rcases Nat.lt_or_ge l (10+tail.length)with h3|h3
   ·have:=c3 h3;show nx _ _ _ _ l<_;omega
   ·have:=c4 h3;have:=o.pK;show nx _ _ _ _ l<_;omega
  ·obtain⟨d1,d2⟩:=c3 hl
   show gR h.n own nt (nx _ _ _ _ l)=_;rw[d1];unfold gR;rw[if_pos d2]
  ·obtain⟨d1,d2⟩:=c4 hl
   show gR h.n own nt (nx _ _ _ _ l)=_;rw[d1,rot0];unfold gR;rw[if_neg (by omega)];congr 1;omega
 have own_old:∀m,m<h.n→bZ m=own m:=fun m hm=>by show gR h.n own nt m=_;unfold gR;rw[if_pos hm]
 have tags:∀l∈ls,l<10+tail.length→own (nm (qX C N t sb nb lr++rest) l)=0∨own (nm (qX C N t sb nb lr++rest) l)=1∨own (nm (qX C N t sb nb lr++rest) l)=2∨own (nm (qX C N t sb nb lr++rest) l)=4∨own (nm (qX C N t sb nb lr++rest) l)=5∨∃c,c<1000∧own (nm (qX C N t sb nb lr++rest) l)=tg i c:=fun l hm hl=>by
  have hR:=(b3 l hm).2.1;rcases Nat.lt_or_ge l 10 with h1|h1
  ·have h3:l≠3:=fun e=>hR (by simp[e])
   have h8:l≠8:=fun e=>hR (by simp[e])
   have h9:l≠9:=fun e=>hR (by simp[e])
   have:l=0∨l=1∨l=2∨l=4∨l=5∨l=6∨l=7:=by omega
   rcases this with e|e|e|e|e|e|e<;>subst e
   ·exact .inl co.sched.2.1
   ·exact .inr (.inl co.mem.2.1)
   ·exact .inr (.inr (.inl co.words.2.1))
   ·exact .inr (.inr (.inr (.inl (co.ev he).2.1)))
   ·exact .inr (.inr (.inr (.inr (.inr ⟨0,by omega,hh.thr.2.1⟩))))
   ·exact .inr (.inr (.inr (.inr (.inr ⟨998,by omega,hh.sb.2.1⟩))))
   ·exact .inr (.inr (.inr (.inr (.inr ⟨999,by omega,hh.nb.2.1⟩))))
  ·have hx:nm (qX C N t sb nb lr++rest) l=rest[l-10]'(by omega):=by
    unfold nm;rw[List.getD_eq_getElem?_getD,List.getElem?_append_right (by simp[qX];omega)];simp[qX];rw[List.getElem?_eq_getElem (by omega)];rfl
   rw[hx];rcases uO _ (List.getElem_mem (by omega:l-10<rest.length))with h2|h2
   ·exact .inr (.inr (.inr (.inr (.inl h2))))
   ·exact .inr (.inr (.inr (.inr (.inr h2))))
 have fr:wY h h' own bZ i:=⟨by rw[hn'];omega,own_old,fun m hm n0 n1 n2 n4 n5 ni=>b2 m fun l hl e=>by
  rcases Nat.lt_or_ge l (10+tail.length)with h1|h1
  ·rw[((b3 l hl).2.2.1 h1).1]at e
   rcases tags l hl h1 with h2|h2|h2|h2|h2|⟨c,hc,h2⟩<;>rw[e]at h2
   ·exact n0 h2
   ·exact n1 h2
   ·exact n2 h2
   ·exact n4 h2
   ·exact n5 h2
   ·exact ni c hc h2
  ·rw[((b3 l hl).2.2.2 h1).1]at e;omega⟩
 have notg:∀x c,x≤6→x≠tg i c:=fun x c hx=>by unfold tg;omega
 obtain⟨lsT,mK⟩:=o.pre;have lt10:∀l,l<10→l<10+tail.length:=fun l hl=>by omega
 have qs:∀l,l<10→q l=nm (qX C N t sb nb lr++rest) l:=fun l hl=>by show nx _ _ _ _ l=_;unfold nx;rw[if_pos (lt10 l hl)]
 have q0:q 0=N.ns:=qs 0 (by omega);have q1:q 1=N.nm:=qs 1 (by omega);have q2:q 2=N.nw:=qs 2 (by omega);have q3:q 3=N.nt:=qs 3 (by omega);have q4:q 4=N.ne:=qs 4 (by omega);have q5:q 5=t:=qs 5 (by omega);have q8:q 8=C.P:=qs 8 (by omega);have g0:=uP 0 0 _ (by rw[mK];rfl) o.o0;have g1:=uP 1 1 _ (by rw[mK];rfl) o.o1;have g2:=uP 2 2 _ (by rw[mK];rfl) o.o2;have g5:=uP 4 5 _ (by rw[mK];rfl) o.o4;obtain⟨al,l1,l2⟩:=o.plog;have gl:=uP al jl _ l1 l2;obtain⟨ae,v1,v2⟩:=o.pev;have ge:=uP ae ne _ v1 v2;have hZ:evS (q ne) eX=.slice (q ne) 0 eX.length none:=by cases eX<;>first|rfl|exact absurd rfl o.nne
 refine⟨⟨fun m hm=>?_,co.oC▸cY _ _,?_,?_,?_,?_,fun _=>?_,fun _=>?_,?_⟩,fr,?_,uP,fun m hm hno=>b2 m fun l hl e=>by
  rcases Nat.lt_or_ge l (10+tail.length)with h1|h1
  ·have e1:=((b3 l hl).2.2.1 h1).1
   rw[e1]at e;exact hno l hl h1 (by rw[e])
  ·rw[((b3 l hl).2.2.2 h1).1]at e;omega⟩
 ·have pZ:m∈h.R:=by
   have:h'.R=h.R:=cQ _ _;rw[←this];exact hm
  obtain⟨r1,r2⟩:=co.oR m pZ;exact⟨by rw[own_old m r2];exact r1,by rw[hn'];omega⟩
 ·refine⟨?_,by rw[←q0,g0.2.2.1 (by omega)];exact co.sched.2.1,by rw[←q0];exact g0.2.1⟩
  show h'.get N.ns=_;rw[←q0,g0.1,hZ];simp[Env.sO,aV,SO.ren,SV.rens,SV.ren,bS.cells,q1,q3,q8]
 ·refine⟨?_,by rw[←q1,g1.2.2.1 (by omega)];exact co.mem.2.1,by rw[←q1];exact g1.2.1⟩
  show h'.get N.nm=_;rw[←q1,g1.1];simp[bI,SO.ren,SV.rens,SV.ren,q2,o.wlen,lgS]
 ·refine⟨?_,by rw[←q2,g2.2.2.1 (by omega)];exact co.words.2.1,by rw[←q2];exact g2.2.1⟩
  show h'.get N.nw=_;rw[←q2,g2.1];rfl
 ·exact fr.at_ co.thr (by omega) (by omega) (by omega) (by omega) (by omega) fun c _=>notg 3 c (by omega)
 ·refine⟨?_,?_,ge.2.1⟩
  ·show h'.get (q ne)=_
   rw[ge.1];simp[SO.ren,jS]
  ·show bZ (q ne)=4
   rcases o.pne with e|⟨e1,e2⟩
   ·rw[ge.2.2.1 (by omega),e];exact(co.ev he).2.1
   ·rw[ge.2.2.2 e1];exact e2
 ·refine⟨?_,?_,gl.2.1⟩
  ·show h'.get (q jl)=_
   rw[gl.1];rfl
  ·show bZ (q jl)=5
   rw[gl.2.2.2 o.pjl.1];exact o.pjl.2
 ·exact fr.at_ co.par (by omega) (by omega) (by omega) (by omega) (by omega) fun c _=>notg 6 c (by omega)
 ·refine⟨?_,by rw[←q5,g5.2.2.1 (by omega)];exact hh.thr.2.1,by rw[←q5];exact g5.2.1⟩
  rw[←q5,g5.1];simp only[Env.tO,aV,SO.ren,SV.rens,SV.ren];have:bV.ren q=lf:=by rw[←nI];exact hlf2
  rw[this]
end
end Go.Proofs.YtnkcbfgfkadoaaaGreat.Sx
namespace Go.Proofs.YtnkcbfgfkadoaaaGreat.Sx
open Go
def kC(limit avail node n saw at_ e1 e2:Int)(e3:Bool)(e4:Int):SO:=.cells 185 11 [.int .i64 limit,.int .i64 avail,.int .i64 node,.int .i64 n,.int .i64 saw,.slice 11 0 3 (some 3),.int .i64 at_,.int .i64 e1,.int .i64 e2,.bool e3,.int .i64 e4]
def jZ(a b c:Nat):SO:=.cells 231 1 [.func (.func a) [] [],.func (.func b) [] [],.func (.func c) [] []]
theorem raise_0_0(e:Env)(x:Nat→SV)(limit avail node n saw e1 e2 e4:Int)(e3:Bool):follow [(4,true),(0,true),(0,true),(2,true),(0,true),(0,true),(2,true),(2,true),(3,true),(3,true)] ((R6 e x (e.objs (.slice 12 0 e.nL none) (.iface 140 (.ptr 10 0 0)) [kC limit avail node n saw 0 e1 e2 e3 e4,jZ 114 115 116,.any 122 5 e.nL])).bind (cR [4] [0,1,2,4,5,6,7,10,11,12,22,16]))=
 some ([(inW (limit) e.nW e.nL e.W,true),(fits (1099511627776-n),true),(decide (List.getD e.W (Int.toNat limit) 0>1099511627776-n),true)]++endC e,(SX.ret,[],[.bool true],23,[e.sO (.slice 22 0 (e.ne+1) none),bI 2 e.nW e.c (.slice 16 0 (e.nL+1) none),.ints 3 1 e.W,.dead,e.tO (.val Value.nilIface),.cells 49 1 [.ptr 0 0 0],.cells 3 1 [.int .i64 ↑e.tn],kC limit avail node n ((List.getD e.W (Int.toNat limit) 0)) (9) (6) (0) (false) (0),jZ 114 115 116,.dead,.cells 42 10 (List.take (bG e.ne 10) e.E++lB (↑(0+(e.nL+1))) (↑e.tn) (2) (e.k1) (e.k2) (e.k3) (6) (0) (false) (0)),.any 122 5 (e.nL+1)])):=by kernel_rfl
theorem raise_0_1(e:Env)(x:Nat→SV)(limit avail node n saw e1 e2 e4:Int)(e3:Bool):follow [(4,true),(0,true),(0,false)] ((R6 e x (e.objs (.slice 12 0 e.nL none) (.iface 140 (.ptr 10 0 0)) [kC limit avail node n saw 0 e1 e2 e3 e4,jZ 114 115 116,.any 122 5 e.nL])).bind (cR [4] [0,1,2,4,5,6,7,10,11,12,16]))=
 some ([(inW (limit) e.nW e.nL e.W,true),(fits (1099511627776-n),true),(decide (List.getD e.W (Int.toNat limit) 0>1099511627776-n),false)],(SX.ret,[],[.bool true],17,[e.sO (.slice 4 0 e.ne none),bI 2 e.nW e.c (.slice 16 0 (e.nL+1) none),.ints 3 1 e.W,.cells 42 10 e.E,e.tO (.iface 140 (.ptr 10 0 0)),.cells 49 1 [.ptr 0 0 0],.cells 3 1 [.int .i64 ↑e.tn],kC limit avail node n ((List.getD e.W (Int.toNat limit) 0)) (1) (e1) (e2) (e3) (e4),jZ 114 115 116,.dead,.any 122 5 (e.nL+1)])):=by kernel_rfl
theorem raise_1_0(e:Env)(x:Nat→SV)(limit avail node n saw e1 e2 e4:Int)(e3:Bool):follow [(4,true),(0,true)] ((R6 e x (e.objs (.slice 12 0 e.nL none) (.iface 140 (.ptr 10 0 0)) [kC limit avail node n saw 1 e1 e2 e3 e4,jZ 114 115 116,.any 122 5 e.nL])).bind (cR [4] [0,1,2,4,5,6,7,10,11,12,18]))=
 some ([(inW (limit) e.nW e.nL e.W,true),(List.getD e.W (Int.toNat limit) 0==saw,true)],(SX.ret,[],[.bool true],19,[e.sO (.slice 4 0 e.ne none),bI 2 e.nW e.c (.slice 18 0 (e.nL+1) none),.ints 3 1 (List.set e.W (Int.toNat limit) (IntKind.wrap .i64 (saw+n))),.cells 42 10 e.E,e.tO (.iface 140 (.ptr 10 0 0)),.cells 49 1 [.ptr 0 0 0],.cells 3 1 [.int .i64 ↑e.tn],kC limit avail node n saw 2 e1 e2 e3 e4,jZ 114 115 116,.dead,.any 122 5 (e.nL+1)])):=by kernel_rfl
theorem raise_1_1(e:Env)(x:Nat→SV)(limit avail node n saw e1 e2 e4:Int)(e3:Bool):follow [(4,true),(0,false)] ((R6 e x (e.objs (.slice 12 0 e.nL none) (.iface 140 (.ptr 10 0 0)) [kC limit avail node n saw 1 e1 e2 e3 e4,jZ 114 115 116,.any 122 5 e.nL])).bind (cR [4] [0,1,2,4,5,6,7,10,11,12,18]))=
 some ([(inW (limit) e.nW e.nL e.W,true),(List.getD e.W (Int.toNat limit) 0==saw,false)],(SX.ret,[],[.bool true],19,[e.sO (.slice 4 0 e.ne none),bI 2 e.nW e.c (.slice 18 0 (e.nL+1) none),.ints 3 1 e.W,.cells 42 10 e.E,e.tO (.iface 140 (.ptr 10 0 0)),.cells 49 1 [.ptr 0 0 0],.cells 3 1 [.int .i64 ↑e.tn],kC limit avail node n saw 0 e1 e2 e3 e4,jZ 114 115 116,.dead,.any 122 5 (e.nL+1)])):=by kernel_rfl
theorem raise_2_0(e:Env)(x:Nat→SV)(limit avail node n saw e1 e2 e4:Int)(e3:Bool):follow [(4,true),(2,true),(0,true),(0,true),(2,true),(2,true),(3,true),(3,true)] ((R6 e x (e.objs (.slice 12 0 e.nL none) (.iface 140 (.ptr 10 0 0)) [kC limit avail node n saw 2 e1 e2 e3 e4,jZ 114 115 116,.any 122 5 e.nL])).bind (cR [4] [0,1,2,4,5,6,7,10,11,12,23,17]))=
 some ([(inW (avail) e.nW e.nL e.W,true)]++endC e,(SX.ret,[],[.bool true],24,[e.sO (.slice 23 0 (e.ne+1) none),bI 2 e.nW e.c (.slice 17 0 (e.nL+1) none),.ints 3 1 (plus avail n e.W),.dead,e.tO (.val Value.nilIface),.cells 49 1 [.ptr 0 0 0],.cells 3 1 [.int .i64 ↑e.tn],kC limit avail node n (saw) (11) (e1) (e2) (e3) (e4),jZ 114 115 116,.dead,.cells 42 10 (List.take (bG e.ne 10) e.E++lB (↑(0+(e.nL+1))) (↑e.tn) (2) (e.k1) (e.k2) (e.k3) (e1) (e2) (e3) (e4)),.any 122 5 (e.nL+1)])):=by kernel_rfl
theorem raise_n_0(e:Env)(x:Nat→SV)(limit avail node n saw e1 e2 e4:Int)(e3:Bool):follow [(4,true),(0,true),(0,true),(2,true),(0,true),(0,true),(9,true),(3,true)] ((R6 e x (e.objs aC (.iface 140 (.ptr 10 0 0)) [kC limit avail node n saw 0 e1 e2 e3 e4,jZ 114 115 116])).bind (cR [4] [0,1,2,4,5,6,7,10,11,21,15]))=
 some ([(decide (0≤limit)&&decide (limit<↑e.nW)&&Nat.blt (Int.toNat limit) (List.length e.W),true),(fits (1099511627776-n),true),(decide (List.getD e.W (Int.toNat limit) 0>1099511627776-n),true)]++endN e,(SX.ret,[],[.bool true],22,[e.sO (.slice 21 0 (e.ne+1) none),bI 2 e.nW e.c (.slice 15 0 1 none),.ints 3 1 e.W,.dead,e.tO (.val Value.nilIface),.cells 49 1 [.ptr 0 0 0],.cells 3 1 [.int .i64 ↑e.tn],kC limit avail node n ((List.getD e.W (Int.toNat limit) 0)) (9) (6) (0) (false) (0),jZ 114 115 116,.cells 42 10 (List.take (bG e.ne 10) e.E++lB (1) (↑e.tn) (2) (e.k1) (e.k2) (e.k3) (6) (0) (false) (0)),.any 122 5 1])):=by kernel_rfl
theorem raise_n_1(e:Env)(x:Nat→SV)(limit avail node n saw e1 e2 e4:Int)(e3:Bool):follow [(4,true),(0,true),(0,false)] ((R6 e x (e.objs aC (.iface 140 (.ptr 10 0 0)) [kC limit avail node n saw 0 e1 e2 e3 e4,jZ 114 115 116])).bind (cR [4] [0,1,2,4,5,6,7,10,11,15]))=
 some ([(decide (0≤limit)&&decide (limit<↑e.nW)&&Nat.blt (Int.toNat limit) (List.length e.W),true),(fits (1099511627776-n),true),(decide (List.getD e.W (Int.toNat limit) 0>1099511627776-n),false)],(SX.ret,[],[.bool true],16,[e.sO (.slice 4 0 e.ne none),bI 2 e.nW e.c (.slice 15 0 1 none),.ints 3 1 e.W,.cells 42 10 e.E,e.tO (.iface 140 (.ptr 10 0 0)),.cells 49 1 [.ptr 0 0 0],.cells 3 1 [.int .i64 ↑e.tn],kC limit avail node n ((List.getD e.W (Int.toNat limit) 0)) (1) (e1) (e2) (e3) (e4),jZ 114 115 116,.any 122 5 1])):=by kernel_rfl
theorem lower_0_0(e:Env)(x:Nat→SV)(limit avail node n saw e1 e2 e4:Int)(e3:Bool):follow [(4,true),(0,true),(2,true),(0,true),(0,true),(2,true),(2,true),(3,true),(3,true)] ((R6 e x (e.objs (.slice 12 0 e.nL none) (.iface 140 (.ptr 10 0 0)) [kC limit avail node n saw 0 e1 e2 e3 e4,jZ 117 118 119,.any 122 5 e.nL])).bind (cR [4] [0,1,2,4,5,6,7,10,11,12,22,16]))=
 some ([(inW (avail) e.nW e.nL e.W,true),(decide (List.getD e.W (Int.toNat avail) 0<n),true)]++endC e,(SX.ret,[],[.bool true],23,[e.sO (.slice 22 0 (e.ne+1) none),bI 2 e.nW e.c (.slice 16 0 (e.nL+1) none),.ints 3 1 e.W,.dead,e.tO (.val Value.nilIface),.cells 49 1 [.ptr 0 0 0],.cells 3 1 [.int .i64 ↑e.tn],kC limit avail node n ((List.getD e.W (Int.toNat avail) 0)) (9) (4) (0) (false) (node),jZ 117 118 119,.dead,.cells 42 10 (List.take (bG e.ne 10) e.E++lB (↑(0+(e.nL+1))) (↑e.tn) (2) (e.k1) (e.k2) (e.k3) (4) (0) (false) (node)),.any 122 5 (e.nL+1)])):=by kernel_rfl
theorem lower_0_1(e:Env)(x:Nat→SV)(limit avail node n saw e1 e2 e4:Int)(e3:Bool):follow [(4,true),(0,false)] ((R6 e x (e.objs (.slice 12 0 e.nL none) (.iface 140 (.ptr 10 0 0)) [kC limit avail node n saw 0 e1 e2 e3 e4,jZ 117 118 119,.any 122 5 e.nL])).bind (cR [4] [0,1,2,4,5,6,7,10,11,12,16]))=
 some ([(inW (avail) e.nW e.nL e.W,true),(decide (List.getD e.W (Int.toNat avail) 0<n),false)],(SX.ret,[],[.bool true],17,[e.sO (.slice 4 0 e.ne none),bI 2 e.nW e.c (.slice 16 0 (e.nL+1) none),.ints 3 1 e.W,.cells 42 10 e.E,e.tO (.iface 140 (.ptr 10 0 0)),.cells 49 1 [.ptr 0 0 0],.cells 3 1 [.int .i64 ↑e.tn],kC limit avail node n ((List.getD e.W (Int.toNat avail) 0)) (1) (e1) (e2) (e3) (e4),jZ 117 118 119,.dead,.any 122 5 (e.nL+1)])):=by kernel_rfl
theorem lower_1_0(e:Env)(x:Nat→SV)(limit avail node n saw e1 e2 e4:Int)(e3:Bool):follow [(4,true),(0,true)] ((R6 e x (e.objs (.slice 12 0 e.nL none) (.iface 140 (.ptr 10 0 0)) [kC limit avail node n saw 1 e1 e2 e3 e4,jZ 117 118 119,.any 122 5 e.nL])).bind (cR [4] [0,1,2,4,5,6,7,10,11,12,18]))=
 some ([(inW (avail) e.nW e.nL e.W,true),(List.getD e.W (Int.toNat avail) 0==saw,true)],(SX.ret,[],[.bool true],19,[e.sO (.slice 4 0 e.ne none),bI 2 e.nW e.c (.slice 18 0 (e.nL+1) none),.ints 3 1 (List.set e.W (Int.toNat avail) (IntKind.wrap .i64 (saw-n))),.cells 42 10 e.E,e.tO (.iface 140 (.ptr 10 0 0)),.cells 49 1 [.ptr 0 0 0],.cells 3 1 [.int .i64 ↑e.tn],kC limit avail node n saw 2 e1 e2 e3 e4,jZ 117 118 119,.dead,.any 122 5 (e.nL+1)])):=by kernel_rfl
theorem lower_1_1(e:Env)(x:Nat→SV)(limit avail node n saw e1 e2 e4:Int)(e3:Bool):follow [(4,true),(0,false)] ((R6 e x (e.objs (.slice 12 0 e.nL none) (.iface 140 (.ptr 10 0 0)) [kC limit avail node n saw 1 e1 e2 e3 e4,jZ 117 118 119,.any 122 5 e.nL])).bind (cR [4] [0,1,2,4,5,6,7,10,11,12,18]))=
 some ([(inW (avail) e.nW e.nL e.W,true),(List.getD e.W (Int.toNat avail) 0==saw,false)],(SX.ret,[],[.bool true],19,[e.sO (.slice 4 0 e.ne none),bI 2 e.nW e.c (.slice 18 0 (e.nL+1) none),.ints 3 1 e.W,.cells 42 10 e.E,e.tO (.iface 140 (.ptr 10 0 0)),.cells 49 1 [.ptr 0 0 0],.cells 3 1 [.int .i64 ↑e.tn],kC limit avail node n saw 0 e1 e2 e3 e4,jZ 117 118 119,.dead,.any 122 5 (e.nL+1)])):=by kernel_rfl
theorem lower_2_0(e:Env)(x:Nat→SV)(limit avail node n saw e1 e2 e4:Int)(e3:Bool):follow [(3,true),(1,true),(2,true),(0,true),(0,true),(2,true),(2,true),(3,true),(3,true)] ((R6 e x (e.objs (.slice 12 0 e.nL none) (.iface 140 (.ptr 10 0 0)) [kC limit avail node n saw 2 e1 e2 e3 e4,jZ 117 118 119,.any 122 5 e.nL])).bind (cR [4] [0,1,2,4,5,6,7,10,11,12,23,17]))=
 some ([(fits (0-n),true),(inW (limit) e.nW e.nL e.W,true)]++endC e,(SX.ret,[],[.bool true],24,[e.sO (.slice 23 0 (e.ne+1) none),bI 2 e.nW e.c (.slice 17 0 (e.nL+1) none),.ints 3 1 (plus limit (0-n) e.W),.dead,e.tO (.val Value.nilIface),.cells 49 1 [.ptr 0 0 0],.cells 3 1 [.int .i64 ↑e.tn],kC limit avail node n (saw) (11) (e1) (e2) (e3) (e4),jZ 117 118 119,.dead,.cells 42 10 (List.take (bG e.ne 10) e.E++lB (↑(0+(e.nL+1))) (↑e.tn) (2) (e.k1) (e.k2) (e.k3) (e1) (e2) (e3) (e4)),.any 122 5 (e.nL+1)])):=by kernel_rfl
theorem lower_n_0(e:Env)(x:Nat→SV)(limit avail node n saw e1 e2 e4:Int)(e3:Bool):follow [(4,true),(0,true),(2,true),(0,true),(0,true),(9,true),(3,true)] ((R6 e x (e.objs aC (.iface 140 (.ptr 10 0 0)) [kC limit avail node n saw 0 e1 e2 e3 e4,jZ 117 118 119])).bind (cR [4] [0,1,2,4,5,6,7,10,11,21,15]))=
 some ([(decide (0≤avail)&&decide (avail<↑e.nW)&&Nat.blt (Int.toNat avail) (List.length e.W),true),(decide (List.getD e.W (Int.toNat avail) 0<n),true)]++endN e,(SX.ret,[],[.bool true],22,[e.sO (.slice 21 0 (e.ne+1) none),bI 2 e.nW e.c (.slice 15 0 1 none),.ints 3 1 e.W,.dead,e.tO (.val Value.nilIface),.cells 49 1 [.ptr 0 0 0],.cells 3 1 [.int .i64 ↑e.tn],kC limit avail node n ((List.getD e.W (Int.toNat avail) 0)) (9) (4) (0) (false) (node),jZ 117 118 119,.cells 42 10 (List.take (bG e.ne 10) e.E++lB (1) (↑e.tn) (2) (e.k1) (e.k2) (e.k3) (4) (0) (false) (node)),.any 122 5 1])):=by kernel_rfl
theorem lower_n_1(e:Env)(x:Nat→SV)(limit avail node n saw e1 e2 e4:Int)(e3:Bool):follow [(4,true),(0,false)] ((R6 e x (e.objs aC (.iface 140 (.ptr 10 0 0)) [kC limit avail node n saw 0 e1 e2 e3 e4,jZ 117 118 119])).bind (cR [4] [0,1,2,4,5,6,7,10,11,15]))=
 some ([(decide (0≤avail)&&decide (avail<↑e.nW)&&Nat.blt (Int.toNat avail) (List.length e.W),true),(decide (List.getD e.W (Int.toNat avail) 0<n),false)],(SX.ret,[],[.bool true],16,[e.sO (.slice 4 0 e.ne none),bI 2 e.nW e.c (.slice 15 0 1 none),.ints 3 1 e.W,.cells 42 10 e.E,e.tO (.iface 140 (.ptr 10 0 0)),.cells 49 1 [.ptr 0 0 0],.cells 3 1 [.int .i64 ↑e.tn],kC limit avail node n ((List.getD e.W (Int.toNat avail) 0)) (1) (e1) (e2) (e3) (e4),jZ 117 118 119,.any 122 5 1])):=by kernel_rfl
def wat(W O:List Int)(n:Nat):Int:=W.getD (Int.toNat (O.getD (ix 1 (aE 0 (Int.toNat (n:Int))) 0) 0)) 0
def pW(W O:List Int)(n:Nat)(G:List Int):List Int:=List.take (bG n 1) G++[wat W O n]
theorem peek_0(e:Env)(x:Nat→SV)(base e1 e2 e4:Int)(e3:Bool):follow [(1,true),(1,true),(1,true),(0,true),(0,true),(2,true),(2,true),(3,true),(3,true)] ((R6 e x (e.objs (.slice 13 0 e.nL none) (.iface 142 (.ptr 10 0 0)) [pD base (0) (0) (.func (.func 149) [] [.ptr 11 0 0]) (.func (.func 150) [] [.ptr 12 0 0]) (e1) (e2) (e3) (e4) (false),.cells 3 1 [.int .i64 base],.cells 142 1 [.ptr 10 0 0],.any 122 5 e.nL])).bind (cR [4] [0,1,2,4,5,6,7,10,11,12,13,23,17]))=
 some ([(fits (base+0),true),(inW (base+0) e.nW e.nL e.W,true)]++endC e,(SX.ret,[],[.bool true],24,[e.sO (.slice 23 0 (e.ne+1) none),bI 2 e.nW e.c (.slice 17 0 (e.nL+1) none),.ints 3 1 e.W,.dead,e.tO (.val Value.nilIface),.cells 49 1 [.ptr 0 0 0],.cells 3 1 [.int .i64 ↑e.tn],pD base (0) (0) (.func (.func 149) [] [.ptr 11 0 0]) (.func (.func 150) [] [.ptr 12 0 0]) (0) ((List.getD e.W (Int.toNat (base+0)) 0)) (false) (0) (true),.cells 3 1 [.int .i64 base],.cells 142 1 [.ptr 10 0 0],.dead,.cells 42 10 (List.take (bG e.ne 10) e.E++lB (↑(0+(e.nL+1))) (↑e.tn) (2) (e.k1) (e.k2) (e.k3) (0) ((List.getD e.W (Int.toNat (base+0)) 0)) (false) (0)),.any 122 5 (e.nL+1)])):=by kernel_rfl
theorem peek_n_0(e:Env)(x:Nat→SV)(base e1 e2 e4:Int)(e3:Bool):follow [(1,true),(1,true),(1,true),(0,true),(0,true),(9,true),(3,true)] ((R6 e x (e.objs aC (.iface 142 (.ptr 10 0 0)) [pD base (0) (0) (.func (.func 149) [] [.ptr 11 0 0]) (.func (.func 150) [] [.ptr 12 0 0]) (e1) (e2) (e3) (e4) (false),.cells 3 1 [.int .i64 base],.cells 142 1 [.ptr 10 0 0]])).bind (cR [4] [0,1,2,4,5,6,7,10,11,12,22,16]))=
 some ([(fits (base+0),true),(decide (0≤base+0)&&decide (base+0<↑e.nW)&&Nat.blt (Int.toNat (base+0)) (List.length e.W),true)]++endN e,(SX.ret,[],[.bool true],23,[e.sO (.slice 22 0 (e.ne+1) none),bI 2 e.nW e.c (.slice 16 0 1 none),.ints 3 1 e.W,.dead,e.tO (.val Value.nilIface),.cells 49 1 [.ptr 0 0 0],.cells 3 1 [.int .i64 ↑e.tn],pD base (0) (0) (.func (.func 149) [] [.ptr 11 0 0]) (.func (.func 150) [] [.ptr 12 0 0]) (0) ((List.getD e.W (Int.toNat (base+0)) 0)) (false) (0) (true),.cells 3 1 [.int .i64 base],.cells 142 1 [.ptr 10 0 0],.cells 42 10 (List.take (bG e.ne 10) e.E++lB (1) (↑e.tn) (2) (e.k1) (e.k2) (e.k3) (0) ((List.getD e.W (Int.toNat (base+0)) 0)) (false) (0)),.any 122 5 1])):=by kernel_rfl
theorem count_0_1(e:Env)(x:Nat→SV)(base left e1 e2 e4:Int)(e3:Bool)(st:Nat)(O:List Int):follow [(3,true),(0,true),(1,true),(8,false)] ((R6 e x (e.objs (.slice 15 0 e.nL none) (.iface 142 (.ptr 10 0 0)) [pD base (st) (left) (.func (.func 167) [] [.ptr 11 0 0,.ptr 12 0 0]) (.func (.func 168) [] [.ptr 12 0 0,.ptr 11 0 0,.ptr 13 0 0]) (e1) (e2) (e3) (e4) (false),.cells 22 1 [.slice 14 0 (4+2*st) none],.cells 22 1 [aC],.cells 142 1 [.ptr 10 0 0],.ints 3 1 O,.any 122 5 e.nL])).bind (cR [4] [0,1,2,4,5,6,7,10,11,12,13,14,15,19,21]))=
 some ([(decide ((0:Int)<((4+2*st:Nat):Int)),true),(Nat.blt 0 (List.length O),true),(inW (List.getD O (ix 1 (aE 0 (0)) 0) 0) e.nW e.nL e.W,true),(((0+1:Nat):Int)==((4+2*st:Nat):Int),false)],(SX.ret,[],[.bool true],22,[e.sO (.slice 4 0 e.ne none),bI 2 e.nW e.c (.slice 19 0 (e.nL+1) none),.ints 3 1 e.W,.cells 42 10 e.E,e.tO (.iface 142 (.ptr 10 0 0)),.cells 49 1 [.ptr 0 0 0],.cells 3 1 [.int .i64 ↑e.tn],pD base st (left) (.func (.func 167) [] [.ptr 11 0 0,.ptr 12 0 0]) (.func (.func 168) [] [.ptr 12 0 0,.ptr 11 0 0,.ptr 13 0 0]) (e1) (e2) (e3) (e4) (false),.cells 22 1 [.slice 14 0 (4+2*st) none],.cells 22 1 [.slice 21 0 1 none],.cells 142 1 [.ptr 10 0 0],.ints 3 1 O,.dead,.any 122 5 (e.nL+1),.cells 3 1 [.int .i64 (List.getD e.W (Int.toNat (List.getD O (ix 1 (aE 0 (0)) 0) 0)) 0)]])):=by kernel_rfl
theorem count_n_1(e:Env)(x:Nat→SV)(base left e1 e2 e4:Int)(e3:Bool)(st:Nat)(O:List Int):follow [(3,true),(0,true),(1,true),(8,false)] ((R6 e x (e.objs aC (.iface 142 (.ptr 10 0 0)) [pD base (st) (left) (.func (.func 167) [] [.ptr 11 0 0,.ptr 12 0 0]) (.func (.func 168) [] [.ptr 12 0 0,.ptr 11 0 0,.ptr 13 0 0]) (e1) (e2) (e3) (e4) (false),.cells 22 1 [.slice 14 0 (4+2*st) none],.cells 22 1 [aC],.cells 142 1 [.ptr 10 0 0],.ints 3 1 O])).bind (cR [4] [0,1,2,4,5,6,7,10,11,12,13,14,18,20]))=
 some ([(decide ((0:Int)<((4+2*st:Nat):Int)),true),(Nat.blt 0 (List.length O),true),(decide (0≤List.getD O (ix 1 (aE 0 (0)) 0) 0)&&decide (List.getD O (ix 1 (aE 0 (0)) 0) 0<↑e.nW)&&Nat.blt (Int.toNat (List.getD O (ix 1 (aE 0 (0)) 0) 0)) (List.length e.W),true),(((0+1:Nat):Int)==((4+2*st:Nat):Int),false)],(SX.ret,[],[.bool true],21,[e.sO (.slice 4 0 e.ne none),bI 2 e.nW e.c (.slice 18 0 1 none),.ints 3 1 e.W,.cells 42 10 e.E,e.tO (.iface 142 (.ptr 10 0 0)),.cells 49 1 [.ptr 0 0 0],.cells 3 1 [.int .i64 ↑e.tn],pD base st (left) (.func (.func 167) [] [.ptr 11 0 0,.ptr 12 0 0]) (.func (.func 168) [] [.ptr 12 0 0,.ptr 11 0 0,.ptr 13 0 0]) (e1) (e2) (e3) (e4) (false),.cells 22 1 [.slice 14 0 (4+2*st) none],.cells 22 1 [.slice 20 0 1 none],.cells 142 1 [.ptr 10 0 0],.ints 3 1 O,.any 122 5 1,.cells 3 1 [.int .i64 (List.getD e.W (Int.toNat (List.getD O (ix 1 (aE 0 (0)) 0) 0)) 0)]])):=by kernel_rfl
theorem count_1_0(e:Env)(x:Nat→SV)(base left e1 e2 e4:Int)(e3:Bool)(st:Nat)(O:List Int)(nG:Nat)(G:List Int):follow [(1,true),(0,true),(0,true),(1,true),(0,true),(3,true),(3,true),(1,true),(0,true),(1,true),(0,true),(0,true),(2,true),(2,true),(3,true),(3,true)] ((R6 e x (e.objs (.slice 16 0 e.nL none) (.iface 142 (.ptr 10 0 0)) [pD base (st) (left) (.func (.func 167) [] [.ptr 11 0 0,.ptr 12 0 0]) (.func (.func 168) [] [.ptr 12 0 0,.ptr 11 0 0,.ptr 13 0 0]) (e1) (e2) (e3) (e4) (false),.cells 22 1 [.slice 14 0 (4+2*st) none],.cells 22 1 [.slice 15 0 nG none],.cells 142 1 [.ptr 10 0 0],.ints 3 1 O,.ints 3 1 G,.any 122 5 e.nL])).bind (cR [4] [0,1,2,4,5,6,7,10,11,12,13,14,15,16,138,20,22]))=
 some ([(decide ((0:Int)≤(nG:Int)),true),(decide ((nG:Int)<((4+2*st:Nat):Int)),true),(Nat.blt (ix 1 (aE 0 (Int.toNat ↑nG)) 0) (List.length O),true),(inW (List.getD O (ix 1 (aE 0 (Int.toNat ↑nG)) 0) 0) e.nW e.nL e.W,true),(Nat.ble (bG (aE 0 nG) 1) (List.length G),true),(Nat.ble (nG+1) 1000000000,true),(((nG+1:Nat):Int)==((4+2*st:Nat):Int),true),(decide (((st:Int)=1∨(st:Int)=2∨(st:Int)=4∨(st:Int)=8)∧0≤base∧base≤100000∧List.length (pW e.W O nG G)=4+2*st∧nG+1=4+2*st),true),(clP (pW e.W O nG G)&&clQ (st) (pW e.W O nG G)&&clE (st) (pW e.W O nG G),true)]++endC e,(SX.ret,[],[.bool true],139,[e.sO (.slice 138 0 (e.ne+1) none),bI 2 e.nW e.c (.slice 20 0 (e.nL+1) none),.ints 3 1 e.W,.dead,e.tO (.val Value.nilIface),.cells 49 1 [.ptr 0 0 0],.cells 3 1 [.int .i64 ↑e.tn],pD base st ((fX left)) (.any) (.any) (0) ((sumG (st) (pW e.W O nG G))) (true) (0) (true),.cells 22 1 [.slice 14 0 (4+2*st) none],.cells 22 1 [.slice 22 0 (nG+1) none],.cells 142 1 [.ptr 10 0 0],.ints 3 1 O,.dead,.dead,.cells 42 10 (List.take (bG e.ne 10) e.E++lB (↑(0+(e.nL+1))) (↑e.tn) (2) (e.k1) (e.k2) (e.k3) (0) ((sumG (st) (pW e.W O nG G))) (true) (0)),.any 122 5 (e.nL+1),.ints 3 1 (pW e.W O nG G)])):=by kernel_rfl
theorem count_1_1(e:Env)(x:Nat→SV)(base left e1 e2 e4:Int)(e3:Bool)(st:Nat)(O:List Int)(nG:Nat)(G:List Int):follow [(1,true),(0,true),(0,true),(1,true),(0,true),(3,true),(3,true),(1,true),(0,false),(0,true),(1,true),(0,true),(0,true),(2,true),(2,true),(3,true),(3,true)] ((R6 e x (e.objs (.slice 16 0 e.nL none) (.iface 142 (.ptr 10 0 0)) [pD base (st) (left) (.func (.func 167) [] [.ptr 11 0 0,.ptr 12 0 0]) (.func (.func 168) [] [.ptr 12 0 0,.ptr 11 0 0,.ptr 13 0 0]) (e1) (e2) (e3) (e4) (false),.cells 22 1 [.slice 14 0 (4+2*st) none],.cells 22 1 [.slice 15 0 nG none],.cells 142 1 [.ptr 10 0 0],.ints 3 1 O,.ints 3 1 G,.any 122 5 e.nL])).bind (cR [4] [0,1,2,4,5,6,7,10,11,12,13,14,15,16,138,20,22]))=
 some ([(decide ((0:Int)≤(nG:Int)),true),(decide ((nG:Int)<((4+2*st:Nat):Int)),true),(Nat.blt (ix 1 (aE 0 (Int.toNat ↑nG)) 0) (List.length O),true),(inW (List.getD O (ix 1 (aE 0 (Int.toNat ↑nG)) 0) 0) e.nW e.nL e.W,true),(Nat.ble (bG (aE 0 nG) 1) (List.length G),true),(Nat.ble (nG+1) 1000000000,true),(((nG+1:Nat):Int)==((4+2*st:Nat):Int),true),(decide (((st:Int)=1∨(st:Int)=2∨(st:Int)=4∨(st:Int)=8)∧0≤base∧base≤100000∧List.length (pW e.W O nG G)=4+2*st∧nG+1=4+2*st),true),(clP (pW e.W O nG G)&&clQ (st) (pW e.W O nG G)&&clE (st) (pW e.W O nG G),false),(fX left==0,true)]++endC e,(SX.ret,[],[.bool true],139,[e.sO (.slice 138 0 (e.ne+1) none),bI 2 e.nW e.c (.slice 20 0 (e.nL+1) none),.ints 3 1 e.W,.dead,e.tO (.val Value.nilIface),.cells 49 1 [.ptr 0 0 0],.cells 3 1 [.int .i64 ↑e.tn],pD base st ((fX left)) (.any) (.any) (0) ((List.getD (pW e.W O nG G) 2 0)) (false) (0) (true),.cells 22 1 [.slice 14 0 (4+2*st) none],.cells 22 1 [.slice 22 0 (nG+1) none],.cells 142 1 [.ptr 10 0 0],.ints 3 1 O,.dead,.dead,.cells 42 10 (List.take (bG e.ne 10) e.E++lB (↑(0+(e.nL+1))) (↑e.tn) (2) (e.k1) (e.k2) (e.k3) (0) ((List.getD (pW e.W O nG G) 2 0)) (false) (0)),.any 122 5 (e.nL+1),.ints 3 1 (pW e.W O nG G)])):=by kernel_rfl
theorem count_1_2(e:Env)(x:Nat→SV)(base left e1 e2 e4:Int)(e3:Bool)(st:Nat)(O:List Int)(nG:Nat)(G:List Int):follow [(1,true),(0,true),(0,true),(1,true),(0,true),(3,true),(3,true),(1,true),(0,false),(0,false)] ((R6 e x (e.objs (.slice 16 0 e.nL none) (.iface 142 (.ptr 10 0 0)) [pD base (st) (left) (.func (.func 167) [] [.ptr 11 0 0,.ptr 12 0 0]) (.func (.func 168) [] [.ptr 12 0 0,.ptr 11 0 0,.ptr 13 0 0]) (e1) (e2) (e3) (e4) (false),.cells 22 1 [.slice 14 0 (4+2*st) none],.cells 22 1 [.slice 15 0 nG none],.cells 142 1 [.ptr 10 0 0],.ints 3 1 O,.ints 3 1 G,.any 122 5 e.nL])).bind (cR [4] [0,1,2,4,5,6,7,10,11,12,13,14,15,16,20,28,25,27,22,26]))=
 some ([(decide ((0:Int)≤(nG:Int)),true),(decide ((nG:Int)<((4+2*st:Nat):Int)),true),(Nat.blt (ix 1 (aE 0 (Int.toNat ↑nG)) 0) (List.length O),true),(inW (List.getD O (ix 1 (aE 0 (Int.toNat ↑nG)) 0) 0) e.nW e.nL e.W,true),(Nat.ble (bG (aE 0 nG) 1) (List.length G),true),(Nat.ble (nG+1) 1000000000,true),(((nG+1:Nat):Int)==((4+2*st:Nat):Int),true),(decide (((st:Int)=1∨(st:Int)=2∨(st:Int)=4∨(st:Int)=8)∧0≤base∧base≤100000∧List.length (pW e.W O nG G)=4+2*st∧nG+1=4+2*st),true),(clP (pW e.W O nG G)&&clQ (st) (pW e.W O nG G)&&clE (st) (pW e.W O nG G),false),(fX left==0,false)],(SX.ret,[],[.bool true],133,[e.sO (.slice 4 0 e.ne none),bI 2 e.nW e.c (.slice 20 0 (e.nL+1) none),.ints 3 1 e.W,.cells 42 10 e.E,e.tO (.iface 142 (.ptr 10 0 0)),.cells 49 1 [.ptr 0 0 0],.cells 3 1 [.int .i64 ↑e.tn],pD base st ((fX left)) (.func (.func 167) [] [.ptr 28 0 0,.ptr 25 0 0]) (.func (.func 168) [] [.ptr 25 0 0,.ptr 28 0 0,.ptr 27 0 0]) (e1) (e2) (e3) (e4) (false),.cells 22 1 [.slice 14 0 (4+2*st) none],.cells 22 1 [.slice 22 0 (nG+1) none],.cells 142 1 [.ptr 10 0 0],.ints 3 1 O,.dead,.dead,.any 122 5 (e.nL+1),.cells 22 1 [.slice 26 0 (4+2*st) none],.cells 22 1 [aC],.cells 142 1 [.ptr 10 0 0],.ints 3 1 (pW e.W O nG G),.ints 3 1 (dA base (st))])):=by kernel_rfl
theorem count_1_3(e:Env)(x:Nat→SV)(base left e1 e2 e4:Int)(e3:Bool)(st:Nat)(O:List Int)(nG:Nat)(G:List Int):follow [(1,true),(0,true),(0,true),(1,true),(0,true),(3,true),(3,false)] ((R6 e x (e.objs (.slice 16 0 e.nL none) (.iface 142 (.ptr 10 0 0)) [pD base (st) (left) (.func (.func 167) [] [.ptr 11 0 0,.ptr 12 0 0]) (.func (.func 168) [] [.ptr 12 0 0,.ptr 11 0 0,.ptr 13 0 0]) (e1) (e2) (e3) (e4) (false),.cells 22 1 [.slice 14 0 (4+2*st) none],.cells 22 1 [.slice 15 0 nG none],.cells 142 1 [.ptr 10 0 0],.ints 3 1 O,.ints 3 1 G,.any 122 5 e.nL])).bind (cR [4] [0,1,2,4,5,6,7,10,11,12,13,14,15,16,20,22]))=
 some ([(decide ((0:Int)≤(nG:Int)),true),(decide ((nG:Int)<((4+2*st:Nat):Int)),true),(Nat.blt (ix 1 (aE 0 (Int.toNat ↑nG)) 0) (List.length O),true),(inW (List.getD O (ix 1 (aE 0 (Int.toNat ↑nG)) 0) 0) e.nW e.nL e.W,true),(Nat.ble (bG (aE 0 nG) 1) (List.length G),true),(Nat.ble (nG+1) 1000000000,true),(((nG+1:Nat):Int)==((4+2*st:Nat):Int),false)],(SX.ret,[],[.bool true],23,[e.sO (.slice 4 0 e.ne none),bI 2 e.nW e.c (.slice 20 0 (e.nL+1) none),.ints 3 1 e.W,.cells 42 10 e.E,e.tO (.iface 142 (.ptr 10 0 0)),.cells 49 1 [.ptr 0 0 0],.cells 3 1 [.int .i64 ↑e.tn],pD base st (left) (.func (.func 167) [] [.ptr 11 0 0,.ptr 12 0 0]) (.func (.func 168) [] [.ptr 12 0 0,.ptr 11 0 0,.ptr 13 0 0]) (e1) (e2) (e3) (e4) (false),.cells 22 1 [.slice 14 0 (4+2*st) none],.cells 22 1 [.slice 22 0 (nG+1) none],.cells 142 1 [.ptr 10 0 0],.ints 3 1 O,.dead,.dead,.any 122 5 (e.nL+1),.ints 3 1 (pW e.W O nG G)])):=by kernel_rfl
end Go.Proofs.YtnkcbfgfkadoaaaGreat.Sx
