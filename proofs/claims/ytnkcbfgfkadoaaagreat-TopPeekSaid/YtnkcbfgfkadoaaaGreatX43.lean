/- Part 43 of the proof of TopPeek. -/
import Derived.Test.YtnkcbfgfkadoaaaGreatX42
set_option linter.all false
namespace Go.Proofs.YtnkcbfgfkadoaaaGreat.Sx
open Go
set_option maxRecDepth 10000
theorem snb_all{k:Nat}(hk:1≤k∧k≤12)(th st ga le re ti:Int)(nW:Nat)(cp:Option Nat)(lv:Value)(W:List Int)(ne:Int):∀x:Nat→SV,follow (oE k) ((bB Tryz.prog (runK Tryz.prog K8 20) false #[] 0 0 1 (aA 5 fR) (cJ 90 [(1,.ptr 0 0 0),(9,.slice 2 0 nW none),(10,.ptr 3 0 0)] x) (aT [.cells 28 10 [.int .i64 th,.int .i64 st,.int .i64 ga,.int .i64 le,.int .i64 re,.int .i64 ti,.slice 1 0 k cp,.val lv,.any,.any],.dead,.ints 3 1 W,.cells 46 3 [.int .i64 ne,aC,aC]] [0,1,2])).bind (cM [1,10] [5,6,7,8] [3,52*k+1] []))=some (snC st nW W k,(90,.normal,[],[.ptr 0 0 0,.ptr 3 0 0],[5,6,7,8].map x,52*k+4,[.cells 46 3 [.int .i64 ne,.slice (52*k+1) 0 k none,.slice (52*k+3) 0 k none],.cells 3 1 ((pQ st W k).map (SV.int .i64))])):=by
 have:k=1∨k=2∨k=3∨k=4∨k=5∨k=6∨k=7∨k=8∨k=9∨k=10∨k=11∨k=12:=by omega
 rcases this with rfl|rfl|rfl|rfl|rfl|rfl|rfl|rfl|rfl|rfl|rfl|rfl
 ·exact snb_1 th st ga le re ti nW cp lv W ne
 ·exact snb_2 th st ga le re ti nW cp lv W ne
 ·exact snb_3 th st ga le re ti nW cp lv W ne
 ·exact snb_4 th st ga le re ti nW cp lv W ne
 ·exact snb_5 th st ga le re ti nW cp lv W ne
 ·exact snb_6 th st ga le re ti nW cp lv W ne
 ·exact snb_7 th st ga le re ti nW cp lv W ne
 ·exact snb_8 th st ga le re ti nW cp lv W ne
 ·exact snb_9 th st ga le re ti nW cp lv W ne
 ·exact snb_10 th st ga le re ti nW cp lv W ne
 ·exact snb_11 th st ga le re ti nW cp lv W ne
 ·exact snb_12 th st ga le re ti nW cp lv W ne
theorem snC_ok{st:Int}{nW:Nat}{W:List Int}(hs:st=1∨st=2∨st=4∨st=8)(hn:nW=W.length):∀v:Nat,v≤12→(∀u:Nat,u<v→snA st u+4+st≤(nW:Int))→holds (snC st nW W v)
 |0,_,_=>trivial
 |v+1,hv,hb=>by
  have hs':1≤st∧st≤8:=by omega
  have m:=fU (v:=(v:Int)) (by omega) (by omega) (show 0≤st by omega) hs'.2;have b:=hb v (by omega);have e:snA st v=(v:Int)*(6+2*st)+2+st:=rfl;refine aG (snC_ok hs hn v (by omega) fun u hu=>hb u (by omega)) ?_;exact aU (decide_eq_true ⟨by omega,by omega,by omega,by omega⟩) (aU (decide_eq_true ⟨by omega,by omega,by omega,b,hs⟩) (aU (aN (by omega)) (aU (decide_eq_true (by omega)) (aU (decide_eq_true (by omega)) (aU (aF.2 (by rw[lH];omega)) (aU (aN (by omega)) (aU (decide_eq_true (by omega)) (aU (decide_eq_true (by omega)) (aU (aF.2 (by rw[lH];omega)) trivial)))))))))
theorem sn_okA:dL (aA 1 fR)=true:=by kernel_rfl
theorem sn_tA:aA 4 (aA 1 fR)=aA 5 fR:=by kernel_rfl
theorem sn_okB:dL (aA 5 fR)=true:=by kernel_rfl
theorem sn_tB:aA 1 (aA 5 fR)=aA 6 fR:=by kernel_rfl
theorem sn_rgC:rgB (aA 6 fR)=some 5:=by kernel_rfl
theorem vG:(dX (aA 6 fR)).toList.all (fun o=>dR o.op)=true:=by kernel_rfl
theorem sn_c0:((dX (aA 6 fR)).toList[0]?).bind mvO=some (7,some 83):=by kernel_rfl
theorem sn_c1:((dX (aA 6 fR)).toList[1]?).bind ldO=some (46,10,some 84,none):=by kernel_rfl
theorem sn_c2:((dX (aA 6 fR)).toList[2]?).bind bsO=some (31,84,some 85):=by kernel_rfl
theorem sn_c3:((dX (aA 6 fR)).toList[3]?).bind apO=some (31,31,83,85,some 86):=by kernel_rfl
theorem sn_c4:((dX (aA 6 fR)).toList[4]?).bind mvO=some (86,some 7):=by kernel_rfl
theorem sn_ag:agN Tryz.prog 46=some 3:=by kernel_rfl
theorem sn_el:elN Tryz.prog 31=some (46,3):=by kernel_rfl
theorem sn_ap:apT Tryz.prog 31 31=some (46,3):=by kernel_rfl
section
variable{h2:H}{eJ:Nat→Nat}{th st ga le re ti:Int}{P:Nat}{PL:List Int}{cp:Option Nat}{u lv cv:Value}{pk:SV}{W:List Int}{aD:List Ev}{N:Names}{aP:List (Nat×List Int)}
def snX(th st ga le re ti:Int)(P np:Nat)(cp:Option Nat)(lv cv:Value)(pk:SV):List SV:=[.int .i64 th,.int .i64 st,.int .i64 ga,.int .i64 le,.int .i64 re,.int .i64 ti,.slice P 0 np cp,.val lv,.val cv,pk]
theorem snX_one{np:Nat}(hp:pk.one=true):∀v∈snX th st ga le re ti P np cp lv cv pk,v.one=true:=by
 intro v hv;simp only[snX,List.mem_cons,List.not_mem_nil,or_false]at hv;rcases hv with rfl|rfl|rfl|rfl|rfl|rfl|rfl|rfl|rfl|rfl<;>first|rfl|exact hp
def OutI(h:H)(own:Nat→Nat)(c:Nat)(l:List SV)(V:SV):Prop:=(V=aC∧c=0∧l=[])∨∃M,V=.slice M 0 c none∧At h own M 9 (.cells 46 3 l)∧l.length=c*3
set_option maxHeartbeats 1000000 in
theorem sn_rest(rg:AH th st ga le re ti PL)(I:sW h2 eJ (tX th st ga le re ti P PL cp u) W aD N aP){bx:Nat}(ab:At h2 eJ bx 7 (.cells 28 10 (snX th st ga le re ti P PL.length cp lv cv pk)))(hpk:pk.one=true){c:Nat}{l:List SV}{V:SV}(hV:OutI h2 eJ c l V)(hc:c≤1000)(hE:aD.length≤100000)(room:h2.n+700≤1000000)
 {n:Nat}{Q:Exit→Act→World→Prop}{b:mX}{ρ:bF}{a:Act}{w:World}{p6 p8:SV}(s:St b 90 [(1,.ptr bx 0 0),(5,.ptr N.ns 0 0),(6,p6),(7,V),(8,p8)] h2 ρ a w)
 (hq:∀h5 own5 S D M aW a' w',sW h5 own5 (tX th st ga le re ti P PL cp u) W aD N aP→At h5 own5 M 9 (.cells 46 3 (l++[.int .i64 (aD.length:Int),.slice S 0 PL.length none,.slice D 0 PL.length none]))→At h5 own5 S 7 (.cells 3 1 ((pQ st W PL.length).map (SV.int .i64)))→
  (∀m,m<h2.n→eJ m≠9→h5.get m=h2.get m∧own5 m=eJ m)→h2.n≤h5.n→h5.n≤h2.n+700→St b 90 [(1,.ptr bx 0 0),(5,.ptr N.ns 0 0),(6,p6),(7,.slice M 0 (c+1) none),(8,p8)] h5 aW a' w'→Q .normal a' w'):cB n Tryz.prog (aA 1 fR) Q a w:=by
 obtain⟨thr,lg,L⟩:=I.look;have gA:1≤st∧st≤8:=by have:=rg.st;omega
 have jN:=rg.np;have mnp:=fU (v:=(PL.length:Int)) (by omega) (by omega) (show 0≤st by omega) gA.2;have hti:=rg.ti;have eW:(W.length:Int)=(PL.length:Int)*(6+2*st)+2*ti:=L.w.len;have eW':(W.length:Int)=aB st PL.length+2*ti:=eW;have a1:Nat.ble (bG (aE 0 W.length) 1) W.length=true:=Nat.ble_eq_true_of_le (by rw[bT,aY];omega);have a2:Nat.ble (0+W.length) 1000000000=true:=Nat.ble_eq_true_of_le (by omega);have a3:decide (0≤st∧st≤8∧PL.length≤100∧0≤ti∧ti≤100)=true:=decide_eq_true ⟨by omega,by omega,by omega,by omega,by omega⟩;have a4:(((0+W.length:Nat):Int)!=aB st PL.length+2*ti)=false:=by rw[Nat.zero_add,eW'];simp
 have lb:=ab.2.2;have lP:=L.par.2.2;have t0:=L.sched.2.1;have t1:=L.mem.2.1;have t2:=L.words.2.1;have t7:=ab.2.1;have mid:∀(h3:H) (AL:Nat→Nat) (gV:bF) (a3:Act) (w3:World),sW h3 AL (tX th st ga le re ti P PL cp u) W aD N aP→At h3 AL (h2.n+1) 7 (.ints 3 1 W)→At h3 AL (h2.n+10) 8 (.cells 46 3 [.int .i64 (aD.length:Int),aC,aC])→(∀m,m<h2.n→h3.get m=h2.get m∧AL m=eJ m)→h3.n=h2.n+13→
  St b 90 [(1,.ptr bx 0 0),(5,.ptr N.ns 0 0),(9,.slice (h2.n+1) 0 W.length none),(10,.ptr (h2.n+10) 0 0),(6,p6),(7,V),(8,p8)] h3 gV a3 w3→cB n Tryz.prog (aA 5 fR) Q a3 w3:=fun h3 AL gV a3 w3 I3 aw am fr hn3 s3=>by
  obtain⟨thr3,lg3,L3⟩:=I3.look;have ab3:At h3 AL bx 7 (.cells 28 10 (snX th st ga le re ti P PL.length cp lv cv pk)):=⟨(fr bx lb).1.trans ab.1,(fr bx lb).2.trans ab.2.1,by omega⟩;have okm:okK h3 (h2.n+10)=true:=zY (fun m hm e=>by have:=(L3.oR m hm).1;rw[e,am.2.1]at this;omega) L3.oC;have nb1:bx≠h2.n+1:=by omega
  have nb2:bx≠h2.n+10:=by omega
  have ft:Fit h3 (aT [.cells 28 10 [.int .i64 th,.int .i64 st,.int .i64 ga,.int .i64 le,.int .i64 re,.int .i64 ti,.slice 1 0 PL.length cp,.val lv,.any,.any],.dead,.ints 3 1 W,.cells 46 3 [.int .i64 (aD.length:Int),aC,aC]] [0,1,2]) (nm [bx,P,h2.n+1,h2.n+10]):=aX (R:=[0,1,2]) (os:=[.cells 28 10 [.int .i64 th,.int .i64 st,.int .i64 ga,.int .i64 le,.int .i64 re,.int .i64 ti,.slice 1 0 PL.length cp,.val lv,.any,.any],.dead,.ints 3 1 W,.cells 46 3 [.int .i64 (aD.length:Int),aC,aC]]) (ns:=[bx,P,h2.n+1,h2.n+10])
   ⟨ab3.2.2,bE rfl (iY ab3.1 (Z:=iI [false,false,false,false,false,false,false,false,true,true] _) rfl (dI _ _) (eC _ _ (snX_one hpk))),L3.par.2.2,bE rfl aZ,aw.2.2,bE rfl (jM aw.1 rfl),am.2.2,rZ rfl okm am.1 rfl,trivial⟩ (by simp[aQ,SO.lives,nb1,nb2]) (by simp) (by omega)
  have cnd:holds (snC st W.length W PL.length):=snC_ok rg.st rfl PL.length jN.2 fun v hv=>by
   have e:snA st v=jG st v+2+st:=rfl;have:=wE (show 0≤st by omega) hv;have e2:(PL.length:Int)*(6+2*st)=jG st PL.length:=rfl;omega
  have mK:fO 4 [0,1,2] (52*PL.length+4) [3,52*PL.length+1]=true:=by
   have e1:Nat.blt 3 (52*PL.length+4)=true:=aF.2 (by omega);have e2:Nat.blt (52*PL.length+1) (52*PL.length+4)=true:=aF.2 (by omega);have e3:Nat.ble 4 (52*PL.length+4)=true:=Nat.ble_eq_true_of_le (by omega);have e4:3≠52*PL.length+1:=by omega
   have e8:Nat.ble 4 1000=true:=rfl;simp only[fO,List.range,List.range.loop,List.all_cons,List.all_nil,List.contains_cons,List.contains_nil,e1,e2,e3,e8,Bool.and_true,Bool.and_eq_true,Bool.or_eq_true,Bool.not_eq_true',decide_eq_true_eq];simp[e4];omega
  refine bD (K:=624) (ns:=[bx,P,h2.n+1,h2.n+10]) bW vA (snb_all jN th st ga le re ti W.length cp lv W aD.length) cnd ft rfl mK rfl (by show 52*PL.length+4-4≤624;omega) (by omega) sn_okB s3 (fun p hp=>by
   have e:cU (nm [bx,P,h2.n+1,h2.n+10]) [(1,SV.ptr 0 0 0),(9,.slice 2 0 W.length none),(10,.ptr 3 0 0)]=[(1,.ptr bx 0 0),(9,.slice (h2.n+1) 0 W.length none),(10,.ptr (h2.n+10) 0 0)]:=rfl;rw[e]at hp;simp only[List.mem_cons,List.not_mem_nil,or_false]at hp;rcases hp with rfl|rfl|rfl<;>simp) fun mE a4 w4 s4=>?_
  rw[fE,sn_tB];obtain⟨AB,g1,g2⟩:=gX (nn:=52*PL.length+4) (K:=624) (ls:=[3,52*PL.length+1]) (os:=[.cells 46 3 [.int .i64 (aD.length:Int),.slice (52*PL.length+1) 0 PL.length none,.slice (52*PL.length+3) 0 PL.length none],.cells 3 1 ((pQ st W PL.length).map (SV.int .i64))]) (tgs:=[8,7]) ft rfl mK (by show 52*PL.length+4-4≤624;omega) (by omega) rfl rfl AL;have am4:=g1 0 3 _ 8 rfl rfl rfl;have as4:=g1 1 (52*PL.length+1) _ 7 rfl rfl rfl;have kp4:∀m,m<h3.n→m≠h2.n+10→_:=fun m hm fS=>g2 m hm fun l hl cK=>by
   simp only[List.mem_cons,List.not_mem_nil,or_false]at hl;rcases hl with rfl|rfl
   ·exact fun e=>fS e.symm
   ·simp at cK;omega
  have s4:St b 90 [(1,.ptr bx 0 0),(10,.ptr (h2.n+10) 0 0),(5,.ptr N.ns 0 0),(6,p6),(7,V),(8,p8)] (h3.lay 624 (laid (nx h3.n 4 [] [bx,P,h2.n+1,h2.n+10]) [3,52*PL.length+1] [.cells 46 3 [.int .i64 (aD.length:Int),.slice (52*PL.length+1) 0 PL.length none,.slice (52*PL.length+3) 0 PL.length none],.cells 3 1 ((pQ st W PL.length).map (SV.int .i64))])) mE a4 w4:=s4;have hn4:(h3.lay 624 (laid (nx h3.n 4 [] [bx,P,h2.n+1,h2.n+10]) [3,52*PL.length+1] [.cells 46 3 [.int .i64 (aD.length:Int),.slice (52*PL.length+1) 0 PL.length none,.slice (52*PL.length+3) 0 PL.length none],.cells 3 1 ((pQ st W PL.length).map (SV.int .i64))])).n=h2.n+637:=by show h3.n+624=_;omega
  have hR4:(h3.lay 624 (laid (nx h3.n 4 [] [bx,P,h2.n+1,h2.n+10]) [3,52*PL.length+1] [.cells 46 3 [.int .i64 (aD.length:Int),.slice (52*PL.length+1) 0 PL.length none,.slice (52*PL.length+3) 0 PL.length none],.cells 3 1 ((pQ st W PL.length).map (SV.int .i64))])).R=h3.R:=cQ _ _;have hC4:(h3.lay 624 (laid (nx h3.n 4 [] [bx,P,h2.n+1,h2.n+10]) [3,52*PL.length+1] [.cells 46 3 [.int .i64 (aD.length:Int),.slice (52*PL.length+1) 0 PL.length none,.slice (52*PL.length+3) 0 PL.length none],.cells 3 1 ((pQ st W PL.length).map (SV.int .i64))])).C=h3.C:=cY _ _;have am4:At (h3.lay 624 (laid (nx h3.n 4 [] [bx,P,h2.n+1,h2.n+10]) [3,52*PL.length+1] [.cells 46 3 [.int .i64 (aD.length:Int),.slice (52*PL.length+1) 0 PL.length none,.slice (52*PL.length+3) 0 PL.length none],.cells 3 1 ((pQ st W PL.length).map (SV.int .i64))])) AB (h2.n+10) 8 (.cells 46 3 [.int .i64 (aD.length:Int),.slice (nx h3.n 4 [] [bx,P,h2.n+1,h2.n+10] (52*PL.length+1)) 0 PL.length none,.slice (nx h3.n 4 [] [bx,P,h2.n+1,h2.n+10] (52*PL.length+3)) 0 PL.length none]):=am4;have as4:At (h3.lay 624 (laid (nx h3.n 4 [] [bx,P,h2.n+1,h2.n+10]) [3,52*PL.length+1] [.cells 46 3 [.int .i64 (aD.length:Int),.slice (52*PL.length+1) 0 PL.length none,.slice (52*PL.length+3) 0 PL.length none],.cells 3 1 ((pQ st W PL.length).map (SV.int .i64))])) AB (nx h3.n 4 [] [bx,P,h2.n+1,h2.n+10] (52*PL.length+1)) 7 (.cells 3 1 ((pQ st W PL.length).map (SV.int .i64))):=by
   have e:(SO.cells 3 1 ((pQ st W PL.length).map (SV.int .i64))).ren (nx h3.n 4 [] [bx,P,h2.n+1,h2.n+10])=.cells 3 1 ((pQ st W PL.length).map (SV.int .i64)):=by show SO.cells 3 1 (SV.rens _ _)=_;rw[AD]
   exact⟨as4.1.trans e,as4.2⟩
  generalize (nx h3.n 4 [] [bx,P,h2.n+1,h2.n+10] (52*PL.length+1))=S4 at*;generalize (nx h3.n 4 [] [bx,P,h2.n+1,h2.n+10] (52*PL.length+3))=D4 at*;generalize h3.lay 624 (laid (nx h3.n 4 [] [bx,P,h2.n+1,h2.n+10]) [3,52*PL.length+1] [.cells 46 3 [.int .i64 (aD.length:Int),.slice (52*PL.length+1) 0 PL.length none,.slice (52*PL.length+3) 0 PL.length none],.cells 3 1 ((pQ st W PL.length).map (SV.int .i64))])=h4 at*;have fr4:∀m,m<h2.n→h4.get m=h2.get m∧AB m=eJ m:=fun m hm=>⟨(kp4 m (by omega) (by omega)).1.trans (fr m hm).1,(kp4 m (by omega) (by omega)).2.trans (fr m hm).2⟩
  have R4:∀m∈h4.R,AB m=6∧m<h3.n:=fun m hm=>by
   rw[hR4]at hm;obtain⟨r1,r2⟩:=L3.oR m hm;exact⟨(kp4 m r2 (fun e=>by rw[e,am.2.1]at r1;omega)).2.trans r1,r2⟩
  have hV4:OutI h4 AB c l V:=hV.imp id fun⟨M,e1,e2,e3⟩=>⟨M,e1,⟨(fr4 M e2.2.2).1.trans e2.1,(fr4 M e2.2.2).2.trans e2.2.1,by have:=e2.2.2;omega⟩,e3⟩
  refine jU (d:=aA 6 fR) sn_rgC ?_;refine lN (m:=4) bW vG sn_c0 (v:=V) rfl (by simp) s4 fun a5 s5=>?_
  have s5:St b 90 [(83,V),(1,.ptr bx 0 0),(10,.ptr (h2.n+10) 0 0),(5,.ptr N.ns 0 0),(6,p6),(7,V),(8,p8)] h4 mE a5 w4:=s5;refine xF (m:=3) bW vG sn_c1 sn_ag trivial rfl am4.1 (by simp) (by simp) s5 fun a6 s6=>?_
  have s6:St b 90 [(84,.agg [.int .i64 (aD.length:Int),.slice S4 0 PL.length none,.slice D4 0 PL.length none]),(83,V),(1,.ptr bx 0 0),(10,.ptr (h2.n+10) 0 0),(5,.ptr N.ns 0 0),(6,p6),(7,V),(8,p8)] h4 mE a6 w4:=s6;refine go_bs1 (m:=2) bW vG sn_c2 sn_el (v:=.agg [.int .i64 (aD.length:Int),.slice S4 0 PL.length none,.slice D4 0 PL.length none]) rfl rfl (by simp) s6 (by omega) fun ρ7 a7 w7 s7=>?_
  have s7:St b 90 [(85,.slice h4.n 0 1 (some 1)),(84,.agg [.int .i64 (aD.length:Int),.slice S4 0 PL.length none,.slice D4 0 PL.length none]),(83,V),(1,.ptr bx 0 0),(10,.ptr (h2.n+10) 0 0),(5,.ptr N.ns 0 0),(6,p6),(7,V),(8,p8)] (h4.new (.cells 46 3 [.int .i64 (aD.length:Int),.slice S4 0 PL.length none,.slice D4 0 PL.length none])) ρ7 a7 w7:=s7;have gY:(h4.new (.cells 46 3 [.int .i64 (aD.length:Int),.slice S4 0 PL.length none,.slice D4 0 PL.length none])).get h4.n=.cells 46 3 [.int .i64 (aD.length:Int),.slice S4 0 PL.length none,.slice D4 0 PL.length none]:=H.get_new (by omega);have gN:∀m,m<h4.n→(h4.new (.cells 46 3 [.int .i64 (aD.length:Int),.slice S4 0 PL.length none,.slice D4 0 PL.length none])).get m=h4.get m:=fun m hm=>H.get_new_ne (by omega)
  have hn5:(h4.new (.cells 46 3 [.int .i64 (aD.length:Int),.slice S4 0 PL.length none,.slice D4 0 PL.length none])).n=h4.n+1:=rfl;have hR5:(h4.new (.cells 46 3 [.int .i64 (aD.length:Int),.slice S4 0 PL.length none,.slice D4 0 PL.length none])).R=h4.R:=rfl;have hC5:(h4.new (.cells 46 3 [.int .i64 (aD.length:Int),.slice S4 0 PL.length none,.slice D4 0 PL.length none])).C=h4.C:=rfl;generalize h4.new (.cells 46 3 [.int .i64 (aD.length:Int),.slice S4 0 PL.length none,.slice D4 0 PL.length none])=h5 at*;refine go_app (m:=1) (c:=c) (l:=l) bW vG sn_c3 sn_ap (V:=V) rfl rfl (hV4.imp id fun⟨M,e1,e2,e3⟩=>⟨M,e1,(gN M e2.2.2).trans e2.1,e3,zY (fun m hm e=>by rw[hR5]at hm;have:=(R4 m hm).1;rw[e,e2.2.1]at this;omega) (by rw[hC5,hC4];exact L3.oC)⟩) gY rfl rfl (by omega) (by simp) s7 (by omega) fun ρ8 a8 w8 s8=>?_
  have s8:St b 90 [(86,.slice h5.n 0 (c+1) none),(85,.slice h4.n 0 1 (some 1)),(84,.agg [.int .i64 (aD.length:Int),.slice S4 0 PL.length none,.slice D4 0 PL.length none]),(83,V),(1,.ptr bx 0 0),(10,.ptr (h2.n+10) 0 0),(5,.ptr N.ns 0 0),(6,p6),(7,V),(8,p8)] ((kill h5 V).new (.cells 46 3 (l++[.int .i64 (aD.length:Int),.slice S4 0 PL.length none,.slice D4 0 PL.length none]))) ρ8 a8 w8:=s8;refine lN (m:=0) bW vG sn_c4 (v:=.slice h5.n 0 (c+1) none) rfl (by simp) s8 fun a9 s9=>?_
  have s9:St b 90 [(7,.slice h5.n 0 (c+1) none),(86,.slice h5.n 0 (c+1) none),(85,.slice h4.n 0 1 (some 1)),(84,.agg [.int .i64 (aD.length:Int),.slice S4 0 PL.length none,.slice D4 0 PL.length none]),(83,V),(1,.ptr bx 0 0),(10,.ptr (h2.n+10) 0 0),(5,.ptr N.ns 0 0),(6,p6),(8,p8)] ((kill h5 V).new (.cells 46 3 (l++[.int .i64 (aD.length:Int),.slice S4 0 PL.length none,.slice D4 0 PL.length none]))) ρ8 a9 w8:=s9;have kn5:(kill h5 V).n=h5.n∧(kill h5 V).R=h5.R∧(kill h5 V).C=h5.C∧∀m,(∀M,V=.slice M 0 c none→m≠M)→(kill h5 V).get m=h5.get m:=by
   rcases hV4 with⟨rfl,_,_⟩|⟨M,rfl,_,_⟩
   ·exact⟨rfl,rfl,rfl,fun _ _=>rfl⟩
   ·exact⟨rfl,rfl,rfl,fun m hm=>H.get_put_ne (Ne.symm (hm M rfl))⟩
  have hn6:((kill h5 V).new (.cells 46 3 (l++[.int .i64 (aD.length:Int),.slice S4 0 PL.length none,.slice D4 0 PL.length none]))).n=h2.n+639:=by show(kill h5 V).n+1=_;rw[kn5.1];omega
  have gM:((kill h5 V).new (.cells 46 3 (l++[.int .i64 (aD.length:Int),.slice S4 0 PL.length none,.slice D4 0 PL.length none]))).get h5.n=.cells 46 3 (l++[.int .i64 (aD.length:Int),.slice S4 0 PL.length none,.slice D4 0 PL.length none]):=by rw[←kn5.1];exact H.get_new (by rw[kn5.1];omega)
  have gO:∀m,m<h4.n→AB m≠9→((kill h5 V).new (.cells 46 3 (l++[.int .i64 (aD.length:Int),.slice S4 0 PL.length none,.slice D4 0 PL.length none]))).get m=h4.get m:=fun m hm h9=>by
   rw[H.get_new_ne (by rw[kn5.1];omega),kn5.2.2.2 m (fun M e1 e2=>?_),gN m hm];rcases hV4 with⟨rfl,_,_⟩|⟨M',e3,e4,_⟩
   ·cases e1
   ·rw[e3]at e1
    injection e1 with e1;subst e1;subst e2;exact h9 e4.2.1
  have hR6:((kill h5 V).new (.cells 46 3 (l++[.int .i64 (aD.length:Int),.slice S4 0 PL.length none,.slice D4 0 PL.length none]))).R=h3.R:=by show(kill h5 V).R=_;rw[kn5.2.1,hR5,hR4]
  have hC6:((kill h5 V).new (.cells 46 3 (l++[.int .i64 (aD.length:Int),.slice S4 0 PL.length none,.slice D4 0 PL.length none]))).C=h3.C:=by show(kill h5 V).C=_;rw[kn5.2.2.1,hC5,hC4]
  generalize (kill h5 V).new (.cells 46 3 (l++[.int .i64 (aD.length:Int),.slice S4 0 PL.length none,.slice D4 0 PL.length none]))=h6 at*;have o6:∀m,m<h4.n→(if m=h5.n then 9 else AB m)=AB m:=fun m hm=>if_neg (by omega)
  show Q .normal a9 w8;refine hq h6 (fun m=>if m=h5.n then 9 else AB m) S4 D4 h5.n ρ8 a9 w8 (I3.move (fun m hm h9=>?_) (by omega) hR6 hC6) ⟨gM,if_pos rfl,by omega⟩ ⟨(gO S4 as4.2.2 (by rw[as4.2.1];omega)).trans as4.1,(o6 _ as4.2.2).trans as4.2.1,by have:=as4.2.2;omega⟩ (fun m hm h9=>?_) (by omega) (by omega) (s9.sub fun p hp=>by
   simp only[List.mem_cons,List.not_mem_nil,or_false]at hp;rcases hp with rfl|rfl|rfl|rfl|rfl<;>simp)
  ·have fS:m≠h2.n+10:=fun e=>by rw[e,am.2.1]at h9;omega
   have k:=kp4 m hm fS;exact⟨(gO m (by omega) (by rw[k.2];omega)).trans k.1,(o6 m (by omega)).trans k.2⟩
  ·have e:=fr4 m hm
   exact⟨(gO m (by omega) (by rw[e.2];exact h9)).trans e.1,(o6 m (by omega)).trans e.2⟩
 have eT:List.take (bG W.length 1) (mF (bG 0 1) W)=W:=by
  show List.take (bG W.length 1) W=W;rw[bT,List.take_of_length_le (by omega)]
 cases aD with
 |nil=>
  have ft:Fit h2 (aT [.cells 68 11 [.any,.any,.any,.any,.any,.any,.any,.any,.ptr 1 0 0,.any,aC],.cells 107 2 [.slice 2 0 W.length N.c,.any],.ints 3 1 W,.dead,.cells 28 10 [.int .i64 th,.int .i64 st,.int .i64 ga,.int .i64 le,.int .i64 re,.int .i64 ti,.slice 5 0 PL.length cp,.val lv,.any,.any],.dead] [0,1,2,3,4,5]) (nm [N.ns,N.nm,N.nw,N.ns,bx,P]):=aX (R:=[0,1,2,3,4,5]) (os:=[.cells 68 11 [.any,.any,.any,.any,.any,.any,.any,.any,.ptr 1 0 0,.any,aC],.cells 107 2 [.slice 2 0 W.length N.c,.any],.ints 3 1 W,.dead,.cells 28 10 [.int .i64 th,.int .i64 st,.int .i64 ga,.int .i64 le,.int .i64 re,.int .i64 ti,.slice 5 0 PL.length cp,.val lv,.any,.any],.dead]) (ns:=[N.ns,N.nm,N.nw,N.ns,bx,P])
   ⟨L.sched.2.2,bE rfl (iY L.sched.1 (Z:=iI [true,true,true,true,true,true,true,true,false,true,false] _) rfl (dI _ _) (eC _ _ (pR L))),L.mem.2.2,bE rfl (iY L.mem.1 (Z:=iI [false,true] _) rfl (dI _ _) (eC _ _ (fun v hv=>by simp only[List.mem_cons,List.not_mem_nil,or_false]at hv;rcases hv with rfl|rfl;exact rfl;exact L.one.2))),L.words.2.2,bE rfl (jM L.words.1 rfl),L.sched.2.2,bE rfl aZ,lb,bE rfl (iY ab.1 (Z:=iI [false,false,false,false,false,false,false,false,true,true] _) rfl (dI _ _) (eC _ _ (snX_one hpk))),lP,bE rfl aZ,trivial⟩ (by
    refine iO eJ ?_;simp[aQ,SO.lives,t0,t1,t2,t7]) (by simp) (by omega)
  refine bD (K:=13) (ns:=[N.ns,N.nm,N.nw,N.ns,bx,P]) bW vA (sna_n th st ga le re ti PL.length W.length 0 cp N.c none lv W []) (aU a1 (aU a2 (aU a3 (aU a4 trivial)))) ft rfl rfl rfl (by simp) (by omega) sn_okA s (fun p hp=>by
   have e:cU (nm [N.ns,N.nm,N.nw,N.ns,bx,P]) [(1,SV.ptr 4 0 0),(5,.ptr 0 0 0)]=[(1,.ptr bx 0 0),(5,.ptr N.ns 0 0)]:=rfl;rw[e]at hp;simp only[List.mem_cons,List.not_mem_nil,or_false]at hp;rcases hp with rfl|rfl<;>simp) fun gV a3 w3 s3=>?_
  rw[fE,sn_tA];obtain⟨AL,g1,g2⟩:=gX (nn:=17) (K:=13) (ls:=[7,16]) (os:=[.ints 3 1 (List.take (bG W.length 1) (mF (bG 0 1) W)),.cells 46 3 [.int .i64 0,aC,aC]]) (tgs:=[7,8]) ft rfl rfl (by simp) (by omega) rfl rfl eJ;have aw:=g1 0 7 _ 7 rfl rfl rfl;have am:=g1 1 16 _ 8 rfl rfl rfl;have kp:∀m,m<h2.n→_:=fun m hm=>g2 m hm fun l hl cK=>by simp only[List.mem_cons,List.not_mem_nil,or_false]at hl;rcases hl with rfl|rfl<;>simp at cK
  refine mid (h2.lay 13 (laid (nx h2.n 6 [] [N.ns,N.nm,N.nw,N.ns,bx,P]) [7,16] [.ints 3 1 (List.take (bG W.length 1) (mF (bG 0 1) W)),.cells 46 3 [.int .i64 0,aC,aC]])) AL gV a3 w3 (I.move (fun m hm _=>kp m hm) (by show h2.n≤h2.n+13;omega) (cQ _ _) (cY _ _)) ⟨aw.1.trans (congrArg (SO.ints 3 1) eT),aw.2⟩ am kp rfl ?_;have e0:(0+W.length)=W.length:=Nat.zero_add _;rw[e0]at s3;exact s3
 |cons x r=>
  have ae:=L.ev (by simp);have t4:=ae.2.1;have lenE:=lD (x::r);have b1:Nat.ble (bG (aE 0 (x::r).length) 10) (eH (x::r)).length=true:=Nat.ble_eq_true_of_le (by rw[bT,aY,lenE];omega);have b2:Nat.ble (0+(x::r).length) 1000000000=true:=Nat.ble_eq_true_of_le (by omega);have ft:Fit h2 (aT [.cells 68 11 [.any,.any,.any,.any,.any,.any,.any,.any,.ptr 1 0 0,.any,.slice 3 0 (x::r).length none],.cells 107 2 [.slice 2 0 W.length N.c,.any],.ints 3 1 W,.cells 42 10 (eH (x::r)),.cells 28 10 [.int .i64 th,.int .i64 st,.int .i64 ga,.int .i64 le,.int .i64 re,.int .i64 ti,.slice 5 0 PL.length cp,.val lv,.any,.any],.dead] [0,1,2,3,4,5]) (nm [N.ns,N.nm,N.nw,N.ne,bx,P]):=aX (R:=[0,1,2,3,4,5]) (os:=[.cells 68 11 [.any,.any,.any,.any,.any,.any,.any,.any,.ptr 1 0 0,.any,.slice 3 0 (x::r).length none],.cells 107 2 [.slice 2 0 W.length N.c,.any],.ints 3 1 W,.cells 42 10 (eH (x::r)),.cells 28 10 [.int .i64 th,.int .i64 st,.int .i64 ga,.int .i64 le,.int .i64 re,.int .i64 ti,.slice 5 0 PL.length cp,.val lv,.any,.any],.dead]) (ns:=[N.ns,N.nm,N.nw,N.ne,bx,P])
   ⟨L.sched.2.2,bE rfl (iY L.sched.1 (Z:=iI [true,true,true,true,true,true,true,true,false,true,false] _) rfl (dI _ _) (eC _ _ (pR L))),L.mem.2.2,bE rfl (iY L.mem.1 (Z:=iI [false,true] _) rfl (dI _ _) (eC _ _ (fun v hv=>by simp only[List.mem_cons,List.not_mem_nil,or_false]at hv;rcases hv with rfl|rfl;exact rfl;exact L.one.2))),L.words.2.2,bE rfl (jM L.words.1 rfl),ae.2.2,bE rfl (jM (by rw[ae.1];show _=SO.cells 42 10 (SV.rens _ (eH (x::r)));rw[jS]) rfl),lb,bE rfl (iY ab.1 (Z:=iI [false,false,false,false,false,false,false,false,true,true] _) rfl (dI _ _) (eC _ _ (snX_one hpk))),lP,bE rfl aZ,trivial⟩ (by
    refine iO eJ ?_;simp[aQ,SO.lives,t0,t1,t2,t7,t4]) (by simp) (by omega)
  refine bD (K:=13) (ns:=[N.ns,N.nm,N.nw,N.ne,bx,P]) bW vA (sna_e th st ga le re ti PL.length W.length (x::r).length cp N.c none lv W (eH (x::r))) (aU a1 (aU a2 (aU a3 (aU a4 (aU b1 (aU b2 trivial)))))) ft rfl rfl rfl (by simp) (by omega) sn_okA s (fun p hp=>by
   have e:cU (nm [N.ns,N.nm,N.nw,N.ne,bx,P]) [(1,SV.ptr 4 0 0),(5,.ptr 0 0 0)]=[(1,.ptr bx 0 0),(5,.ptr N.ns 0 0)]:=rfl;rw[e]at hp;simp only[List.mem_cons,List.not_mem_nil,or_false]at hp;rcases hp with rfl|rfl<;>simp) fun gV a3 w3 s3=>?_
  rw[fE,sn_tA];obtain⟨AL,g1,g2⟩:=gX (nn:=19) (K:=13) (ls:=[7,16]) (os:=[.ints 3 1 (List.take (bG W.length 1) (mF (bG 0 1) W)),.cells 46 3 [.int .i64 ((0+(x::r).length:Nat):Int),aC,aC]]) (tgs:=[7,8]) ft rfl rfl (by simp) (by omega) rfl rfl eJ;have aw:=g1 0 7 _ 7 rfl rfl rfl;have am:=g1 1 16 _ 8 rfl rfl rfl;have kp:∀m,m<h2.n→_:=fun m hm=>g2 m hm fun l hl cK=>by simp only[List.mem_cons,List.not_mem_nil,or_false]at hl;rcases hl with rfl|rfl<;>simp at cK
  refine mid (h2.lay 13 (laid (nx h2.n 6 [] [N.ns,N.nm,N.nw,N.ne,bx,P]) [7,16] [.ints 3 1 (List.take (bG W.length 1) (mF (bG 0 1) W)),.cells 46 3 [.int .i64 ((0+(x::r).length:Nat):Int),aC,aC]])) AL gV a3 w3 (I.move (fun m hm _=>kp m hm) (by show h2.n≤h2.n+13;omega) (cQ _ _) (cY _ _)) ⟨aw.1.trans (congrArg (SO.ints 3 1) eT),aw.2⟩ ⟨am.1.trans (by rw[Nat.zero_add];rfl),am.2⟩ kp rfl ?_;have e0:(0+W.length)=W.length:=Nat.zero_add _;rw[e0]at s3;exact s3
end
theorem fn6_ok:fnOk 6 90 [2,3,4]=true:=by kernel_rfl
theorem sn_rg0:rgB jK=some 4:=by kernel_rfl
theorem sn_all0:(dX jK).toList.all (fun o=>dR o.op)=true:=by kernel_rfl
theorem sn_len0:Nat.beq (1+3) (dX jK).toList.length=true:=by kernel_rfl
theorem sn_bx:((dX jK).toList[0]?).bind bxO=some (28,0,some 1,none):=by kernel_rfl
theorem sn_ok1:dL (aA 1 jK)=true:=by kernel_rfl
theorem sn_ok2:dL (aA 2 jK)=true:=by kernel_rfl
theorem sn_ok3:dL (aA 3 jK)=true:=by kernel_rfl
theorem sn_ok6:dL (aA 6 jK)=true:=by kernel_rfl
theorem sn_okI:dL snI=true:=by kernel_rfl
theorem sn_okL:dL wG=true:=by kernel_rfl
theorem sn_okL2:dL (aA 2 wG)=true:=by kernel_rfl
theorem sn_okB1:dL (aA 1 fR)=true:=by kernel_rfl
theorem sn_t12:aA 1 (aA 1 jK)=aA 2 jK:=by kernel_rfl
theorem sn_t23:aA 1 (aA 2 jK)=aA 3 jK:=by kernel_rfl
theorem sn_t34:aA 1 (aA 3 jK)=aA 4 jK:=by kernel_rfl
theorem sn_t45:aA 1 (aA 4 jK)=aA 5 jK:=by kernel_rfl
theorem sn_t56:aA 1 (aA 5 jK)=aA 6 jK:=by kernel_rfl
theorem sn_tL2:aA 1 (aA 1 wG)=aA 2 wG:=by kernel_rfl
theorem sn_tL3:aA 1 (aA 2 wG)=none:=by kernel_rfl
theorem sn_noI:aA 1 (aA 1 snI)=none:=by kernel_rfl
theorem sn_is4:isX (aA 4 jK)=true:=by kernel_rfl
theorem sn_lp:zV (aA 1 snI)=some 0:=by kernel_rfl
theorem sn_bk:bkId (aA 1 wG)=some 1:=by kernel_rfl
theorem sn_rg1:rgB (aA 1 jK)=some 6:=by kernel_rfl
theorem sT:(dX (aA 1 jK)).toList.all (fun o=>dR o.op)=true:=by kernel_rfl
theorem sn_len1(i m:Nat)(h:i+m=6):Nat.beq (i+m) (dX (aA 1 jK)).toList.length=true:=by rw[h];kernel_rfl
theorem sn_11:((dX (aA 1 jK)).toList[1]?).bind ldO=some (24,13,some 14,none):=by kernel_rfl
theorem sn_13:((dX (aA 1 jK)).toList[3]?).bind ldO=some (25,15,some 16,none):=by kernel_rfl
theorem sn_one25:isOne Tryz.prog 25=true:=by kernel_rfl
theorem sn_14:((dX (aA 1 jK)).toList[4]?).bind rY=some (10,[.tmp 14,.tmp 16],some 17):=by kernel_rfl
theorem sn_15:((dX (aA 1 jK)).toList[5]?).bind mvO=some (17,some 5):=by kernel_rfl
theorem sn_rg2:rgB (aA 2 jK)=some 3:=by kernel_rfl
theorem sn_all2:(dX (aA 2 jK)).toList.all (fun o=>dR o.op)=true:=by kernel_rfl
theorem sn_20:((dX (aA 2 jK)).toList[0]?).bind ldO=some (28,1,some 18,none):=by kernel_rfl
theorem sn_21:((dX (aA 2 jK)).toList[1]?).bind rY=some (22,[.tmp 18],some 19):=by kernel_rfl
theorem sn_22:((dX (aA 2 jK)).toList[2]?).bind mvO=some (19,some 6):=by kernel_rfl
theorem sn_ag28:agN Tryz.prog 28=some 10:=by kernel_rfl
theorem sn_rgB:rgB fR=some 6:=by kernel_rfl
theorem sn_allB:(dX fR).toList.all (fun o=>dR o.op)=true:=by kernel_rfl
theorem sn_lenB:Nat.beq (0+6) (dX fR).toList.length=true:=by kernel_rfl
theorem sn_b5:((dX fR).toList[5]?).bind rY=some (12,[.tmp 26,.tmp 30],some 31):=by kernel_rfl
theorem sn_rg5:rgB (aA 5 jK)=some 6:=by kernel_rfl
theorem sU:(dX (aA 5 jK)).toList.all (fun o=>dR o.op)=true:=by kernel_rfl
theorem sn_len5:Nat.beq (5+1) (dX (aA 5 jK)).toList.length=true:=by kernel_rfl
theorem sn_50:((dX (aA 5 jK)).toList[0]?).bind mvO=some (7,some 87):=by kernel_rfl
theorem sn_51:((dX (aA 5 jK)).toList[1]?).bind mvO=some (5,some 88):=by kernel_rfl
theorem sn_52:((dX (aA 5 jK)).toList[2]?).bind rY=some (14,[.tmp 88],some 89):=by kernel_rfl
theorem sn_53:((dX (aA 5 jK)).toList[3]?).bind mvO=some (87,some 2):=by kernel_rfl
theorem sn_54:((dX (aA 5 jK)).toList[4]?).bind mvO=some (89,some 3):=by kernel_rfl
structure SnI(h hh:H)(own:Nat→Nat)(C:bS)(W:List Int)(aD:List Ev)(N:Names)(aP:List (Nat×List Int))(Ms:List (Nat×Nat))(V V6:SV)(X:List SV)(k:Nat)(st:Int)(np i:Nat):Prop where
 inv:sW hh own C W aD N aP
 box:At hh own h.n 7 (.cells 28 10 X)
 pk:(k=0∧V6=aC)∨∃p,∃T:List Int,V6=.slice p 0 k none∧At hh own p 7 (.cells 3 1 (T.map (SV.int .i64)))∧T.length=k
 out:OutI hh own i (wH np aP Ms) V
 oz:i=0→V=aC
 len:Ms.length=i
 row:∀(j s d n:Nat) (W:List Int),Ms[j]?=some (s,d)→aP[j]?=some (n,W)→At hh own s 7 (.cells 3 1 ((pQ st W np).map (SV.int .i64)))
 old:∀m,m<h.n→hh.get m=h.get m∧own m=AI h.R m
 n:h.n≤hh.n∧hh.n≤h.n+3000+1100*i
section
variable{h:H}{th st ga le re ti:Int}{P L:Nat}{PL LL:List Int}{cp cl:Option Nat}{cs:Option (Nat×Option Nat)}{rows:List (Option rE)}{K:Nat}{ck:Option Nat}{pv:List Int}{nil:Bool}
set_option maxHeartbeats 2000000 in
theorem seen_loop{u lv cv:Value}{ns:Nat}{V6:SV}(rg:AH th st ga le re ti PL)(hk:pv.length≤600)(room:h.n+700000≤1000000)(hR:∀m∈h.R,m<h.n)
 {n:Nat}{Q:Exit→Act→World→Prop}{ρ:bF}{w:World}(hq:∀e aW a' w' vs h',e=Exit.ret∨e=Exit.normal→vs.length=[2,3,4].length→SnR h th st ga le re ti P PL cp pv.length (Sx.pack vs) h'→St (ρ,h,w) 90 ([2,3,4].zip vs) h' aW a' w'→Q e a' w')
 {h6:H}{own:Nat→Nat}{W:List Int}{aD:List Ev}{N:Names}(I:SnI h h6 own (tX th st ga le re ti P PL cp u) W aD N [] [] aC V6 (snX th st ga le re ti P PL.length cp lv cv (tS K ck pv nil)) pv.length st PL.length 0)(hns:N.ns=ns){dQ:bF}{a1:Act}{w1:World}
 (s:St (ρ,h,w) 90 [(1,.ptr h.n 0 0),(5,.ptr ns 0 0),(6,V6),(7,aC),(8,.int .i64 (0:Nat))] h6 dQ a1 w1):cB n Tryz.prog (aA 1 snI) (iH n Tryz.prog (aA 1 (aA 4 jK)) Q) a1 w1:=by
 have ok:dU (tX th st ga le re ti P PL cp u):=rg.cfg cp u P;refine vB sn_lp (fun k a w'=>∃i hh own W aD N aP Ms V aW,k=pv.length-i∧i≤pv.length∧aP.length=i∧N.ns=ns∧SnI h hh own (tX th st ga le re ti P PL cp u) W aD N aP Ms V V6 (snX th st ga le re ti P PL.length cp lv cv (tS K ck pv nil)) pv.length st PL.length i∧
  St (ρ,h,w) 90 [(1,.ptr h.n 0 0),(5,.ptr ns 0 0),(6,V6),(7,V),(8,.int .i64 (i:Nat))] hh aW a w') (k:=pv.length) ⟨0,h6,own,W,aD,N,[],[],aC,dQ,rfl,by omega,rfl,hns,I,s⟩ ?_
 rintro k a2 w2 ⟨i,hh,own,W,aD,N,aP,Ms,V,iJ,rfl,hi,hl,ens0,I,s⟩;have AA:ns<hh.n:=by obtain⟨_,_,L⟩:=I.inv.look;rw[←ens0];exact L.sched.2.2
 have hn1:=I.n.1;have hn2:=I.n.2;have dd:∀{m j:Nat} {r:Nat→Nat} {R:List Nat},R.contains j=true→jI hh r R j m .dead:=fun hc=>bE hc aZ
 rcases Nat.lt_or_ge i pv.length with cK|wQ
 ·rcases I.pk with⟨h0,_⟩|⟨p,T,rfl,ap,hT⟩
  ·omega
  ·have c1:decide ((i:Int)<(pv.length:Int))=true:=decide_eq_true (by omega)
   have c2:decide ((0:Int)≤(i:Int))=true:=decide_eq_true (by omega);have c3:Nat.beq (aE 0 (Int.toNat (i:Int))) i=true:=by rw[aY];simp
   have ft1:Fit hh (aT [.dead] [0]) (nm [p]):=aX (R:=[0]) (os:=[.dead]) (ns:=[p]) ⟨ap.2.2,dd rfl,trivial⟩ (by simp[aQ,SO.lives]) (by simp) (by omega);refine bD (K:=0) (ns:=[p]) bW (aH _) (snr_0 pv.length i) (aU c1 trivial) ft1 rfl rfl rfl (by simp) (by omega) sn_okL s (fun q hq=>by
    have e:cU (nm [p]) [(6,SV.slice 0 0 pv.length none),(8,.int .i64 (i:Int))]=[(6,.slice p 0 pv.length none),(8,.int .i64 (i:Int))]:=rfl;rw[e]at hq;simp only[List.mem_cons,List.not_mem_nil,or_false]at hq;rcases hq with rfl|rfl<;>simp) fun gV a3 w3 s3=>?_
   have s3:St (ρ,h,w) 90 [(6,.slice p 0 pv.length none),(8,.int .i64 (i:Int)),(1,.ptr h.n 0 0),(5,.ptr ns 0 0),(7,V)] hh gV a3 w3:=s3;rw[fE];refine go_bk sn_bk (jU (d:=fR) sn_rgB ?_);have hTi:T[i]?=some (T[i]'(by omega)):=List.getElem?_eq_getElem _;have ft2:Fit hh (aT [.dead,.spot 3 1 i [.int .i64 (T[i]'(by omega))]] [0,1]) (nm [ns,p]):=aX (R:=[0,1]) (os:=[.dead,.spot 3 1 i [.int .i64 (T[i]'(by omega))]]) (ns:=[ns,p]) ⟨AA,dd rfl,ap.2.2,bE rfl (jF ap.1 (by simp;omega) (by simp) fun j v hv=>by
    cases j with
    |zero=>
     simp only[List.getElem?_cons_zero,Option.some.injEq]at hv;subst hv;rw[Nat.mul_one,Nat.add_zero,List.getElem?_map,hTi];rfl
    |succ j=>simp at hv),trivial⟩ (by simp[aQ,SO.lives]) (by simp) (by omega)
   refine jX (i:=0) (j:=5) (m:=6) (k:=0) (K:=0) (ns:=[ns,p]) bW (aH _) (snp pv.length i (T[i]'(by omega))) (aU c2 (aU c1 (aU c3 trivial))) ft2 rfl rfl rfl (by simp) (by omega) sn_allB sn_okB1 sn_lenB rfl (.inl rfl) s3 (fun q hq=>by
    have e:cU (nm [ns,p]) [(5,SV.ptr 0 0 0),(6,.slice 1 0 pv.length none),(8,.int .i64 (i:Int))]=[(5,.ptr ns 0 0),(6,.slice p 0 pv.length none),(8,.int .i64 (i:Int))]:=rfl;rw[e]at hq;simp only[List.mem_cons,List.not_mem_nil,or_false]at hq;rcases hq with rfl|rfl|rfl<;>simp) fun mE a4 w4 s4=>⟨fun e=>(by cases e),fun _ _=>?_⟩
   show GO n Tryz.prog (dX fR) 5 (0+1) (aA 1 fR) _ a4 w4;have s4:St (ρ,h,w) 90 [(5,.ptr ns 0 0),(6,.slice p 0 pv.length none),(8,.int .i64 (i:Int)),(26,.ptr ns 0 0),(30,.int .i64 (T[i]'(by omega))),(1,.ptr h.n 0 0),(7,V)] hh mE a4 w4:=s4;obtain⟨v,h2,eJ,W2,evs2,N2,sp,hn3,hn4,I2,ens,o1,o2⟩:=I.inv.pick ok (by omega) (by omega) (T[i]'(by omega));rw[ens0]at sp;refine jV (m:=0) sn_allB sn_b5 rfl (by simp) sp.toE s4 fun v' h' rB a5 w5 hv s5=>?_
   have hv1:v'=.bool v:=hv.1;have hv2:h'=h2:=hv.2;rw[hv1,hv2]at s5;have ens1:N2.ns=ns:=ens.trans ens0;have s5:St (ρ,h,w) 90 [(31,.bool v),(5,.ptr ns 0 0),(6,.slice p 0 pv.length none),(8,.int .i64 (i:Int)),(26,.ptr ns 0 0),(30,.int .i64 (T[i]'(by omega))),(1,.ptr h.n 0 0),(7,V)] h2 rB a5 w5:=s5;show cB n Tryz.prog (aA 1 fR) _ a5 w5;have up:∀{m t:Nat} {o:SO},At hh own m t o→6≤t→t≤900→At h2 eJ m t o:=fun{m t o} a h1 h2=>⟨(o2 m a.2.2 (by rw[a.2.1];exact h1) (by rw[a.2.1];exact h2)).trans a.1,(o1 m a.2.2).trans a.2.1,by have:=a.2.2;omega⟩
   have hl2:evs2.length≤2*(i+1):=by
    obtain⟨_,_,L⟩:=I2.look;have:=L.evb;simp[hl]at this;omega
   refine sn_rest (N:=N2) rg I2 (up I.box (by omega) (by omega)) (pkSV_one _ _ _ _) (I.out.imp id fun⟨M,e1,e2,e3⟩=>⟨M,e1,up e2 (by omega) (by omega),e3⟩) (by omega) (by omega) (by omega) (s5.sub (kn':=[(1,.ptr h.n 0 0),(5,.ptr N2.ns 0 0),(6,.slice p 0 pv.length none),(7,V),(8,.int .i64 (i:Int))]) fun q hq=>by
    rw[ens1]at hq;simp only[List.mem_cons,List.not_mem_nil,or_false]at hq;rcases hq with rfl|rfl|rfl|rfl|rfl<;>simp) fun h5 own5 S D M ρ6 a6 w6 I5 aM aS fr hn5 hn6 s6=>?_
   show cB n Tryz.prog (aA 1 (aA 1 wG)) _ a6 w6;rw[sn_tL2];rw[ens1]at s6;have qO:Fit h5 (aT [] []) (nm []):=aX (R:=[]) (os:=[]) (ns:=[]) trivial (by simp[aQ]) (by simp) (by omega);refine bD (K:=0) (ns:=[]) bW (aH _) (sn6 i) (aU (aN (by omega)) trivial) qO rfl rfl rfl (by simp) (by omega) sn_okL2 s6 (fun q hq=>by
    have e:cU (nm []) [(8,SV.int .i64 (i:Int))]=[(8,.int .i64 (i:Int))]:=rfl;rw[e]at hq;simp only[List.mem_cons,List.not_mem_nil,or_false]at hq;subst hq;simp) fun ρ7 a7 w7 s7=>?_
   rw[fE,sn_tL3];have s7:St (ρ,h,w) 90 [(8,.int .i64 ((i:Int)+1)),(1,.ptr h.n 0 0),(5,.ptr ns 0 0),(6,.slice p 0 pv.length none),(7,.slice M 0 (i+1) none)] h5 ρ7 a7 w7:=s7;have up5:∀{m t:Nat} {o:SO},At h2 eJ m t o→t≠9→At h5 own5 m t o:=fun{m t o} a h9=>⟨(fr m a.2.2 (by rw[a.2.1];exact h9)).1.trans a.1,(fr m a.2.2 (by rw[a.2.1];exact h9)).2.trans a.2.1,by have:=a.2.2;omega⟩
   have eh:(aP++[(evs2.length,W2)]).length=i+1:=by simp[hl]
   refine⟨pv.length-(i+1),by omega,i+1,h5,own5,W2,evs2,N2,aP++[(evs2.length,W2)],Ms++[(S,D)],.slice M 0 (i+1) none,ρ7,rfl,by omega,eh,ens1,⟨I5,up5 (up I.box (by omega) (by omega)) (by omega),.inr ⟨p,T,rfl,up5 (up ap (by omega) (by omega)) (by omega),hT⟩,.inr ⟨M,rfl,?_,?_⟩,fun e=>by omega,by simp[I.len],fun j s d n0 W0 hs hj=>?_,fun m hm=>?_,by omega,by omega⟩,s7.sub fun q hq=>?_⟩
   ·rw[momC_app _ _ _ _ (by rw[I.len,hl])];exact aM
   ·rw[AJ _ _ (by simp[I.len,hl]),eh]
   ·rcases Nat.lt_or_ge j i with hji|hji
    ·rw[List.getElem?_append_left (by rw[I.len];exact hji)]at hs
     rw[List.getElem?_append_left (by rw[hl];exact hji)]at hj;exact up5 (up (I.row j s d n0 W0 hs hj) (by omega) (by omega)) (by omega)
    ·rw[List.getElem?_append_right (by rw[I.len];exact hji)]at hs
     rw[List.getElem?_append_right (by rw[hl];exact hji)]at hj;have h1:=List.mem_of_getElem? hs;have h2:=List.mem_of_getElem? hj;simp only[List.mem_singleton,Prod.mk.injEq]at h1 h2;obtain⟨rfl,rfl⟩:=h1;obtain⟨rfl,rfl⟩:=h2;exact aS
   ·obtain⟨q1,q2⟩:=I.old m hm
    have hle:=ownI_le h.R m;have e1:=o1 m (by omega);have e2:=o2 m (by omega) (by omega) (by omega);obtain⟨e3,e4⟩:=fr m (by omega) (by omega);exact⟨e3.trans (e2.trans q1),e4.trans (e1.trans q2)⟩
   ·simp only[List.mem_cons,List.not_mem_nil,or_false]at hq
    rcases hq with rfl|rfl|rfl|rfl|rfl
    ·simp
    ·simp
    ·simp
    ·simp
    ·exact .head _
 ·have ei:i=pv.length:=by omega
  have fin:∀{gV:bF} {a3:Act} {w3:World},St (ρ,h,w) 90 [(1,.ptr h.n 0 0),(5,.ptr ns 0 0),(7,V)] hh gV a3 w3→goX n Tryz.prog (aA 1 wG) (rA n Tryz.prog ((fun k a w'=>∃i hh own W aD N aP Ms V aW,k=pv.length-i∧i≤pv.length∧aP.length=i∧N.ns=ns∧SnI h hh own (tX th st ga le re ti P PL cp u) W aD N aP Ms V V6 (snX th st ga le re ti P PL.length cp lv cv (tS K ck pv nil)) pv.length st PL.length i∧
   St (ρ,h,w) 90 [(1,.ptr h.n 0 0),(5,.ptr ns 0 0),(6,V6),(7,V),(8,.int .i64 (i:Nat))] hh aW a w')) (pv.length-i) 0 (aA 1 (aA 1 snI)) (iH n Tryz.prog (aA 1 (aA 4 jK)) Q)) (.exit 0) a3 w3:=fun{gV a3 w3} s3=>by
   rw[pO,tT,sn_noI];show cB n Tryz.prog (aA 1 (aA 4 jK)) Q a3 w3;rw[sn_t45];refine jU (d:=aA 5 jK) sn_rg5 ?_;refine lN (m:=5) bW sU sn_50 (v:=V) rfl (by simp) s3 fun a4 s4=>?_
   refine lN (m:=4) bW sU sn_51 (v:=.ptr ns 0 0) rfl (by simp) s4 fun a5 s5=>?_
   obtain⟨_,_,L⟩:=I.inv.look;have hE:=L.evb;obtain⟨eV,h7,sp,G7,hn7,ev7⟩:=I.inv.events (by omega) (by omega);rw[ens0]at sp;refine jV (m:=3) sU sn_52 rfl (by simp) sp.toE s5 fun v' h' ρ6 a6 w6 hv s6=>?_
   have hv1:v'=eV:=hv.1;have hv2:h'=h7:=hv.2;rw[hv1,hv2]at s6;refine lN (m:=2) bW sU sn_53 (v:=V) rfl (by simp) s6 fun a7 s7=>?_
   refine lN (m:=1) bW sU sn_54 (v:=eV) rfl (by simp) s7 fun a8 s8=>?_
   rw[sn_t56];have qO:Fit h7 (aT [] []) (nm []):=aX (R:=[]) (os:=[]) (ns:=[]) trivial (by simp[aQ]) (by simp) (by omega);have s8:St (ρ,h,w) 90 [(3,eV),(2,V),(89,eV),(88,.ptr ns 0 0),(87,V),(1,.ptr h.n 0 0),(5,.ptr ns 0 0),(7,V)] h7 ρ6 a8 w6:=s8;refine jX (i:=5) (j:=1) (m:=1) (k:=1) (K:=0) (ns:=[]) bW (aH _) sne trivial qO rfl rfl rfl (by simp) (by omega) sU sn_ok6 sn_len5 rfl (.inr rfl) s8 (fun q hq=>by cases hq) fun yK a9 w9 s9=>⟨fun _=>?_,fun e=>by cases e⟩
   show Q .ret a9 w9;have s9:St (ρ,h,w) 90 [(4,.bool true),(3,eV),(2,V)] h7 yK a9 w9:=s9;have gg:∀m,m<hh.n→h7.get m=hh.get m:=G7.old;refine hq _ yK a9 w9 [V,eV,.bool true] h7 (.inl rfl) rfl ⟨u,aP,aD,V,eV,rfl,by omega,by omega,fun m hm=>(gg m (by omega)).trans (I.old m hm).1,by omega,by omega,L.hs,L.fact,?_,?_⟩ (s9.sub fun q hq=>?_)
   ·rcases I.out with⟨e1,e2,_⟩|⟨M,e1,e2,e3⟩
    ·exact .inl ⟨List.length_eq_zero_iff.1 (by omega),e1⟩
    ·rcases Nat.eq_zero_or_pos i with z|z
     ·exfalso
      have:=I.oz z;rw[e1]at this;cases this
     ·refine .inr ⟨M,Ms,by rw[hl];exact e1,fun e=>by rw[e]at hl;simp at hl;omega,(gg M e2.2.2).trans e2.1,by have:=e2.2.2;omega,by rw[I.len,hl],fun j s d n0 W0 hs hj=>?_⟩
      have ar:=I.row j s d n0 W0 hs hj;exact⟨(gg s ar.2.2).trans ar.1,by have:=ar.2.2;omega⟩
   ·rcases ev7 with⟨e1,e2⟩|⟨e1,e,e2,e3,e4,e5⟩
    ·exact .inl ⟨e1,e2⟩
    ·exact .inr ⟨e1,e,e2,e3,e5⟩
   ·have e:([2,3,4]:List Nat).zip [V,eV,.bool true]=[(2,V),(3,eV),(4,.bool true)]:=rfl
    rw[e]at hq;simp only[List.mem_cons,List.not_mem_nil,or_false]at hq;rcases hq with rfl|rfl|rfl<;>simp
  rcases I.pk with⟨h0,rfl⟩|⟨p,T,rfl,ap,hT⟩
  ·have qO:Fit hh (aT [] []) (nm []):=aX (R:=[]) (os:=[]) (ns:=[]) trivial (by simp[aQ]) (by simp) (by omega)
   have e0:i=0:=by omega
   refine bD (K:=0) (ns:=[]) bW (aH _) snr_2 trivial qO rfl rfl rfl (by simp) (by omega) sn_okL s (fun q hq=>by
    have e:cU (nm []) [(6,aC),(8,.int .i64 0)]=[(6,aC),(8,.int .i64 0)]:=rfl;rw[e]at hq;simp only[List.mem_cons,List.not_mem_nil,or_false]at hq;rcases hq with rfl|rfl
    ·simp
    ·rw[e0];simp) fun gV a3 w3 s3=>fin s3
  ·have ft1:Fit hh (aT [.dead] [0]) (nm [p]):=aX (R:=[0]) (os:=[.dead]) (ns:=[p]) ⟨ap.2.2,dd rfl,trivial⟩ (by simp[aQ,SO.lives]) (by simp) (by omega)
   refine bD (K:=0) (ns:=[p]) bW (aH _) (snr_1 pv.length i) (aU (decide_eq_false (by omega)) trivial) ft1 rfl rfl rfl (by simp) (by omega) sn_okL s (fun q hq=>by
    have e:cU (nm [p]) [(6,SV.slice 0 0 pv.length none),(8,.int .i64 (i:Int))]=[(6,.slice p 0 pv.length none),(8,.int .i64 (i:Int))]:=rfl;rw[e]at hq;simp only[List.mem_cons,List.not_mem_nil,or_false]at hq;rcases hq with rfl|rfl<;>simp) fun gV a3 w3 s3=>fin s3
end
end Go.Proofs.YtnkcbfgfkadoaaaGreat.Sx
