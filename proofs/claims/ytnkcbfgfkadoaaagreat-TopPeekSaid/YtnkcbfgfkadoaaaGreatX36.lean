/- Part 36 of the proof of TopPeek. -/
import Derived.Test.YtnkcbfgfkadoaaaGreatX35
set_option linter.all false
namespace Go.Proofs.YtnkcbfgfkadoaaaGreat.Sx
open Go
set_option maxRecDepth 10000
theorem fr_all{k:Nat}(hk:1≤k∧k≤12)(th st ga le re ti:Int)(cp cl:Option Nat)(LL:List Int):follow (oB k) ((FrR th st ga le re ti k cp cl LL).bind (cD [9,8]))=some (frC st ti k LL k,(.ptr 9 0 0,11+12*k,[.cells 107 2 [.slice 8 0 (Int.toNat (gB st ti k)) (some (Int.toNat (gB st ti k))),aC],.ints 3 1 (qM st (Int.toNat (gB st ti k)) LL k)])):=by
 have:k=1∨k=2∨k=3∨k=4∨k=5∨k=6∨k=7∨k=8∨k=9∨k=10∨k=11∨k=12:=by omega
 rcases this with rfl|rfl|rfl|rfl|rfl|rfl|rfl|rfl|rfl|rfl|rfl|rfl
 ·exact fr_1 th st ga le re ti cp cl LL
 ·exact fr_2 th st ga le re ti cp cl LL
 ·exact fr_3 th st ga le re ti cp cl LL
 ·exact fr_4 th st ga le re ti cp cl LL
 ·exact fr_5 th st ga le re ti cp cl LL
 ·exact fr_6 th st ga le re ti cp cl LL
 ·exact fr_7 th st ga le re ti cp cl LL
 ·exact fr_8 th st ga le re ti cp cl LL
 ·exact fr_9 th st ga le re ti cp cl LL
 ·exact fr_10 th st ga le re ti cp cl LL
 ·exact fr_11 th st ga le re ti cp cl LL
 ·exact fr_12 th st ga le re ti cp cl LL
theorem lH(i:Int):rD i=i.toNat:=by
 unfold rD;rw[aY];show 0+i.toNat=_;omega
theorem qN{st:Int}{N:Nat}{LL:List Int}:∀v,(qM st N LL v).length=N
 |0=>by simp[qM]
 |v+1=>by simp[qM,qN v]
theorem zX{st:Int}(hs:0≤st)(v:Nat):0≤jG st v:=Int.mul_nonneg (by omega) (by omega)
theorem wE{st:Int}(hs:0≤st){u v:Nat}(h:u<v):jG st u+(6+2*st)≤jG st v:=by
 unfold jG;have e:((u:Int)+1)*(6+2*st)=(u:Int)*(6+2*st)+(6+2*st):=by rw[Int.add_mul];omega
 have:=Int.mul_le_mul_of_nonneg_right (show(u:Int)+1≤v by omega) (show 0≤6+2*st by omega);omega
theorem frC_ok{st ti:Int}{k:Nat}{LL:List Int}(hs:0≤st∧st≤8)(ht:0≤ti∧ti≤100)(hk:k≤12)(hl:k≤LL.length):∀v,v≤k→holds (frC st ti k LL v)
 |0,_=>by
  have m:=fU (v:=(k:Int)) (by omega) (by omega) hs.1 hs.2;unfold frC gB;exact⟨aN (by omega),aN (by omega),aN (by omega),aN (by omega),aN (by omega),decide_eq_true (by omega),decide_eq_true rfl,decide_eq_true (by omega),trivial⟩
 |v+1,hv=>by
  have m:=fU (v:=(v:Int)) (by omega) (by omega) hs.1 hs.2;have m2:=wE hs.1 (show v<k by omega);have m0:=zX hs.1 v;have e:gB st ti k=jG st k+2*ti:=rfl;have e':(v:Int)*(6+2*st)=jG st v:=rfl;rw[e']at m;have eN:((gB st ti k).toNat:Int)=jG st k+2*ti:=by omega
  refine aG (frC_ok hs ht hk hl v (by omega)) ?_;unfold frC1;simp only[holds,List.length_set,qN,lH,and_true];exact⟨aF.2 (by omega),aN (by omega),aN (by omega),aN (by omega),decide_eq_true (by omega),decide_eq_true (by omega),aF.2 (by omega),
   aF.2 (by omega),aN (by omega),aN (by omega),aN (by omega),aN (by omega),decide_eq_true (by omega),decide_eq_true (by omega),aF.2 (by omega),
   aN (by omega),aN (by omega),aN (by omega),aN (by omega),aN (by omega),aN (by omega),decide_eq_true (by omega),decide_eq_true (by omega),aF.2 (by omega)⟩
theorem frW_get{st ti:Int}{k:Nat}{LL:List Int}(hs:1≤st∧st≤8)(ht:0≤ti):∀v,v≤k→(∀u:Nat,u<v→(qM st (Int.toNat (gB st ti k)) LL v).getD (jG st u+5+st).toNat 0=1)∧∀u:Nat,u<k→∀j,0≤j→j<st→(qM st (Int.toNat (gB st ti k)) LL v).getD (jG st u+6+st+j).toNat 0=0
 |0,_=>⟨fun u h=>by omega,fun u hu j h1 h2=>by
  unfold qM;rw[List.getD_eq_getElem?_getD,List.getElem?_replicate];split<;>rfl⟩
 |v+1,hv=>by
  have m2:=wE (st:=st) (by omega) (show v<k by omega);have m0:=zX (st:=st) (by omega) v;have eN:((gB st ti k).toNat:Int)=jG st k+2*ti:=by
   have e:gB st ti k=jG st k+2*ti:=rfl;omega
  obtain⟨i1,i2⟩:=frW_get (ti:=ti) (k:=k) (LL:=LL) hs ht v (by omega);have key:∀p:Int,0≤p→(qM st (Int.toNat (gB st ti k)) LL (v+1)).getD p.toNat 0=if p=jG st v+5+st then 1 else if p=jG st v+1 then zW LL v else if p=jG st v then zW LL v else(qM st (Int.toNat (gB st ti k)) LL v).getD p.toNat 0:=fun p hp=>by
   have e:qM st (Int.toNat (gB st ti k)) LL (v+1)=List.set (List.set (List.set (qM st (Int.toNat (gB st ti k)) LL v) (rD (jG st v)) (zW LL v)) (rD (jG st v+1)) (zW LL v)) (rD (jG st v+2+st+3)) 1:=rfl;rw[e,jT (by rw[lH];simp only[List.length_set,qN];omega),jT (by rw[lH];simp only[List.length_set,qN];omega),jT (by rw[lH];simp only[qN];omega)];simp only[lH];split
   ·rw[if_pos (show p=jG st v+5+st by omega)]
   ·rw[if_neg (show¬p=jG st v+5+st by omega)]
    split
    ·rw[if_pos (show p=jG st v+1 by omega)]
    ·rw[if_neg (show¬p=jG st v+1 by omega)]
     split
     ·rw[if_pos (show p=jG st v by omega)]
     ·rw[if_neg (show¬p=jG st v by omega)]
  refine⟨fun u hu=>?_,fun u hu j h1 h2=>?_⟩
  ·have mu:=zX (st:=st) (by omega) u
   rw[key _ (by omega)];rcases Nat.lt_or_ge u v with h|h
   ·have:=wE (st:=st) (by omega) h
    rw[if_neg (show¬jG st u+5+st=jG st v+5+st by omega),if_neg (show¬jG st u+5+st=jG st v+1 by omega),if_neg (show¬jG st u+5+st=jG st v by omega)];exact i1 u h
   ·have:u=v:=by omega
    subst this;rw[if_pos rfl]
  ·have mu:=zX (st:=st) (by omega) u
   rw[key _ (by omega)];have:jG st u+6+st+j≠jG st v+5+st∧jG st u+6+st+j≠jG st v+1∧jG st u+6+st+j≠jG st v:=by
    rcases Nat.lt_trichotomy u v with h|h|h
    ·have:=wE (st:=st) (by omega) h;omega
    ·subst h;omega
    ·have:=wE (st:=st) (by omega) h;omega
   rw[if_neg this.1,if_neg this.2.1,if_neg this.2.2];exact i2 u hu j h1 h2
theorem valueOf_0:valueOf 0=0:=sN _ _ (by omega) (by omega) (by omega)
theorem fresh_wok{C:bS}(ok:dU C){LL:List Int}:hU C (qM C.st (Int.toNat (gB C.st C.ti C.PL.length)) LL C.PL.length):=by
 have hs:1≤C.st∧C.st≤8:=by have:=ok.st;omega
 have ht:0≤C.ti:=by have:=ok.ti;omega
 obtain⟨g1,g2⟩:=frW_get (LL:=LL) hs ht C.PL.length (Nat.le_refl _);refine⟨?_,fun v hv=>?_,fun v k hv h1 h2=>?_⟩
 ·rw[qN]
  have:=zX (st:=C.st) (by omega) C.PL.length;have e:gB C.st C.ti C.PL.length=jG C.st C.PL.length+2*C.ti:=rfl;have e2:siz C=jG C.st C.PL.length+2*C.ti:=rfl;omega
 ·obtain⟨n,rfl⟩:∃n:Nat,v=(n:Int):=⟨v.toNat,by have:=hv.1;omega⟩
  have e:dG C (n:Int)+3=jG C.st n+5+C.st:=by
   have:dG C (n:Int)=jG C.st n+2+C.st:=rfl;omega
  rw[e,g1 n (by have:=hv.2;omega)];exact⟨.inl rfl,hs.1⟩
 ·obtain⟨n,rfl⟩:∃n:Nat,v=(n:Int):=⟨v.toNat,by have:=hv.1;omega⟩
  have e:dG C (n:Int)+4+k=jG C.st n+6+C.st+k:=by
   have:dG C (n:Int)=jG C.st n+2+C.st:=rfl;omega
  rw[e,g2 n (by have:=hv.2;omega) k h1 h2,valueOf_0];have:=ok.ga;omega
noncomputable def freshK:cI:=fun t h=>match t with
 |.fn 26 [.agg [.int .i64 _,.int .i64 st,.int .i64 _,.int .i64 _,.int .i64 _,.int .i64 ti,.slice P 0 np _,.slice L 0 nl _]]=>match h.get L with
  |.ints 3 1 LL=>some (.chk (Nat.blt P h.n&&Nat.blt L h.n&&Nat.ble (h.n+160) 1000000) (.chk (decide ((0≤st∧st≤8)∧(0≤ti∧ti≤100)∧(1≤np∧np≤12)∧nl=np∧np≤LL.length)) (.ret (.ptr (h.n+7) 0 0,h.lay 160 [(h.n+7,.cells 107 2 [.slice (h.n+6) 0 (Int.toNat (gB st ti np)) (some (Int.toNat (gB st ti np))),aC]),(h.n+6,.ints 3 1 (qM st (Int.toNat (gB st ti np)) LL np))]))))
  |_=>none
 |_=>none
theorem xD:cX Tryz.prog freshK:=fun f args h o r ho hg=>by
 unfold freshK at ho;split at ho
 ·rename_i th st ga le re ti P np cp L nl cl heq
  injection heq with e1 e2;subst e1;subst e2;split at ho
  ·rename_i LL gl
   injection ho with ho;subst ho;obtain⟨hc,hg1⟩:=Out.chk_go hg;obtain⟨hd,pU⟩:=Out.chk_go hg1;have:=Out.ret_go pU;subst this;simp only[Bool.and_eq_true]at hc;have c1:=aF.1 hc.1.1;have c2:=aF.1 hc.1.2;have c3:=Nat.le_of_ble_eq_true hc.2;obtain⟨d1,d2,d3,d4,d5⟩:=of_decide_eq_true hd;subst d4;have fit:h.n≤1000000→Fit h (aT [.dead,.ints 3 1 LL] [0,1]) (nm [P,L]):=fun h6=>aX (R:=[0,1]) (os:=[.dead,.ints 3 1 LL]) (ns:=[P,L])
    ⟨c1,⟨fun h=>absurd rfl h,fun _ _ _ _=>trivial⟩,c2,⟨fun _=>by unfold live;rw[gl];simp,fun ρ p w h=>by rw[gl]at h;exact h⟩,trivial⟩ (by simp[aQ,SO.lives]) (by simp) h6
   have hn:fO 2 [0,1] (11+12*nl) [9,8]=true:=by
    simp[fO,List.range,List.range.loop,Nat.ble_eq_true_of_le (show 2≤11+12*nl by omega),aF.2 (show 9<11+12*nl by omega),aF.2 (show 8<11+12*nl by omega)]
   have key:=cP (K:=160) (j:=[]) (ns:=[P,L]) bW (aH _) (fr_all d3 th st ga le re ti cp cl LL) (frC_ok d1 d2 d3.2 d5 nl (Nat.le_refl _)) (rN.refl _) fit rfl hn rfl (by simp;omega) (by simp) c3;exact key
  ·cases ho
 ·cases ho
end Go.Proofs.YtnkcbfgfkadoaaaGreat.Sx
namespace Go.Proofs.YtnkcbfgfkadoaaaGreat.Sx
open Go
set_option maxRecDepth 100000
theorem nw1_s(th st ga le re ti:Int)(np nt:Nat)(cp cl cc:Option Nat)(LL:List Int):∀x:Nat→SV,follow [(1,true)] ((bB Tryz.prog (runK Tryz.prog freshK 20) false #[] 0 0 2 (some (bR 10)) (cJ 34 [(0,.agg [.int .i64 th,.int .i64 st,.int .i64 ga,.int .i64 le,.int .i64 re,.int .i64 ti,.slice 0 0 np cp,.slice 1 0 np cl]),(1,.slice 2 0 nt cc)] x) (aT [.dead,.ints 3 1 LL,.dead] [0,1,2])).bind (dB [1,5] [164,11,10] []))=some ([(decide ((0≤st∧st≤8)∧(0≤ti∧ti≤100)∧(1≤np∧np≤12)∧np=np∧np≤List.length LL),true)],(34,.normal,[],[.slice 2 0 nt cc,.ptr 164 0 0],165,[.cells 68 11 [.int .i64 th,.int .i64 st,.int .i64 ga,.int .i64 le,.int .i64 re,.int .i64 ti,.slice 0 0 np cp,.slice 1 0 np cl,.ptr 11 0 0,aC,aC],.cells 107 2 [.slice 10 0 (Int.toNat (gB st ti np)) (some (Int.toNat (gB st ti np))),aC],.ints 3 1 (qM st (Int.toNat (gB st ti np)) LL np)])):=by intro x;kernel_rfl
theorem nw1_n(th st ga le re ti:Int)(np nt:Nat)(cp cl cc:Option Nat)(LL:List Int):∀x:Nat→SV,follow [(1,true)] ((bB Tryz.prog (runK Tryz.prog freshK 20) false #[] 0 0 2 (some (bR 10)) (cJ 34 [(0,.agg [.int .i64 th,.int .i64 st,.int .i64 ga,.int .i64 le,.int .i64 re,.int .i64 ti,.slice 0 0 np cp,.slice 1 0 np cl]),(1,aC)] x) (aT [.dead,.ints 3 1 LL,.dead] [0,1,2])).bind (dB [1,5] [164,11,10] []))=some ([(decide ((0≤st∧st≤8)∧(0≤ti∧ti≤100)∧(1≤np∧np≤12)∧np=np∧np≤List.length LL),true)],(34,.normal,[],[aC,.ptr 164 0 0],165,[.cells 68 11 [.int .i64 th,.int .i64 st,.int .i64 ga,.int .i64 le,.int .i64 re,.int .i64 ti,.slice 0 0 np cp,.slice 1 0 np cl,.ptr 11 0 0,aC,aC],.cells 107 2 [.slice 10 0 (Int.toNat (gB st ti np)) (some (Int.toNat (gB st ti np))),aC],.ints 3 1 (qM st (Int.toNat (gB st ti np)) LL np)])):=by intro x;kernel_rfl
theorem nw2_s(nt:Nat)(cc:Option Nat):∀x:Nat→SV,follow [] ((bB Tryz.prog (runK Tryz.prog S0 20) false #[] 0 0 1 (qV (aA 2 (some (bR 10)))) (cJ 34 [(1,.slice 0 0 nt cc),(5,.ptr 1 0 0)] x) (aT [.dead,.dead] [0,1])).bind (dB [5,13,14,15] [] []))=some ([],(34,.normal,[],[.ptr 1 0 0,.slice 0 0 nt cc,.int .i64 nt,.int .i64 0],2,[])):=by intro x;kernel_rfl
theorem nw2_n:∀x:Nat→SV,follow [] ((bB Tryz.prog (runK Tryz.prog S0 20) false #[] 0 0 1 (qV (aA 2 (some (bR 10)))) (cJ 34 [(1,aC),(5,.ptr 1 0 0)] x) (aT [.dead,.dead] [0,1])).bind (dB [5,13,14,15] [] []))=some ([],(34,.normal,[],[.ptr 1 0 0,aC,.int .i64 0,.int .i64 0],2,[])):=by intro x;kernel_rfl
def yJ(th st ga le re ti:Int)(np:Nat)(cp cl:Option Nat)(thr:SV):SO:=.cells 68 11 [.int .i64 th,.int .i64 st,.int .i64 ga,.int .i64 le,.int .i64 re,.int .i64 ti,.slice 4 0 np cp,.slice 5 0 np cl,.ptr 6 0 0,thr,aC]
theorem nwr_an(th st ga le re ti:Int)(np nt n i:Nat)(cp cl cc cn:Option Nat)(T cs:List SV):∀x:Nat→SV,follow [(0,true),(0,true),(0,true),(0,true),(9,true)] ((bB Tryz.prog (runK Tryz.prog S0 20) false #[] 0 0 4 (lpB (aA 1 (qV (aA 2 (some (bR 10)))))) (cJ 34 [(5,.ptr 0 0 0),(13,.slice 1 0 nt cc),(14,.int .i64 nt),(15,.int .i64 i)] x) (aT [yJ th st ga le re ti np cp cl (aC),.spot 48 1 i [aC],.dead,.dead,.dead,.dead,.dead,.dead,.dead,.dead,.dead,.dead,.dead,.dead,.dead] [1,2,3,4,5,6,7,8,9,10,11,12,13,14])).bind (dB [5,13,14,15] [0,17,15] [0,1,0]))=some ([(decide ((i:Int)<nt),true),(decide ((0:Int)≤i),true),(decide ((i:Int)<nt),true),(Nat.beq (aE 0 (Int.toNat i)) i,true),(fits ((i:Int)+1),true)],(34,.normal,[],[.ptr 0 0 0,.slice 1 0 nt cc,.int .i64 nt,.int .i64 ((i:Int)+1)],18,[yJ th st ga le re ti np cp cl (.slice 17 0 1 none),.cells 69 1 [.ptr 15 0 0],kK (aC) 0 0 0 (.val .nilIface)])):=by intro x;kernel_rfl
theorem nwr_as(th st ga le re ti:Int)(np nt n i:Nat)(cp cl cc cn:Option Nat)(T cs:List SV):∀x:Nat→SV,follow [(0,true),(0,true),(0,true),(0,true),(2,true),(2,true),(11,true)] ((bB Tryz.prog (runK Tryz.prog S0 20) false #[] 0 0 4 (lpB (aA 1 (qV (aA 2 (some (bR 10)))))) (cJ 34 [(5,.ptr 0 0 0),(13,.slice 1 0 nt cc),(14,.int .i64 nt),(15,.int .i64 i)] x) (aT [yJ th st ga le re ti np cp cl (aC),.spot 48 1 i [.slice 3 0 n cn],.dead,.cells 37 3 cs,.dead,.dead,.dead,.dead,.dead,.dead,.dead,.dead,.dead,.dead,.dead] [1,2,3,4,5,6,7,8,9,10,11,12,13,14])).bind (dB [5,13,14,15] [0,19,17,16] [0,1,0,1]))=some ([(decide ((i:Int)<nt),true),(decide ((0:Int)≤i),true),(decide ((i:Int)<nt),true),(Nat.beq (aE 0 (Int.toNat i)) i,true),(Nat.ble (bG (aE 0 n) 3) cs.length,true),(Nat.ble (0+n) 1000000000,true),(fits ((i:Int)+1),true)],(34,.normal,[],[.ptr 0 0 0,.slice 1 0 nt cc,.int .i64 nt,.int .i64 ((i:Int)+1)],20,[yJ th st ga le re ti np cp cl (.slice 19 0 1 none),.cells 69 1 [.ptr 17 0 0],kK (.slice 16 0 (0+n) none) 0 0 0 (.val .nilIface),.cells 37 3 ([]++List.take (bG n 3) cs)])):=by intro x;kernel_rfl
theorem nwr_bn(th st ga le re ti:Int)(np nt n i:Nat)(cp cl cc cn:Option Nat)(T cs:List SV):∀x:Nat→SV,follow [(0,true),(0,true),(0,true),(0,true),(1,true),(3,true),(3,true)] ((bB Tryz.prog (runK Tryz.prog S0 20) false #[] 0 0 4 (lpB (aA 1 (qV (aA 2 (some (bR 10)))))) (cJ 34 [(5,.ptr 0 0 0),(13,.slice 1 0 nt cc),(14,.int .i64 nt),(15,.int .i64 i)] x) (aT [yJ th st ga le re ti np cp cl (.slice 2 0 i none),.spot 48 1 i [aC],.cells 69 1 T,.dead,.dead,.dead,.dead,.dead,.dead,.dead,.dead,.dead,.dead,.dead,.dead] [1,3,4,5,6,7,8,9,10,11,12,13,14])).bind (dB [5,13,14,15] [0,2,17,15] [0,2,1,0]))=some ([(decide ((i:Int)<nt),true),(decide ((0:Int)≤i),true),(decide ((i:Int)<nt),true),(Nat.beq (aE 0 (Int.toNat i)) i,true),(Nat.ble (bG (aE 0 i) 1) T.length,true),(Nat.ble (i+1) 1000000000,true),(fits ((i:Int)+1),true)],(34,.normal,[],[.ptr 0 0 0,.slice 1 0 nt cc,.int .i64 nt,.int .i64 ((i:Int)+1)],18,[yJ th st ga le re ti np cp cl (.slice 17 0 (i+1) none),.dead,.cells 69 1 (T.take (bG i 1)++[.ptr 15 0 0]),kK (aC) 0 0 0 (.val .nilIface)])):=by intro x;kernel_rfl
theorem nwr_bs(th st ga le re ti:Int)(np nt n i:Nat)(cp cl cc cn:Option Nat)(T cs:List SV):∀x:Nat→SV,follow [(0,true),(0,true),(0,true),(0,true),(2,true),(2,true),(3,true),(3,true),(3,true)] ((bB Tryz.prog (runK Tryz.prog S0 20) false #[] 0 0 4 (lpB (aA 1 (qV (aA 2 (some (bR 10)))))) (cJ 34 [(5,.ptr 0 0 0),(13,.slice 1 0 nt cc),(14,.int .i64 nt),(15,.int .i64 i)] x) (aT [yJ th st ga le re ti np cp cl (.slice 2 0 i none),.spot 48 1 i [.slice 3 0 n cn],.cells 69 1 T,.cells 37 3 cs,.dead,.dead,.dead,.dead,.dead,.dead,.dead,.dead,.dead,.dead,.dead] [1,3,4,5,6,7,8,9,10,11,12,13,14])).bind (dB [5,13,14,15] [0,2,19,17,16] [0,2,1,0,1]))=some ([(decide ((i:Int)<nt),true),(decide ((0:Int)≤i),true),(decide ((i:Int)<nt),true),(Nat.beq (aE 0 (Int.toNat i)) i,true),(Nat.ble (bG (aE 0 n) 3) cs.length,true),(Nat.ble (0+n) 1000000000,true),(Nat.ble (bG (aE 0 i) 1) T.length,true),(Nat.ble (i+1) 1000000000,true),(fits ((i:Int)+1),true)],(34,.normal,[],[.ptr 0 0 0,.slice 1 0 nt cc,.int .i64 nt,.int .i64 ((i:Int)+1)],20,[yJ th st ga le re ti np cp cl (.slice 19 0 (i+1) none),.dead,.cells 69 1 (T.take (bG i 1)++[.ptr 17 0 0]),kK (.slice 16 0 (0+n) none) 0 0 0 (.val .nilIface),.cells 37 3 ([]++List.take (bG n 3) cs)])):=by intro x;kernel_rfl
theorem nwr_x(nt i:Nat)(cc:Option Nat):∀x:Nat→SV,follow [(0,false)] ((bB Tryz.prog (runK Tryz.prog S0 20) false #[] 0 0 4 (lpB (aA 1 (qV (aA 2 (some (bR 10)))))) (cJ 34 [(5,.ptr 0 0 0),(13,.slice 1 0 nt cc),(14,.int .i64 nt),(15,.int .i64 i)] x) (aT [.dead,.dead] [0,1])).bind (dB [5] [] []))=some ([(decide ((i:Int)<nt),false)],(34,(.exit 0),[],[.ptr 0 0 0],2,[])):=by intro x;kernel_rfl
theorem nwr_y:∀x:Nat→SV,follow [] ((bB Tryz.prog (runK Tryz.prog S0 20) false #[] 0 0 4 (lpB (aA 1 (qV (aA 2 (some (bR 10)))))) (cJ 34 [(5,.ptr 0 0 0),(13,aC),(14,.int .i64 0),(15,.int .i64 0)] x) (aT [.dead] [0])).bind (dB [5] [] []))=some ([],(34,(.exit 0),[],[.ptr 0 0 0],1,[])):=by intro x;kernel_rfl
theorem nwe:∀x:Nat→SV,follow [] ((bB Tryz.prog (runK Tryz.prog S0 20) false #[] 0 0 2 (aA 1 (aA 2 (some (bR 10)))) (cJ 34 [(5,.ptr 0 0 0)] x) (aT [.dead] [0])).bind (dB [4] [] []))=some ([],(34,.ret,[],[.ptr 0 0 0],1,[])):=by intro x;kernel_rfl
end Go.Proofs.YtnkcbfgfkadoaaaGreat.Sx
namespace Go.Proofs.YtnkcbfgfkadoaaaGreat.Sx
open Go
set_option maxRecDepth 10000
def lkT:List (Nat×Nat)→Nat→Nat→Nat
 |[],_,d=>d
 |p::r,m,d=>match Nat.beq p.1 m with
  |true=>p.2
  |false=>lkT r m d
theorem lkT_in:∀{l:List (Nat×Nat)} {m t d:Nat},(l.map (·.1)).Nodup→(m,t)∈l→lkT l m d=t
 |[],_,_,_,_,h=>by simp at h
 |p::r,m,t,d,hd,h=>by
  rw[List.map_cons,List.nodup_cons]at hd;unfold lkT;rcases List.mem_cons.1 h with e|h
  ·subst e;simp
  ·have:Nat.beq p.1 m=false:=by
    cases hb:Nat.beq p.1 m
    ·rfl
    ·have:=Nat.eq_of_beq_eq_true hb
     exact absurd (List.mem_map.2 ⟨(m,t),h,rfl⟩) (by rw[this]at hd;exact hd.1)
   rw[this];exact lkT_in hd.2 h
theorem lkT_out:∀{l:List (Nat×Nat)} {m d:Nat},(∀p∈l,p.1≠m)→lkT l m d=d
 |[],_,_,_=>rfl
 |p::r,m,d,h=>by
  unfold lkT;have:Nat.beq p.1 m=false:=by
   cases hb:Nat.beq p.1 m
   ·rfl
   ·exact absurd (Nat.eq_of_beq_eq_true hb) (h p (by simp))
  rw[this];exact lkT_out fun q hq=>h q (by simp[hq])
section
variable{h:H}{objs os:List SO}{R ns ls tgs:List Nat}{nn K:Nat}
theorem gX(ft:Fit h (aT objs R) (nm ns))(eK:eU R objs=true)(mK:fO objs.length R nn ls=true)(hK:nn-objs.length≤K)(h6:h.n+K≤1000000)(hlen:ls.length=os.length)(htg:tgs.length=ls.length)(own:Nat→Nat):
 ∃eJ:Nat→Nat,(∀(i l:Nat) (o:SO) (t:Nat),ls[i]?=some l→os[i]?=some o→tgs[i]?=some t→At (h.lay K (laid (nx h.n objs.length [] ns) ls os)) eJ (nx h.n objs.length [] ns l) t (o.ren (nx h.n objs.length [] ns)))∧
  ∀m,m<h.n→(∀l∈ls,l<objs.length→nm ns l≠m)→(h.lay K (laid (nx h.n objs.length [] ns) ls os)).get m=h.get m∧eJ m=own m:=by
 obtain⟨g1,g2,g3⟩:=zG (j:=[]) ft eK mK hK (by simp) h6 hlen;have hls':=mK;simp only[fO,Bool.and_eq_true,decide_eq_true_eq]at hls';have l1:=hls'.1.1.1.1;have l5:=Nat.le_of_ble_eq_true hls'.2;have qinj:∀l∈ls,∀l'∈ls,nx h.n objs.length [] ns l=nx h.n objs.length [] ns l'→l=l':=fun l hm l' pZ e=>by
  obtain⟨a1,a2,a3,a4⟩:=g3 l hm;obtain⟨b1,b2,b3,b4⟩:=g3 l' pZ;rcases Nat.lt_or_ge l objs.length with h1|h1<;>rcases Nat.lt_or_ge l' objs.length with h2|h2
  ·rw[(a3 h1).1,(b3 h2).1]at e
   exact ft.inj _ _ (mJ (by omega) eK h1 a2) (mJ (by omega) eK h2 b2) e
  ·rw[(a3 h1).1,(b4 h2).1]at e;have:=(a3 h1).2;omega
  ·rw[(a4 h1).1,(b3 h2).1]at e;have:=(b3 h2).2;omega
  ·rw[(a4 h1).1,(b4 h2).1]at e;have:=uH (Nat.add_left_cancel e);omega
 have kO:(ls.map (nx h.n objs.length [] ns)).Nodup:=by
  have:∀(l:List Nat),l.Nodup→(∀a∈l,a∈ls)→(l.map (nx h.n objs.length [] ns)).Nodup:=by
   intro l
   induction l with
   |nil=>intro _ _;simp
   |cons a l ih=>
    intro hd hi;rw[List.map_cons,List.nodup_cons]at*;refine⟨fun hm=>?_,ih hd.2 fun b hb=>hi b (by simp[hb])⟩;obtain⟨b,hb,e⟩:=List.mem_map.1 hm;have:=qinj b (hi b (by simp[hb])) a (hi a (by simp)) e;subst this;exact hd.1 hb
  exact this ls l1 fun a ha=>ha
 refine⟨fun m=>lkT ((ls.map (nx h.n objs.length [] ns)).zip tgs) m (own m),fun i l o t h1 h2 h3=>⟨g1 i l o h1 h2,?_,?_⟩,fun m hm hx=>?_⟩
 ·refine lkT_in (by rw[List.map_fst_zip (by simp[htg])];exact kO) ?_
  have:((ls.map (nx h.n objs.length [] ns)).zip tgs)[i]?=some (nx h.n objs.length [] ns l,t):=by
   rw[List.getElem?_zip_eq_some];exact⟨by rw[List.getElem?_map,h1];rfl,h3⟩
  exact List.mem_of_getElem? this
 ·obtain⟨_,_,b3,b4⟩:=g3 l (List.mem_of_getElem? h1)
  show _<h.n+K;rcases Nat.lt_or_ge l objs.length with hx|hx
  ·have:=b3 hx;omega
  ·have:=b4 hx;omega
 ·have ne:∀l∈ls,nx h.n objs.length [] ns l≠m:=fun l hl e=>by
   obtain⟨_,_,b3,b4⟩:=g3 l hl;rcases Nat.lt_or_ge l objs.length with h1|h1
   ·rw[(b3 h1).1]at e;exact hx l hl h1 e
   ·rw[(b4 h1).1]at e;omega
  refine⟨g2 m ne,lkT_out fun p hp=>?_⟩;have:=(List.of_mem_zip hp).1;obtain⟨l,hl,e⟩:=List.mem_map.1 this;rw[←e];exact ne l hl
theorem bE{r:Nat→Nat}{i n:Nat}{o:SO}(hc:R.contains i=true)(hh:(o≠.dead→live h n)∧∀(ρ:bF) (p:Pl) (w:World),OR ρ p w (h.get n)→OR (ρ.via r) p w o):jI h r R i n o:=by unfold jI;rw[hc];exact hh
theorem rZ{r:Nat→Nat}{i n:Nat}{o:SO}(hc:R.contains i=false)(hk:okK h n=true)(hw:h.get n=o.ren r)(hp:o.plain=true):jI h r R i n o:=by unfold jI;rw[hc];exact⟨hk,.of hw,hp⟩
theorem zY{n:Nat}(hR:∀m∈h.R,m≠n)(hC:h.C=[]):okK h n=true:=by
 simp only[okK,okR,Bool.and_eq_true,List.all_eq_true,hC];refine⟨fun x hx=>?_,fun x hx=>by cases hx⟩;have:=hR x hx;cases hb:Nat.beq x n
 ·rfl
 ·exact absurd (Nat.eq_of_beq_eq_true hb) this
end
theorem aU{b d:Bool}{cs:kB}(h:b=d)(hs:holds cs):holds ((b,d)::cs):=⟨h,hs⟩
structure rE where
 r:Nat
 n:Nat
 c:Option Nat
 cl:List (Int×Int×Int)
def crSV:Option rE→SV
 |none=>aC
 |some x=>.slice x.r 0 x.n x.c
def vD(cs:Option (Nat×Option Nat))(k:Nat):SV:=match cs with
 |none=>aC
 |some x=>.slice x.1 0 k x.2
structure Args(h:H)(P L:Nat)(PL LL:List Int)(cs:Option (Nat×Option Nat))(rows:List (Option rE)):Prop where
 R:∀m∈h.R,m<h.n
 C:h.C=[]
 p:h.get P=.ints 3 1 PL∧P<h.n
 l:h.get L=.ints 3 1 LL∧L<h.n
 no:cs=none→rows=[]
 cl:∀x,cs=some x→h.get x.1=.cells 48 1 (rows.map crSV)∧x.1<h.n
 row:∀x,some x∈rows→h.get x.r=.cells 37 3 (mD x.cl)∧x.r<h.n∧x.n≤x.cl.length
structure NwI(h h1:H)(own cO:Nat→Nat)(cells:List SV)(W:List Int)(N:Names)(aL:List Nat)(thr:SV)(i:Nat):Prop where
 n:h.n≤h1.n
 R:h1.R=h.R
 C:h1.C=h.C
 old:∀m,m<h.n→h1.get m=h.get m∧cO m=own m
 ns:At h1 cO N.ns 0 (.cells 68 11 (cells++[.ptr N.nm 0 0,thr,aC]))
 nm:At h1 cO N.nm 1 (.cells 107 2 [.slice N.nw 0 W.length (some W.length),aC])
 nw:At h1 cO N.nw 2 (.ints 3 1 W)
 len:aL.length=i
 thr0:i=0→thr=aC
 thr1:i≠0→thr=.slice N.nt 0 i none∧At h1 cO N.nt 3 (.cells 69 1 (aL.map fun t=>.ptr t 0 0))∧h.n≤N.nt
 th:∀j t,aL[j]?=some t→∃lf,oO h1 cO j lf∧At h1 cO t (tg j 0) (kK lf 0 0 0 (.val .nilIface))
 lo:h.n≤N.ns
section
variable{h h1 h2:H}{own cO eJ:Nat→Nat}{cells:List SV}{W:List Int}{N:Names}{aL:List Nat}{thr:SV}{i:Nat}
theorem NwI.step(I:NwI h h1 own cO cells W N aL thr i){T t:Nat}{lf:SV}(a0:At h2 eJ N.ns 0 (.cells 68 11 (cells++[.ptr N.nm 0 0,.slice T 0 (i+1) none,aC])))
 (a1:At h2 eJ T 3 (.cells 69 1 ((aL++[t]).map fun t=>.ptr t 0 0)))(a2:At h2 eJ t (tg i 0) (kK lf 0 0 0 (.val .nilIface)))(a3:oO h2 eJ i lf)
 (keep:∀m,m<h1.n→m≠N.ns→(i≠0→m≠N.nt)→h2.get m=h1.get m∧eJ m=cO m)(hn:h1.n≤h2.n)(hR:h2.R=h1.R)(hC:h2.C=h1.C)(hT:h1.n≤T):NwI h h2 own eJ cells W {N with nt:=T} (aL++[t]) (.slice T 0 (i+1) none) (i+1):=by
 have kp:∀{m tag:Nat} {o:SO},At h1 cO m tag o→tag≠0→tag≠3→At h2 eJ m tag o:=fun{m tag o} a h0 h3=>by
  obtain⟨k1,k2⟩:=keep m a.2.2 (fun e=>h0 (by rw[←a.2.1,e];exact I.ns.2.1)) (fun hi e=>h3 (by rw[←a.2.1,e];exact(I.thr1 hi).2.1.2.1));exact⟨by rw[k1];exact a.1,by rw[k2];exact a.2.1,by have:=a.2.2;omega⟩
 have tb:=fun j c=>mV j c
 refine⟨by have:=I.n;omega,hR.trans I.R,hC.trans I.C,fun m hm=>?_,a0,kp I.nm (by omega) (by omega),kp I.nw (by omega) (by omega),by simp[I.len],fun h=>by omega,fun _=>⟨rfl,a1,by have:=I.n;show h.n≤T;omega⟩,fun j t' hj=>?_,I.lo⟩
 ·have hm1:m<h1.n:=by have:=I.n;omega
  obtain⟨k1,k2⟩:=keep m hm1 (fun e=>by have:=I.lo;omega) (fun hi e=>by have:=(I.thr1 hi).2.2;omega);obtain⟨o1,o2⟩:=I.old m hm;exact⟨k1.trans o1,k2.trans o2⟩
 ·rcases Nat.lt_or_ge j aL.length with hl|hl
  ·rw[List.getElem?_append_left hl]at hj
   obtain⟨bV,l1,l2⟩:=I.th j t' hj;exact⟨bV,l1.imp fun m o a=>kp a (by have:=tb j 990;omega) (by have:=tb j 990;omega),kp l2 (by have:=tb j 0;omega) (by have:=tb j 0;omega)⟩
  ·rw[List.getElem?_append_right hl]at hj
   have hl':=I.len;cases hx:j-aL.length with
   |zero=>
    rw[hx]at hj;simp at hj;subst hj;have:j=i:=by omega
    subst this;exact⟨lf,a3,a2⟩
   |succ z=>rw[hx]at hj;simp at hj
theorem vE(q:Nat→Nat):∀cl:List (Int×Int×Int),SV.rens q (mD cl)=mD cl
 |[]=>rfl
 |c::cl=>by
  have e:mD (c::cl)=[.int .i64 c.1,.int .i64 c.2.1,.int .i64 c.2.2]++mD cl:=rfl;rw[e,SV.rens_append,vE q cl];rfl
theorem zZ:∀(n:Nat) (cl:List (Int×Int×Int)),(mD cl).take (n*3)=mD (cl.take n)
 |0,cl=>by simp[mD]
 |n+1,[]=>by simp[mD]
 |n+1,c::cl=>by
  have e:mD (c::cl)=.int .i64 c.1::.int .i64 c.2.1::.int .i64 c.2.2::mD cl:=rfl;rw[e,show(n+1)*3=n*3+1+1+1 by omega,List.take_succ_cons,List.take_succ_cons,List.take_succ_cons,zZ n cl,List.take_succ_cons];rfl
def kN(N:Names)(CL T r P L:Nat)(f:Nat→Nat):List Nat:=[N.ns,CL,T,r,P,L,N.nm,f 0,f 1,f 2,f 3,f 4,f 5,f 6,f 7]
theorem nwNs_f{N:Names}{CL T r P L:Nat}{f:Nat→Nat}{j:Nat}(h:j<8):nm (kN N CL T r P L f) (7+j)=f j:=by
 have:j=0∨j=1∨j=2∨j=3∨j=4∨j=5∨j=6∨j=7:=by omega
 rcases this with rfl|rfl|rfl|rfl|rfl|rfl|rfl|rfl<;>rfl
def AP(i:Nat):List SV:=(List.range i).map fun j=>.ptr (7+j) 0 0
theorem nwT_ren{aL:List Nat}{r:Nat→Nat}{d:Nat}(hr:∀j,j<8→r (7+j)=aL.getD j d)(h:aL.length≤8):SV.rens r (AP aL.length)=aL.map fun t=>.ptr t 0 0:=by
 rw[SV.rens_map];unfold AP;refine List.ext_getElem? fun j=>?_
 rw[List.getElem?_map,List.getElem?_map,List.getElem?_map];rcases Nat.lt_or_ge j aL.length with hj|hj
 ·rw[List.getElem?_range hj,List.getElem?_eq_getElem hj]
  simp only[Option.map_some,SV.ren];rw[hr j (by omega),List.getD_eq_getElem?_getD,List.getElem?_eq_getElem hj];rfl
 ·rw[List.getElem?_eq_none (by simpa using hj),List.getElem?_eq_none hj];rfl
noncomputable abbrev nwLB:Option Code:=lpB (aA 1 (qV (aA 2 (some (bR 10)))))
theorem nw_tail:aA 4 nwLB=none:=by kernel_rfl
theorem nw_ok:dL nwLB=true:=by kernel_rfl
def nwC(th st ga le re ti:Int)(P L np:Nat)(cp cl:Option Nat):List SV:=[.int .i64 th,.int .i64 st,.int .i64 ga,.int .i64 le,.int .i64 re,.int .i64 ti,.slice P 0 np cp,.slice L 0 np cl]
variable{P L CL np:Nat}{PL LL:List Int}{rows:List (Option rE)}{th st ga le re ti:Int}{cp cl cc:Option Nat}{n:Nat}{Q:Exit→Act→World→Prop}{b:mX}{ρ:bF}{a:Act}{w:World}
def nwK(N:Names)(CL k i:Nat)(cc:Option Nat):List (Nat×SV):=[(5,.ptr N.ns 0 0),(13,.slice CL 0 k cc),(14,.int .i64 k),(15,.int .i64 i)]
theorem new_round(A:Args h P L PL LL (some (CL,cc)) rows)(I:NwI h h1 own cO (nwC th st ga le re ti P L np cp cl) W N aL thr i)(h8:rows.length≤8)(h88:∀x,some x∈rows→x.n≤8){x:Option rE}(hx:rows[i]?=some x)(room:h1.n+20≤1000000)
 (s:St b 34 (nwK N CL rows.length i cc) h1 ρ a w)
 (hq:∀N' tps' thr' h2 eJ aW a' w',NwI h h2 own eJ (nwC th st ga le re ti P L np cp cl) W N' tps' thr' (i+1)→h2.n≤h1.n+20→St b 34 (nwK N' CL rows.length (i+1) cc) h2 aW a' w'→Q .normal a' w'):cB n Tryz.prog nwLB Q a w:=by
 have hi:=(List.getElem?_eq_some_iff.1 hx).1;obtain⟨gCL,lCL⟩:=A.cl _ rfl;have hold:∀m,m<h.n→h1.get m=h.get m:=fun m hm=>(I.old m hm).1
 have gCL1:h1.get CL=.cells 48 1 (rows.map crSV):=(hold _ lCL).trans gCL;have hh:=I.n;have lP:=A.p.2;have lL:=A.l.2;have AA:=I.ns.2.2;have lnm:=I.nm.2.2;have lf:∀j,aL.getD j N.ns<h1.n:=fun j=>by
  rw[List.getD_eq_getElem?_getD];cases hj:aL[j]?with
  |none=>exact AA
  |some t=>obtain⟨_,_,a⟩:=I.th j t hj;exact a.2.2
 have okns:okK h1 N.ns=true:=zY (fun m hm e=>by rw[I.R]at hm;have:=A.R m hm;have:=I.lo;omega) (by rw[I.C];exact A.C);have hnn:(h1.lay 13 []).n=h1.n+13:=rfl;have tl:aL.length≤8:=by have:=I.len;omega
 have c1:decide ((i:Int)<rows.length)=true:=decide_eq_true (by omega);have c2:decide ((0:Int)≤i)=true:=decide_eq_true (by omega);have c3:Nat.beq (aE 0 (Int.toNat (i:Int))) i=true:=by rw[aY];simp
 have c4:fits ((i:Int)+1)=true:=aN (by omega);have spot:∀(T r:Nat) (v:SV),v.ren (nm (kN N CL T r P L fun j=>aL.getD j N.ns))=crSV x→((.spot 48 1 i [v]:SO)≠.dead→live h1 CL)∧∀(ρ:bF) (p:Pl) (w:World),OR ρ p w (h1.get CL)→OR (ρ.via (nm (kN N CL T r P L fun j=>aL.getD j N.ns))) p w (.spot 48 1 i [v]):=fun T r v hv=>jF gCL1 (by simp;omega) (by simp) fun j u hu=>by
  cases j with
  |zero=>
   simp only[List.getElem?_cons_zero,Option.some.injEq]at hu;subst hu;rw[hv,Nat.mul_one,Nat.add_zero,List.getElem?_map,hx];rfl
  |succ j=>simp at hu
 have dd:∀{m j:Nat} {r:Nat→Nat} {R:List Nat},R.contains j=true→jI h1 r R j m .dead:=fun hc=>bE hc aZ
 have nsCL:N.ns≠CL:=fun e=>by have:=I.lo;omega
 have fin:∀{a':Act} {w':World},Q .normal a' w'→goX n Tryz.prog (aA 4 nwLB) Q .normal a' w':=fun h=>by
  show cB n Tryz.prog (aA 4 nwLB) Q _ _;rw[nw_tail];exact h
 rcases Nat.eq_zero_or_pos i with AQ|AQ
 ·subst AQ
  have AQ:(0:Nat)=0:=rfl;cases x with
  |none=>
   have ft:Fit h1 (aT [yJ th st ga le re ti np cp cl (aC),.spot 48 1 0 [aC],.dead,.dead,.dead,.dead,.dead,.dead,.dead,.dead,.dead,.dead,.dead,.dead,.dead] [1,2,3,4,5,6,7,8,9,10,11,12,13,14]) (nm (kN N CL N.ns N.ns P L fun j=>aL.getD j N.ns)):=aX (R:=[1,2,3,4,5,6,7,8,9,10,11,12,13,14]) (ns:=(kN N CL N.ns N.ns P L fun j=>aL.getD j N.ns)) (os:=[yJ th st ga le re ti np cp cl (aC),.spot 48 1 0 [aC],.dead,.dead,.dead,.dead,.dead,.dead,.dead,.dead,.dead,.dead,.dead,.dead,.dead]) ⟨AA,rZ rfl okns (by rw[I.ns.1,I.thr0 AQ];rfl) rfl,(by omega),bE rfl (spot _ _ _ rfl),AA,dd rfl,AA,dd rfl,(by omega),dd rfl,(by omega),dd rfl,lnm,dd rfl,lf 0,dd rfl,lf 1,dd rfl,lf 2,dd rfl,lf 3,dd rfl,lf 4,dd rfl,lf 5,dd rfl,lf 6,dd rfl,lf 7,dd rfl,trivial⟩ (by simp[kN,aQ,SO.lives,yJ,nsCL]) (by simp) (by omega);refine bO (K:=3) (ns:=(kN N CL N.ns N.ns P L fun j=>aL.getD j N.ns)) bW (aH _) (nwr_an th st ga le re ti np rows.length 0 0 cp cl cc none [] []) (aU c1 (aU c2 (aU c1 (aU c3 (aU c4 (trivial)))))) ft (by kernel_rfl) (by kernel_rfl) (by kernel_rfl) (by simp) (by omega) nw_ok s (fun _ hp=>hp) fun aW a' w' s'=>fin ?_
   obtain⟨eJ,g1,g2⟩:=gX (nn:=18) (K:=3) (ls:=[0,17,15]) (os:=[yJ th st ga le re ti np cp cl (.slice 17 0 1 none),.cells 69 1 [.ptr 15 0 0],kK (aC) 0 0 0 (.val .nilIface)]) (tgs:=[0,3,tg 0 0]) ft (by kernel_rfl) (by kernel_rfl) (by simp) (by omega) rfl rfl cO;have a1:=g1 1 17 _ 3 rfl rfl rfl;have a2:=g1 2 15 _ (tg 0 0) rfl rfl rfl;have et:aL=[]:=List.length_eq_zero_iff.1 (I.len.trans AQ);refine hq {N with nt:=h1.n+2} (aL++[h1.n+0]) _ _ eJ aW a' w' (I.step (T:=h1.n+2) (t:=h1.n+0) (g1 0 0 _ 0 rfl rfl rfl) ⟨a1.1.trans (by rw[et];rfl),a1.2⟩ a2 (.inl rfl) (fun m hm h0 h3=>g2 m hm fun l hl cK=>?_) (by show h1.n≤h1.n+3;omega) (cQ _ _) (cY _ _) (by omega)) (by show h1.n+3≤_;omega) s';simp only[List.mem_cons,List.not_mem_nil,or_false]at hl;rcases hl with rfl|rfl|rfl
   ·exact fun e=>h0 e.symm
   ·simp at cK
   ·simp at cK
  |some y=>
   have hm:some y∈rows:=List.mem_of_getElem? hx;obtain⟨gr,lr,hy⟩:=A.row y hm;have hy8:=h88 y hm;have gr1:h1.get y.r=.cells 37 3 (mD y.cl):=(hold _ lr).trans gr;have d1:Nat.ble (bG (aE 0 y.n) 3) (mD y.cl).length=true:=Nat.ble_eq_true_of_le (by rw[bT,aY,uX];omega);have d2:Nat.ble (0+y.n) 1000000000=true:=Nat.ble_eq_true_of_le (by omega);have nsr:N.ns≠y.r:=fun e=>by have:=I.lo;omega
   have CLr:CL≠y.r:=fun e=>by rw[e,gr1]at gCL1;simp at gCL1
   have ft:Fit h1 (aT [yJ th st ga le re ti np cp cl (aC),.spot 48 1 0 [.slice 3 0 y.n y.c],.dead,.cells 37 3 (mD y.cl),.dead,.dead,.dead,.dead,.dead,.dead,.dead,.dead,.dead,.dead,.dead] [1,2,3,4,5,6,7,8,9,10,11,12,13,14]) (nm (kN N CL N.ns y.r P L fun j=>aL.getD j N.ns)):=aX (R:=[1,2,3,4,5,6,7,8,9,10,11,12,13,14]) (ns:=(kN N CL N.ns y.r P L fun j=>aL.getD j N.ns)) (os:=[yJ th st ga le re ti np cp cl (aC),.spot 48 1 0 [.slice 3 0 y.n y.c],.dead,.cells 37 3 (mD y.cl),.dead,.dead,.dead,.dead,.dead,.dead,.dead,.dead,.dead,.dead,.dead]) ⟨AA,rZ rfl okns (by rw[I.ns.1,I.thr0 AQ];rfl) rfl,(by omega),bE rfl (spot _ _ _ rfl),AA,dd rfl,(by omega),bE rfl (jM (by rw[gr1];show _=SO.cells 37 3 (SV.rens _ (mD y.cl));rw[vE]) rfl),(by omega),dd rfl,(by omega),dd rfl,lnm,dd rfl,lf 0,dd rfl,lf 1,dd rfl,lf 2,dd rfl,lf 3,dd rfl,lf 4,dd rfl,lf 5,dd rfl,lf 6,dd rfl,lf 7,dd rfl,trivial⟩ (by simp[kN,aQ,SO.lives,yJ,nsCL,nsr,CLr]) (by simp) (by omega);refine bO (K:=5) (ns:=(kN N CL N.ns y.r P L fun j=>aL.getD j N.ns)) bW (aH _) (nwr_as th st ga le re ti np rows.length y.n 0 cp cl cc y.c [] (mD y.cl)) (aU c1 (aU c2 (aU c1 (aU c3 (aU d1 (aU d2 (aU c4 (trivial)))))))) ft (by kernel_rfl) (by kernel_rfl) (by kernel_rfl) (by simp) (by omega) nw_ok s (fun _ hp=>hp) fun aW a' w' s'=>fin ?_
   obtain⟨eJ,g1,g2⟩:=gX (nn:=20) (K:=5) (ls:=[0,19,17,16]) (os:=[yJ th st ga le re ti np cp cl (.slice 19 0 1 none),.cells 69 1 [.ptr 17 0 0],kK (.slice 16 0 (0+y.n) none) 0 0 0 (.val .nilIface),.cells 37 3 ([]++List.take (bG y.n 3) (mD y.cl))]) (tgs:=[0,3,tg 0 0,tg 0 990]) ft (by kernel_rfl) (by kernel_rfl) (by simp) (by omega) rfl rfl cO;have a1:=g1 1 19 _ 3 rfl rfl rfl;have a2:=g1 2 17 _ (tg 0 0) rfl rfl rfl;have a4:=g1 3 16 _ (tg 0 990) rfl rfl rfl;have e4:SV.rens (nx h1.n 15 [] (kN N CL N.ns y.r P L fun j=>aL.getD j N.ns)) ([]++List.take (bG y.n 3) (mD y.cl))=mD (y.cl.take y.n):=by rw[List.nil_append,bT,zZ,vE]
   have et:aL=[]:=List.length_eq_zero_iff.1 (I.len.trans AQ);refine hq {N with nt:=h1.n+4} (aL++[h1.n+2]) _ _ eJ aW a' w' (I.step (T:=h1.n+4) (t:=h1.n+2) (g1 0 0 _ 0 rfl rfl rfl) ⟨a1.1.trans (by rw[et];rfl),a1.2⟩ a2 (.inr ⟨h1.n+1,0,0+y.n,none,y.cl.take y.n,rfl,⟨a4.1.trans (congrArg (SO.cells 37 3) e4),a4.2⟩,by rw[List.length_take];omega⟩) (fun m hm h0 h3=>g2 m hm fun l hl cK=>?_) (by show h1.n≤h1.n+5;omega) (cQ _ _) (cY _ _) (by omega)) (by show h1.n+5≤_;omega) s';simp only[List.mem_cons,List.not_mem_nil,or_false]at hl;rcases hl with rfl|rfl|rfl|rfl
   ·exact fun e=>h0 e.symm
   ·simp at cK
   ·simp at cK
   ·simp at cK
 ·
  have AQ:i≠0:=by omega
  have lnt:=(I.thr1 AQ).2.1.2.2;have ntlo:=(I.thr1 AQ).2.2;have oknt:okK h1 N.nt=true:=zY (fun m hm e=>by rw[I.R]at hm;have:=A.R m hm;omega) (by rw[I.C];exact A.C);have nsnt:N.ns≠N.nt:=fun e=>by have h1:=I.ns.2.1;have h2:=(I.thr1 AQ).2.1.2.1;rw[e]at h1;omega
  have CLnt:CL≠N.nt:=fun e=>by omega
  have d3:Nat.ble (bG (aE 0 i) 1) (AP i).length=true:=Nat.ble_eq_true_of_le (by rw[bT,aY];simp[AP]);have d4:Nat.ble (i+1) 1000000000=true:=Nat.ble_eq_true_of_le (by omega);have hT0:∀{T r:Nat},SV.rens (nm (kN N CL T r P L fun j=>aL.getD j N.ns)) (AP i)=aL.map fun t=>.ptr t 0 0:=fun{T r}=>by
   have:=nwT_ren (aL:=aL) (r:=nm (kN N CL T r P L fun j=>aL.getD j N.ns)) (d:=N.ns) (fun j hj=>nwNs_f hj) tl
   rwa [I.len]at this
  have hT1:∀{T r:Nat},SV.rens (nx h1.n 15 [] (kN N CL T r P L fun j=>aL.getD j N.ns)) (AP i)=aL.map fun t=>.ptr t 0 0:=fun{T r}=>by
   have:=nwT_ren (aL:=aL) (r:=nx h1.n 15 [] (kN N CL T r P L fun j=>aL.getD j N.ns)) (d:=N.ns) (fun j hj=>by
    show(if 7+j<15 then _ else _)=_;rw[if_pos (by omega)];exact nwNs_f hj) tl
   rwa [I.len]at this
  cases x with
  |none=>
   have ft:Fit h1 (aT [yJ th st ga le re ti np cp cl (.slice 2 0 i none),.spot 48 1 i [aC],.cells 69 1 (AP i),.dead,.dead,.dead,.dead,.dead,.dead,.dead,.dead,.dead,.dead,.dead,.dead] [1,3,4,5,6,7,8,9,10,11,12,13,14]) (nm (kN N CL N.nt N.ns P L fun j=>aL.getD j N.ns)):=aX (R:=[1,3,4,5,6,7,8,9,10,11,12,13,14]) (ns:=(kN N CL N.nt N.ns P L fun j=>aL.getD j N.ns)) (os:=[yJ th st ga le re ti np cp cl (.slice 2 0 i none),.spot 48 1 i [aC],.cells 69 1 (AP i),.dead,.dead,.dead,.dead,.dead,.dead,.dead,.dead,.dead,.dead,.dead,.dead]) ⟨AA,rZ rfl okns (by rw[I.ns.1,(I.thr1 AQ).1];rfl) rfl,(by omega),bE rfl (spot _ _ _ rfl),lnt,rZ rfl oknt (by rw[(I.thr1 AQ).2.1.1];show _=SO.cells 69 1 (SV.rens _ (AP i));rw[hT0]) rfl,AA,dd rfl,(by omega),dd rfl,(by omega),dd rfl,lnm,dd rfl,lf 0,dd rfl,lf 1,dd rfl,lf 2,dd rfl,lf 3,dd rfl,lf 4,dd rfl,lf 5,dd rfl,lf 6,dd rfl,lf 7,dd rfl,trivial⟩ (by simp[kN,aQ,SO.lives,yJ,nsCL,nsnt,CLnt]) (by simp) (by omega);refine bO (K:=3) (ns:=(kN N CL N.nt N.ns P L fun j=>aL.getD j N.ns)) bW (aH _) (nwr_bn th st ga le re ti np rows.length 0 i cp cl cc none (AP i) []) (aU c1 (aU c2 (aU c1 (aU c3 (aU d3 (aU d4 (aU c4 (trivial)))))))) ft (by kernel_rfl) (by kernel_rfl) (by kernel_rfl) (by simp) (by omega) nw_ok s (fun _ hp=>hp) fun aW a' w' s'=>fin ?_
   obtain⟨eJ,g1,g2⟩:=gX (nn:=18) (K:=3) (ls:=[0,2,17,15]) (os:=[yJ th st ga le re ti np cp cl (.slice 17 0 (i+1) none),.dead,.cells 69 1 ((AP i).take (bG i 1)++[.ptr 15 0 0]),kK (aC) 0 0 0 (.val .nilIface)]) (tgs:=[0,99,3,tg i 0]) ft (by kernel_rfl) (by kernel_rfl) (by simp) (by omega) rfl rfl cO;have a1:=g1 2 17 _ 3 rfl rfl rfl;have a2:=g1 3 15 _ (tg i 0) rfl rfl rfl;have e1:SV.rens (nx h1.n 15 [] (kN N CL N.nt N.ns P L fun j=>aL.getD j N.ns)) ((AP i).take (bG i 1)++[.ptr 15 0 0])=(aL++[h1.n+0]).map fun t=>.ptr t 0 0:=by
    have hlen:(AP i).length=i:=by simp[AP]
    rw[SV.rens_append,bT,List.take_of_length_le (by rw[hlen];omega),hT1,List.map_append];rfl
   refine hq {N with nt:=h1.n+2} (aL++[h1.n+0]) _ _ eJ aW a' w' (I.step (T:=h1.n+2) (t:=h1.n+0) (g1 0 0 _ 0 rfl rfl rfl) ⟨a1.1.trans (congrArg (SO.cells 69 1) e1),a1.2⟩ a2 (.inl rfl) (fun m hm h0 h3=>g2 m hm fun l hl cK=>?_) (by show h1.n≤h1.n+3;omega) (cQ _ _) (cY _ _) (by omega)) (by show h1.n+3≤_;omega) s';simp only[List.mem_cons,List.not_mem_nil,or_false]at hl;rcases hl with rfl|rfl|rfl|rfl
   ·exact fun e=>h0 e.symm
   ·exact fun e=>h3 AQ e.symm
   ·simp at cK
   ·simp at cK
  |some y=>
   have hm:some y∈rows:=List.mem_of_getElem? hx;obtain⟨gr,lr,hy⟩:=A.row y hm;have hy8:=h88 y hm;have gr1:h1.get y.r=.cells 37 3 (mD y.cl):=(hold _ lr).trans gr;have d1:Nat.ble (bG (aE 0 y.n) 3) (mD y.cl).length=true:=Nat.ble_eq_true_of_le (by rw[bT,aY,uX];omega);have d2:Nat.ble (0+y.n) 1000000000=true:=Nat.ble_eq_true_of_le (by omega);have nsr:N.ns≠y.r:=fun e=>by have:=I.lo;omega
   have CLr:CL≠y.r:=fun e=>by rw[e,gr1]at gCL1;simp at gCL1
   have ntr:N.nt≠y.r:=fun e=>by omega
   have ft:Fit h1 (aT [yJ th st ga le re ti np cp cl (.slice 2 0 i none),.spot 48 1 i [.slice 3 0 y.n y.c],.cells 69 1 (AP i),.cells 37 3 (mD y.cl),.dead,.dead,.dead,.dead,.dead,.dead,.dead,.dead,.dead,.dead,.dead] [1,3,4,5,6,7,8,9,10,11,12,13,14]) (nm (kN N CL N.nt y.r P L fun j=>aL.getD j N.ns)):=aX (R:=[1,3,4,5,6,7,8,9,10,11,12,13,14]) (ns:=(kN N CL N.nt y.r P L fun j=>aL.getD j N.ns)) (os:=[yJ th st ga le re ti np cp cl (.slice 2 0 i none),.spot 48 1 i [.slice 3 0 y.n y.c],.cells 69 1 (AP i),.cells 37 3 (mD y.cl),.dead,.dead,.dead,.dead,.dead,.dead,.dead,.dead,.dead,.dead,.dead]) ⟨AA,rZ rfl okns (by rw[I.ns.1,(I.thr1 AQ).1];rfl) rfl,(by omega),bE rfl (spot _ _ _ rfl),lnt,rZ rfl oknt (by rw[(I.thr1 AQ).2.1.1];show _=SO.cells 69 1 (SV.rens _ (AP i));rw[hT0]) rfl,(by omega),bE rfl (jM (by rw[gr1];show _=SO.cells 37 3 (SV.rens _ (mD y.cl));rw[vE]) rfl),(by omega),dd rfl,(by omega),dd rfl,lnm,dd rfl,lf 0,dd rfl,lf 1,dd rfl,lf 2,dd rfl,lf 3,dd rfl,lf 4,dd rfl,lf 5,dd rfl,lf 6,dd rfl,lf 7,dd rfl,trivial⟩ (by simp[kN,aQ,SO.lives,yJ,nsCL,nsr,CLr,nsnt,CLnt,ntr]) (by simp) (by omega);refine bO (K:=5) (ns:=(kN N CL N.nt y.r P L fun j=>aL.getD j N.ns)) bW (aH _) (nwr_bs th st ga le re ti np rows.length y.n i cp cl cc y.c (AP i) (mD y.cl)) (aU c1 (aU c2 (aU c1 (aU c3 (aU d1 (aU d2 (aU d3 (aU d4 (aU c4 (trivial)))))))))) ft (by kernel_rfl) (by kernel_rfl) (by kernel_rfl) (by simp) (by omega) nw_ok s (fun _ hp=>hp) fun aW a' w' s'=>fin ?_
   obtain⟨eJ,g1,g2⟩:=gX (nn:=20) (K:=5) (ls:=[0,2,19,17,16]) (os:=[yJ th st ga le re ti np cp cl (.slice 19 0 (i+1) none),.dead,.cells 69 1 ((AP i).take (bG i 1)++[.ptr 17 0 0]),kK (.slice 16 0 (0+y.n) none) 0 0 0 (.val .nilIface),.cells 37 3 ([]++List.take (bG y.n 3) (mD y.cl))]) (tgs:=[0,99,3,tg i 0,tg i 990]) ft (by kernel_rfl) (by kernel_rfl) (by simp) (by omega) rfl rfl cO;have a1:=g1 2 19 _ 3 rfl rfl rfl;have a2:=g1 3 17 _ (tg i 0) rfl rfl rfl;have a4:=g1 4 16 _ (tg i 990) rfl rfl rfl;have e4:SV.rens (nx h1.n 15 [] (kN N CL N.nt y.r P L fun j=>aL.getD j N.ns)) ([]++List.take (bG y.n 3) (mD y.cl))=mD (y.cl.take y.n):=by rw[List.nil_append,bT,zZ,vE]
   have e1:SV.rens (nx h1.n 15 [] (kN N CL N.nt y.r P L fun j=>aL.getD j N.ns)) ((AP i).take (bG i 1)++[.ptr 17 0 0])=(aL++[h1.n+2]).map fun t=>.ptr t 0 0:=by
    have hlen:(AP i).length=i:=by simp[AP]
    rw[SV.rens_append,bT,List.take_of_length_le (by rw[hlen];omega),hT1,List.map_append];rfl
   refine hq {N with nt:=h1.n+4} (aL++[h1.n+2]) _ _ eJ aW a' w' (I.step (T:=h1.n+4) (t:=h1.n+2) (g1 0 0 _ 0 rfl rfl rfl) ⟨a1.1.trans (congrArg (SO.cells 69 1) e1),a1.2⟩ a2 (.inr ⟨h1.n+1,0,0+y.n,none,y.cl.take y.n,rfl,⟨a4.1.trans (congrArg (SO.cells 37 3) e4),a4.2⟩,by rw[List.length_take];omega⟩) (fun m hm h0 h3=>g2 m hm fun l hl cK=>?_) (by show h1.n≤h1.n+5;omega) (cQ _ _) (cY _ _) (by omega)) (by show h1.n+5≤_;omega) s';simp only[List.mem_cons,List.not_mem_nil,or_false]at hl;rcases hl with rfl|rfl|rfl|rfl|rfl
   ·exact fun e=>h0 e.symm
   ·exact fun e=>h3 AQ e.symm
   ·simp at cK
   ·simp at cK
   ·simp at cK
end
end Go.Proofs.YtnkcbfgfkadoaaaGreat.Sx
