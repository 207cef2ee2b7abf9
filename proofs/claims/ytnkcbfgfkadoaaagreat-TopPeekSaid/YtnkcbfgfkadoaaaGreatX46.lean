/- Part 46 of the proof of TopPeek. -/
import Derived.Deep.Slices
import Derived.ProofKit
import Derived.Test.YtnkcbfgfkadoaaaGreatRows
import Derived.Test.YtnkcbfgfkadoaaaGreatX34
import Derived.Test.YtnkcbfgfkadoaaaGreatX45
set_option linter.all false
namespace Go.Proofs.YtnkcbfgfkadoaaaGreat.Sx
open Go
set_option maxRecDepth 10000
theorem tp_okLO:dL wI=true:=by kernel_rfl
theorem tp_okLO2:dL (aA 2 wI)=true:=by kernel_rfl
theorem oF:dL iZ=true:=by kernel_rfl
theorem tp_okB12:dL (aA 2 iZ)=true:=by kernel_rfl
theorem tp_okB14:dL (aA 4 iZ)=true:=by kernel_rfl
theorem tp_okI3:dL tpI3=true:=by kernel_rfl
theorem tp_lp0:zV (aA 1 tpI5)=some 0:=by kernel_rfl
theorem tp_bk1:bkId (aA 1 wI)=some 1:=by kernel_rfl
theorem tp_noI5:aA 1 (aA 1 tpI5)=none:=by kernel_rfl
theorem tp_tLO:aA 1 (aA 1 wI)=aA 2 wI:=by kernel_rfl
theorem tp_noLO:aA 1 (aA 2 wI)=none:=by kernel_rfl
theorem tp_tB2:aA 1 (aA 1 iZ)=aA 2 iZ:=by kernel_rfl
theorem tp_tB3:aA 1 (aA 2 iZ)=aA 3 iZ:=by kernel_rfl
theorem tp_tB4:aA 1 (aA 3 iZ)=aA 4 iZ:=by kernel_rfl
theorem tp_noB1:aA 2 (aA 4 iZ)=none:=by kernel_rfl
theorem tp21':∀x:Nat→SV,follow [] ((bB Tryz.prog (runK Tryz.prog S0 20) true #[] 0 0 2 (aA 4 iZ) (cJ 142 [(10,.bool true)] x) (aT [] [])).bind (cM [] [3,4,5,6,7,8] [] []))=some ([],(142,.normal,[],[],[3,4,5,6,7,8].map x,0,[])):=by intro x;kernel_rfl
theorem tp_is3:isX (aA 3 iZ)=true:=by kernel_rfl
theorem tp_rg10:rgB (aA 1 iZ)=some 4:=by kernel_rfl
theorem vH:(dX (aA 1 iZ)).toList.all (fun o=>dR o.op)=true:=by kernel_rfl
theorem tp_a0:((dX (aA 1 iZ)).toList[0]?).bind mvO=some (5,some 75):=by kernel_rfl
theorem tp_a1:((dX (aA 1 iZ)).toList[1]?).bind mvO=some (8,some 76):=by kernel_rfl
theorem tp_a2:((dX (aA 1 iZ)).toList[2]?).bind rY=some (8,[.tmp 75,.tmp 76],some 77):=by kernel_rfl
theorem tp_a3:((dX (aA 1 iZ)).toList[3]?).bind mvO=some (77,some 9):=by kernel_rfl
theorem wK{n:Nat}{P:Program}{id:Nat}{d:Option Code}{Q:Exit→Act→World→Prop}{a:Act}{w:World}:inBk n P id d Q (.exit id) a w=cB n P d Q a w:=by simp[inBk]
set_option maxHeartbeats 2000000 in
theorem tp_out{hh:H}{th st ga le re ti:Int}{P:Nat}{PL:List Int}{cp:Option Nat}{u:Value}{aP:List (Nat×List Int)}{aD:List Ev}{V1 V2:SV}{n:Nat}{Q:Exit→Act→World→Prop}{bs:mX}
 (rg:AH th st ga le re ti PL)(f:tE (tX th st ga le re ti P PL cp u) aP aD)(hw:∀(j n:Nat) (W:List Int),aP[j]?=some (n,W)→n≤aD.length∧hU (tX th st ga le re ti P PL cp u) W)
 (out:OutOK hh st PL.length aP V1)(ev:EvOK hh aD V2)(hE:aD.length≤2000)(hH:aP.length≤1000)(h6:hh.n≤1000000)
 {ρ:bF}{a:Act}{w:World}(s:St bs 142 [(3,.bool true),(4,V1),(5,V2),(6,.bool true),(7,.int .i64 (qZ ga st.toNat)),(8,.int .i64 (0:Nat))] hh ρ a w)
 (hq:∀aW a' w',St bs 142 [(3,.bool true),(6,.bool true)] hh aW a' w'→Q .normal a' w'):cB n Tryz.prog (aA 1 tpI5) Q a w:=by
 have qO:Fit hh (aT [] []) (nm []):=aX (R:=[]) (os:=[]) (ns:=[]) trivial (by simp[aQ]) (by simp) h6;generalize emost:qZ ga st.toNat=cT at*;refine vB tp_lp0 (fun m a w'=>∃(k:Nat) (aW:bF),m=aD.length-k∧k≤aD.length∧St bs 142 [(3,.bool true),(4,V1),(5,V2),(6,.bool true),(7,.int .i64 cT),(8,.int .i64 (k:Nat))] hh aW a w') (k:=aD.length) ⟨0,ρ,by omega,by omega,s⟩ ?_;rintro m a1 w1 ⟨k,dQ,rfl,hk,s1⟩;rcases ev with⟨e0,eV⟩|⟨_,e,rfl,ge,le⟩
 ·subst e0;subst eV
  have z:k=0:=by simpa using hk
  subst z;refine bD (K:=0) (ns:=[]) bW (aH _) tp7_2 trivial qO rfl rfl rfl (by simp) (by omega) tp_okLO s1 (fun q hq=>by
   have e1:cU (nm []) [(5,aC),(8,SV.int .i64 0)]=[(5,aC),(8,.int .i64 0)]:=rfl;rw[e1]at hq;simp only[List.mem_cons,List.not_mem_nil,or_false]at hq;rcases hq with rfl|rfl
   ·simp
   ·exact .tail _ (.tail _ (.tail _ (.tail _ (.tail _ (.head _)))))) fun iJ a2 w2 s2=>?_
  rw[pO,tT,tp_noI5];exact hq iJ a2 w2 s2
 have ftE:Fit hh (aT [.dead] [0]) (nm [e]):=aX (R:=[0]) (os:=[.dead]) (ns:=[e]) ⟨le,bE rfl aZ,trivial⟩ (by simp[aQ,SO.lives]) (by simp) h6;have kn7:∀q∈cU (nm [e]) [(5,SV.slice 0 0 aD.length none),(8,.int .i64 k)],q∈[(3,SV.bool true),(4,V1),(5,.slice e 0 aD.length none),(6,.bool true),(7,.int .i64 cT),(8,.int .i64 (k:Nat))]:=fun q hq=>by
  have e1:cU (nm [e]) [(5,SV.slice 0 0 aD.length none),(8,.int .i64 (k:Int))]=[(5,.slice e 0 aD.length none),(8,.int .i64 (k:Int))]:=rfl;rw[e1]at hq;simp only[List.mem_cons,List.not_mem_nil,or_false]at hq;rcases hq with rfl|rfl<;>simp
 rcases Nat.lt_or_ge k aD.length with cK|wQ
 ·obtain⟨v,hv⟩:∃v,aD[k]?=some v:=⟨_,List.getElem?_eq_getElem cK⟩
  refine bD (K:=0) (ns:=[e]) bW (aH _) (tp7_0 aD.length k) (aU (decide_eq_true (by omega)) trivial) ftE rfl rfl rfl (by simp) (by omega) tp_okLO s1 kn7 fun iJ a2 w2 s2=>?_
  have s2:St bs 142 [(5,.slice e 0 aD.length none),(8,.int .i64 k),(3,.bool true),(4,V1),(6,.bool true),(7,.int .i64 cT)] hh iJ a2 w2:=s2;rw[fE];refine go_bk tp_bk1 ?_;have fin:∀(gV:bF) (a3:Act) (w3:World),St bs 142 [(5,.slice e 0 aD.length none),(8,.int .i64 k),(3,.bool true),(4,V1),(6,.bool true),(7,.int .i64 cT)] hh gV a3 w3→
   cB n Tryz.prog (aA 1 (aA 1 wI)) (rA n Tryz.prog (fun m a w'=>∃(k:Nat) (aW:bF),m=aD.length-k∧k≤aD.length∧St bs 142 [(3,.bool true),(4,V1),(5,.slice e 0 aD.length none),(6,.bool true),(7,.int .i64 cT),(8,.int .i64 (k:Nat))] hh aW a w') (aD.length-k) 0 (aA 1 (aA 1 tpI5)) Q) a3 w3:=fun gV a3 w3 s3=>by
   rw[tp_tLO];refine bD (K:=0) (ns:=[]) bW (aH _) (tp8 (k:Int)) trivial qO rfl rfl rfl (by simp) (by omega) tp_okLO2 s3 (fun q hq=>by
    have e1:cU (nm []) [(8,SV.int .i64 (k:Int))]=[(8,.int .i64 (k:Int))]:=rfl;rw[e1]at hq;simp only[List.mem_cons,List.not_mem_nil,or_false]at hq;subst hq;simp) fun mE a4 w4 s4=>?_
   rw[fE,tp_noLO];have s4:St bs 142 [(8,.int .i64 (IntKind.wrap .i64 ((k:Int)+1))),(5,.slice e 0 aD.length none),(3,.bool true),(4,V1),(6,.bool true),(7,.int .i64 cT)] hh mE a4 w4:=s4;rw[w64 (by omega)]at s4;refine⟨aD.length-(k+1),by omega,k+1,mE,rfl,by omega,s4.sub fun q hq=>?_⟩;simp only[List.mem_cons,List.not_mem_nil,or_false]at hq;rcases hq with rfl|rfl|rfl|rfl|rfl|rfl
   ·simp
   ·simp
   ·simp
   ·simp
   ·simp
   ·exact .head _
  have ft9:Fit hh (aT [.spot 42 10 k [.int .i64 v.at_,.int .i64 v.th,.int .i64 v.kind,.int .i64 v.k1,.int .i64 v.k2,.int .i64 v.k3,.int .i64 v.a1,.int .i64 v.a2,.bool v.a3,.int .i64 v.a4]] [0]) (nm [e]):=aX (R:=[0]) (os:=[.spot 42 10 k [.int .i64 v.at_,.int .i64 v.th,.int .i64 v.kind,.int .i64 v.k1,.int .i64 v.k2,.int .i64 v.k3,.int .i64 v.a1,.int .i64 v.a2,.bool v.a3,.int .i64 v.a4]]) (ns:=[e]) ⟨le,bE rfl (evs_spot ge hv),trivial⟩ (by simp[aQ,SO.lives]) (by simp) h6;have kn9:∀q∈cU (nm [e]) [(5,SV.slice 0 0 aD.length none),(8,.int .i64 k)],q∈[(5,SV.slice e 0 aD.length none),(8,.int .i64 k),(3,.bool true),(4,V1),(6,.bool true),(7,.int .i64 cT)]:=fun q hq=>by
   have e1:cU (nm [e]) [(5,SV.slice 0 0 aD.length none),(8,.int .i64 (k:Int))]=[(5,.slice e 0 aD.length none),(8,.int .i64 (k:Int))]:=rfl;rw[e1]at hq;simp only[List.mem_cons,List.not_mem_nil,or_false]at hq;rcases hq with rfl|rfl<;>simp
  have k1:decide (0≤(k:Int))=true:=decide_eq_true (by omega);have k2:decide ((k:Int)<(aD.length:Int))=true:=decide_eq_true (by omega);have k3:Nat.beq (aE 0 (Int.toNat (k:Int))) k=true:=by rw[aY];simp
  have ne_t:∀{x y:Int},x≠y→(x !=y)=true:=fun h=>by simp[h]
  have sD:∀{x y:Int},x=y→(x !=y)=false:=fun h=>by simp[h]
  have main:∀(gV:bF) (a3:Act) (w3:World),v.kind=2→(v.k1=5∨v.k1=6)→v.a1=0→v.a3=false→St bs 142 [(5,.slice e 0 aD.length none),(8,.int .i64 k),(3,.bool true),(4,V1),(6,.bool true),(7,.int .i64 cT)] hh gV a3 w3→
   cB n Tryz.prog (aA 1 iZ) (inBk n Tryz.prog 1 (aA 1 (aA 1 wI)) (rA n Tryz.prog (fun m a w'=>∃(k:Nat) (aW:bF),m=aD.length-k∧k≤aD.length∧St bs 142 [(3,.bool true),(4,V1),(5,.slice e 0 aD.length none),(6,.bool true),(7,.int .i64 cT),(8,.int .i64 (k:Nat))] hh aW a w') (aD.length-k) 0 (aA 1 (aA 1 tpI5)) Q)) a3 w3:=fun gV a3 w3 q1 q2 q3 q4 s3=>by
   obtain⟨no,any⟩:=hit_any rg f hw hv q1 q2 q3 q4;refine jU (d:=aA 1 iZ) tp_rg10 ?_;refine lN (m:=3) bW vH tp_a0 (v:=.slice e 0 aD.length none) rfl (by simp) s3 fun a4 s4=>?_
   refine lN (m:=2) bW vH tp_a1 (v:=.int .i64 (k:Int)) rfl (by simp) s4 fun a5 s5=>?_
   have s5:St bs 142 [(76,.int .i64 (k:Int)),(75,.slice e 0 aD.length none),(5,.slice e 0 aD.length none),(8,.int .i64 k),(3,.bool true),(4,V1),(6,.bool true),(7,.int .i64 cT)] hh gV a5 w3:=s5;refine jV (m:=1) vH tp_a2 rfl (by simp) (begin_spec ge le cK (by omega) h6) s5 fun v' h' ρ6 a6 w6 yB s6=>?_
   obtain⟨eh,b,rfl,hb,hbk⟩:=yB;rw[eh]at s6;have s6:St bs 142 [(77,.int .i64 (b:Int)),(76,.int .i64 (k:Int)),(75,.slice e 0 aD.length none),(5,.slice e 0 aD.length none),(8,.int .i64 k),(3,.bool true),(4,V1),(6,.bool true),(7,.int .i64 cT)] hh ρ6 a6 w6:=s6;refine lN (m:=0) bW vH tp_a3 (v:=.int .i64 (b:Int)) rfl (by simp) s6 fun a7 s7=>?_
   show cB n Tryz.prog (aA 1 (aA 1 iZ)) _ a7 w6;rw[tp_tB2];refine bD (K:=0) (ns:=[]) bW (aH _) tp11 trivial qO rfl rfl rfl (by simp) (by omega) tp_okB12 s7 (fun q hq=>by cases hq) fun ρ8 a8 w8 s8=>?_
   have s8:St bs 142 [(10,.bool false),(9,.int .i64 (b:Int)),(5,.slice e 0 aD.length none),(8,.int .i64 k),(3,.bool true),(4,V1),(6,.bool true),(7,.int .i64 cT)] hh ρ8 a8 w8:=s8;rw[fE,tp_tB3];refine tF tp_is3 ?_;refine bD (K:=0) (ns:=[]) bW (aH _) tp12 trivial qO rfl rfl rfl (by simp) (by omega) tp_okI3 s8 (fun q hq=>by cases hq) fun yK a9 w9 s9=>?_
   have s9:St bs 142 [(11,.int .i64 (0:Nat)),(10,.bool false),(9,.int .i64 (b:Int)),(5,.slice e 0 aD.length none),(8,.int .i64 k),(3,.bool true),(4,V1),(6,.bool true),(7,.int .i64 cT)] hh yK a9 w9:=s9;rw[fE];rw[emost]at any;refine tp_in ge le h6 out hv hE hH no (any b hb) (s9.sub fun q hq=>?_) fun ρ10 a10 w10 s10=>?_
   ·simp only[List.mem_cons,List.not_mem_nil,or_false]at hq
    rcases hq with rfl|rfl|rfl|rfl|rfl|rfl|rfl|rfl|rfl
    ·simp
    ·simp
    ·simp
    ·simp
    ·simp
    ·simp
    ·simp
    ·simp
    ·exact .head _
   ·show cB n Tryz.prog (aA 1 (aA 3 iZ)) _ a10 w10
    rw[tp_tB4];refine bD (K:=0) (ns:=[]) bW (aH _) tp21' trivial qO rfl rfl rfl (by simp) (by omega) tp_okB14 s10 (fun q hq=>by
     have e1:cU (nm []) [(10,SV.bool true)]=[(10,.bool true)]:=rfl;rw[e1]at hq;simp only[List.mem_cons,List.not_mem_nil,or_false]at hq;subst hq;simp) fun ρ11 a11 w11 s11=>?_
    have s11:St bs 142 [(3,.bool true),(4,V1),(5,.slice e 0 aD.length none),(6,.bool true),(7,.int .i64 cT),(8,.int .i64 k)] hh ρ11 a11 w11:=s11;rw[fE,tp_noB1];exact fin ρ11 a11 w11 (s11.sub fun q hq=>by
     simp only[List.mem_cons,List.not_mem_nil,or_false]at hq;rcases hq with rfl|rfl|rfl|rfl|rfl|rfl<;>simp)
  by_cases c1:v.kind=2
  ·by_cases c2:v.k1=5
   ·by_cases c3:v.a1=0
    ·cases c4:v.a3 with
     |true=>
      refine bD (K:=0) (ns:=[e]) bW (aH _) (tp9_6 aD.length 0 0 0 k v.at_ v.th v.kind v.k1 v.k2 v.k3 v.a1 v.a2 v.a4 v.a3 true 0 0 0 0 0 []) (aU k1 (aU k2 (aU k3 (aU (sD c1) (aU k1 (aU k2 (aU k3 (aU (sD c2) (aU k1 (aU k2 (aU k3 (aU (sD c3) (aU k1 (aU k2 (aU k3 (aU c4 trivial)))))))))))))))) ft9 rfl rfl rfl (by simp) (by omega) oF s2 kn9 fun gV a3 w3 s3=>?_
      rw[pO,wK];exact fin gV a3 w3 s3
     |false=>
      refine bD (K:=0) (ns:=[e]) bW (aH _) (tp9_7 aD.length 0 0 0 k v.at_ v.th v.kind v.k1 v.k2 v.k3 v.a1 v.a2 v.a4 v.a3 true 0 0 0 0 0 []) (aU k1 (aU k2 (aU k3 (aU (sD c1) (aU k1 (aU k2 (aU k3 (aU (sD c2) (aU k1 (aU k2 (aU k3 (aU (sD c3) (aU k1 (aU k2 (aU k3 (aU c4 trivial)))))))))))))))) ft9 rfl rfl rfl (by simp) (by omega) oF s2 kn9 fun gV a3 w3 s3=>?_
      rw[fE];exact main gV a3 w3 c1 (.inl c2) c3 c4 s3
    ·refine bD (K:=0) (ns:=[e]) bW (aH _) (tp9_5 aD.length 0 0 0 k v.at_ v.th v.kind v.k1 v.k2 v.k3 v.a1 v.a2 v.a4 v.a3 true 0 0 0 0 0 []) (aU k1 (aU k2 (aU k3 (aU (sD c1) (aU k1 (aU k2 (aU k3 (aU (sD c2) (aU k1 (aU k2 (aU k3 (aU (ne_t c3) trivial)))))))))))) ft9 rfl rfl rfl (by simp) (by omega) oF s2 kn9 fun gV a3 w3 s3=>?_
     rw[pO,wK];exact fin gV a3 w3 s3
   ·by_cases c5:v.k1=6
    ·by_cases c3:v.a1=0
     ·cases c4:v.a3 with
      |true=>
       refine bD (K:=0) (ns:=[e]) bW (aH _) (tp9_3 aD.length 0 0 0 k v.at_ v.th v.kind v.k1 v.k2 v.k3 v.a1 v.a2 v.a4 v.a3 true 0 0 0 0 0 []) (aU k1 (aU k2 (aU k3 (aU (sD c1) (aU k1 (aU k2 (aU k3 (aU (ne_t c2) (aU k1 (aU k2 (aU k3 (aU (sD c5) (aU k1 (aU k2 (aU k3 (aU (sD c3) (aU k1 (aU k2 (aU k3 (aU c4 trivial)))))))))))))))))))) ft9 rfl rfl rfl (by simp) (by omega) oF s2 kn9 fun gV a3 w3 s3=>?_
       rw[pO,wK];exact fin gV a3 w3 s3
      |false=>
       refine bD (K:=0) (ns:=[e]) bW (aH _) (tp9_4 aD.length 0 0 0 k v.at_ v.th v.kind v.k1 v.k2 v.k3 v.a1 v.a2 v.a4 v.a3 true 0 0 0 0 0 []) (aU k1 (aU k2 (aU k3 (aU (sD c1) (aU k1 (aU k2 (aU k3 (aU (ne_t c2) (aU k1 (aU k2 (aU k3 (aU (sD c5) (aU k1 (aU k2 (aU k3 (aU (sD c3) (aU k1 (aU k2 (aU k3 (aU c4 trivial)))))))))))))))))))) ft9 rfl rfl rfl (by simp) (by omega) oF s2 kn9 fun gV a3 w3 s3=>?_
       rw[fE];exact main gV a3 w3 c1 (.inr c5) c3 c4 s3
     ·refine bD (K:=0) (ns:=[e]) bW (aH _) (tp9_2 aD.length 0 0 0 k v.at_ v.th v.kind v.k1 v.k2 v.k3 v.a1 v.a2 v.a4 v.a3 true 0 0 0 0 0 []) (aU k1 (aU k2 (aU k3 (aU (sD c1) (aU k1 (aU k2 (aU k3 (aU (ne_t c2) (aU k1 (aU k2 (aU k3 (aU (sD c5) (aU k1 (aU k2 (aU k3 (aU (ne_t c3) trivial)))))))))))))))) ft9 rfl rfl rfl (by simp) (by omega) oF s2 kn9 fun gV a3 w3 s3=>?_
      rw[pO,wK];exact fin gV a3 w3 s3
    ·refine bD (K:=0) (ns:=[e]) bW (aH _) (tp9_1 aD.length 0 0 0 k v.at_ v.th v.kind v.k1 v.k2 v.k3 v.a1 v.a2 v.a4 v.a3 true 0 0 0 0 0 []) (aU k1 (aU k2 (aU k3 (aU (sD c1) (aU k1 (aU k2 (aU k3 (aU (ne_t c2) (aU k1 (aU k2 (aU k3 (aU (ne_t c5) trivial)))))))))))) ft9 rfl rfl rfl (by simp) (by omega) oF s2 kn9 fun gV a3 w3 s3=>?_
     rw[pO,wK];exact fin gV a3 w3 s3
  ·refine bD (K:=0) (ns:=[e]) bW (aH _) (tp9_0 aD.length 0 0 0 k v.at_ v.th v.kind v.k1 v.k2 v.k3 v.a1 v.a2 v.a4 v.a3 true 0 0 0 0 0 []) (aU k1 (aU k2 (aU k3 (aU (ne_t c1) trivial)))) ft9 rfl rfl rfl (by simp) (by omega) oF s2 kn9 fun gV a3 w3 s3=>?_
   rw[pO,wK];exact fin gV a3 w3 s3
 ·refine bD (K:=0) (ns:=[e]) bW (aH _) (tp7_1 aD.length k) (aU (decide_eq_false (by omega)) trivial) ftE rfl rfl rfl (by simp) (by omega) tp_okLO s1 kn7 fun iJ a2 w2 s2=>?_
  rw[pO,tT,tp_noI5];exact hq iJ a2 w2 s2
section
variable{P:Program}{n:Nat}{Q:Exit→Act→World→Prop}{b:mX}{ρ:bF}{a:Act}{w:World}{N:Nat}{kn:List (Nat×SV)}{h:H}
def exO(o:Oper):Option (Nat×Nat×Option Nat):=match o with
 |{op:=.extract (.tmp x) j,dst:=dst,guard:=none, .. }=>some (x,j,dst)
 |_=>none
theorem go_ex{ops:Array Oper}{i m x j:Nat}{d:Option Code}{dst:Option Nat}{l:List SV}{v:SV}(X:wV P)(dS:ops.toList.all (fun o=>dR o.op)=true)(hc:(ops.toList[i]?).bind exO=some (x,j,dst))(hx:evK kn (.tmp x)=some (.tup l))(hj:l[j]?=some v)(lO:∀t,dst=some t→t<N)(s:St b N kn h ρ a w)
 (hq:∀a',St b N (xO dst v kn) h ρ a' w→GO n P ops (i+1) m d Q a' w):GO n P ops i (m+1) d Q a w:=by
 obtain⟨o,ho,lU⟩:=Option.bind_eq_some_iff.1 hc;unfold exO at lU;split at lU
 ·injection lU with e
  injection e with e1 e2;injection e2 with e2 e3;subst e1;subst e2;subst e3;exact go_ev (bY:=false) X dS ho trivial lO s (by simp only[ev,lV hx,hj];rfl) hq
 ·cases lU
end
theorem fn3_ok:fnOk 3 142 [2]=true:=by kernel_rfl
theorem tp_rg0:rgB jY=some 2:=by kernel_rfl
theorem tp_all0:(dX jY).toList.all (fun o=>dR o.op)=true:=by kernel_rfl
theorem tp_bx:((dX jY).toList[0]?).bind bxO=some (28,0,some 1,none):=by kernel_rfl
theorem tp_ok1:dL (aA 1 jY)=true:=by kernel_rfl
theorem tp_len0:Nat.beq (1+1) (dX jY).toList.length=true:=by kernel_rfl
theorem tp_rg1:rgB (aA 1 jY)=some 2:=by kernel_rfl
theorem tp_all1:(dX (aA 1 jY)).toList.all (fun o=>dR o.op)=true:=by kernel_rfl
theorem tp_10:((dX (aA 1 jY)).toList[0]?).bind rY=some (4,[],some 14):=by kernel_rfl
theorem tp_11:((dX (aA 1 jY)).toList[1]?).bind mvO=some (14,some 3):=by kernel_rfl
theorem tp_t2:aA 1 (aA 1 jY)=aA 2 jY:=by kernel_rfl
theorem tp_t3:aA 1 (aA 2 jY)=aA 3 jY:=by kernel_rfl
theorem tp_t4:aA 1 (aA 3 jY)=aA 4 jY:=by kernel_rfl
theorem tp_t5:aA 1 (aA 4 jY)=aA 5 jY:=by kernel_rfl
theorem tp_t6:aA 1 (aA 5 jY)=aA 6 jY:=by kernel_rfl
theorem tp_is2:isX (aA 2 jY)=true:=by kernel_rfl
theorem tp_is5:isX (aA 5 jY)=true:=by kernel_rfl
theorem tp_rg2:rgB xR=some 3:=by kernel_rfl
theorem yL:(dX xR).toList.all (fun o=>dR o.op)=true:=by kernel_rfl
theorem tp_20:((dX xR).toList[0]?).bind ldO=some (28,1,some 15,none):=by kernel_rfl
theorem tp_21:((dX xR).toList[1]?).bind rY=some (5,[.tmp 15],some 16):=by kernel_rfl
theorem tp_okI2:dL (aA 1 xR)=true:=by kernel_rfl
theorem tp_len2:Nat.beq (2+1) (dX xR).toList.length=true:=by kernel_rfl
theorem tp_noI2:aA 1 (aA 1 xR)=none:=by kernel_rfl
theorem tp_rg4:rgB (aA 3 jY)=some 9:=by kernel_rfl
theorem lY:(dX (aA 3 jY)).toList.all (fun o=>dR o.op)=true:=by kernel_rfl
theorem tp_40:((dX (aA 3 jY)).toList[0]?).bind ldO=some (28,1,some 20,none):=by kernel_rfl
theorem tp_41:((dX (aA 3 jY)).toList[1]?).bind rY=some (6,[.tmp 20],some 21):=by kernel_rfl
theorem tp_42:((dX (aA 3 jY)).toList[2]?).bind mvO=some (21,some 19):=by kernel_rfl
theorem tp_43:((dX (aA 3 jY)).toList[3]?).bind exO=some (19,0,some 22):=by kernel_rfl
theorem tp_44:((dX (aA 3 jY)).toList[4]?).bind exO=some (19,1,some 23):=by kernel_rfl
theorem tp_45:((dX (aA 3 jY)).toList[5]?).bind exO=some (19,2,some 24):=by kernel_rfl
theorem tp_46:((dX (aA 3 jY)).toList[6]?).bind mvO=some (22,some 4):=by kernel_rfl
theorem tp_47:((dX (aA 3 jY)).toList[7]?).bind mvO=some (23,some 5):=by kernel_rfl
theorem tp_48:((dX (aA 3 jY)).toList[8]?).bind mvO=some (24,some 6):=by kernel_rfl
theorem tp_rg5:rgB (aA 4 jY)=some 4:=by kernel_rfl
theorem tp_all5:(dX (aA 4 jY)).toList.all (fun o=>dR o.op)=true:=by kernel_rfl
theorem tp_51:((dX (aA 4 jY)).toList[1]?).bind ldO=some (24,25,some 26,none):=by kernel_rfl
theorem tp_len5(i m:Nat)(h:i+m=4):Nat.beq (i+m) (dX (aA 4 jY)).toList.length=true:=by rw[h];kernel_rfl
theorem tp_ok5:dL (aA 5 jY)=true:=by kernel_rfl
theorem tp_okI5:dL tpI5=true:=by kernel_rfl
theorem tp_ok6:dL (aA 6 jY)=true:=by kernel_rfl
section
variable{h:H}{th st ga le re ti:Int}{pP pL:Option (Nat×Nat×Option Nat)}{PL LL:List Int}{cs:Option (Nat×Option Nat)}{rows:List (Option rE)}{K:Nat}{ck:Option Nat}{pv:List Int}{nil:Bool}
set_option maxHeartbeats 2000000 in
theorem peek_spec(hR:∀m∈h.R,m<h.n)(hC:h.C=[])(hP:∀x,pP=some x→x.1∈h.R∧h.get x.1=.ints 3 1 PL∧PL.length=x.2.1)(hL:∀x,pL=some x→x.1<h.n∧h.get x.1=.ints 3 1 LL∧LL.length=x.2.1)(hPL:∀x y,pP=some x→pL=some y→x.1≠y.1)(A:RowsB h cs rows)
 (tJ:nil=true→pv=[])(hPk:nil=false→PkA h K pv)(h0:0<h.n)(room:h.n+710000≤1000000):
 lJ Tryz.prog 3 [.agg (tW th st ga le re ti pP pL cs rows.length K ck pv nil)] h (fun v h'=>v=.bool true):=by
 refine lG fn3_ok ⟨by simp,by omega⟩ ⟨by simp,by simp⟩ fun ρ a w n Q s0 hq=>?_
 refine jU (d:=jY) tp_rg0 ?_;refine go_box (v:=.agg (tW th st ga le re ti pP pL cs rows.length K ck pv nil)) bW tp_all0 tp_bx gd_sz trivial rfl (by simp) s0 (by omega) fun dQ a1 w1 s1=>?_
 have hb:∀m,m<h.n→(h.new (.cells 28 10 (tW th st ga le re ti pP pL cs rows.length K ck pv nil))).get m=h.get m:=fun m hm=>H.get_new_ne (by omega)
 have gb1:(h.new (.cells 28 10 (tW th st ga le re ti pP pL cs rows.length K ck pv nil))).get h.n=.cells 28 10 (tW th st ga le re ti pP pL cs rows.length K ck pv nil):=H.get_new (by omega);have G1:jO h (h.new (.cells 28 10 (tW th st ga le re ti pP pL cs rows.length K ck pv nil))):=⟨by show h.n≤h.n+1;omega,rfl,rfl,hb⟩;have hn1:(h.new (.cells 28 10 (tW th st ga le re ti pP pL cs rows.length K ck pv nil))).n=h.n+1:=rfl;have s1:St (ρ,h,w) 142 [(1,.ptr h.n 0 0),(0,.agg (tW th st ga le re ti pP pL cs rows.length K ck pv nil))] (h.new (.cells 28 10 (tW th st ga le re ti pP pL cs rows.length K ck pv nil))) dQ a1 w1:=s1;generalize h.new (.cells 28 10 (tW th st ga le re ti pP pL cs rows.length K ck pv nil))=h1 at*;have qO:∀{h2:H},h2.n≤1000000→Fit h2 (aT [] []) (nm []):=fun l6=>aX (R:=[]) (os:=[]) (ns:=[]) trivial (by simp[aQ]) (by simp) l6
 refine jX (i:=1) (j:=1) (m:=1) (k:=0) (K:=0) (ns:=[]) bW (aH _) tp0 trivial (qO (by omega)) rfl rfl rfl (by simp) (by omega) tp_all0 tp_ok1 tp_len0 rfl (.inl rfl) s1 (fun q hq=>by cases hq) fun iJ a2 w2 s2=>?_
 have s2:St (ρ,h,w) 142 [(1,.ptr h.n 0 0)] h1 iJ a2 w2:=s2;have main:cB n Tryz.prog (aA 1 jY) Q a2 w2:=by
  refine jU (d:=aA 1 jY) tp_rg1 ?_;refine jV (m:=1) tp_all1 tp_10 rfl (by simp) (head_spec (fun m hm=>by rw[G1.R]at hm;have:=hR m hm;omega) (G1.C.trans hC) (by omega)) s2 fun v h2 gV a3 w3 hv s3=>?_
  obtain⟨rfl,n2a,n2b,g2,r2,c2⟩:=hv;have G2:jO h1 h2:=⟨n2a,r2,c2,g2⟩;have s3:St (ρ,h,w) 142 [(14,.bool true),(1,.ptr h.n 0 0)] h2 gV a3 w3:=s3;refine lN (m:=0) bW tp_all1 tp_11 (v:=.bool true) rfl (by simp) s3 fun a4 s4=>?_
  have s4:St (ρ,h,w) 142 [(3,.bool true),(14,.bool true),(1,.ptr h.n 0 0)] h2 gV a4 w3:=s4;show cB n Tryz.prog (aA 1 (aA 1 jY)) Q a4 w3;rw[tp_t2];refine tF tp_is2 (jU (d:=xR) tp_rg2 ?_);have gb2:h2.get h.n=.cells 28 10 (tW th st ga le re ti pP pL cs rows.length K ck pv nil):=(g2 _ (by omega)).trans gb1;refine xF (m:=2) bW yL tp_20 sn_ag28 trivial rfl gb2 (by show 10≤10;omega) (by simp) s4 fun a5 s5=>?_
  have s5:St (ρ,h,w) 142 [(15,.agg (tW th st ga le re ti pP pL cs rows.length K ck pv nil)),(3,.bool true),(14,.bool true),(1,.ptr h.n 0 0)] h2 gV a5 w3:=s5;have G12:=G1.trans G2;have up2:∀{m:Nat} {o:SO},m<h.n→h.get m=o→m<h2.n∧h2.get m=o:=fun{m o} hm e=>⟨by have:=G12.n;omega,(G12.old m hm).trans e⟩
  refine jV (m:=1) yL tp_21 rfl (by simp) (good_spec (PL:=PL) (LL:=LL) (fun x hx=>by obtain⟨q1,q2,q3⟩:=hP x hx;have:=up2 (hR _ q1) q2;exact⟨this.1,this.2,q3⟩) (fun x hx=>by obtain⟨q1,q2,q3⟩:=hL x hx;have:=up2 q1 q2;exact⟨this.1,this.2,q3⟩) hPL (A.grow G12) (fun e=>by have:=(hPk e).lt;omega) tJ (by omega) (by omega)) s5 fun v h3 ρ6 a6 w6 hv s6=>?_
  obtain⟨b,rfl,G3,hn3,facts⟩:=hv;have s6:St (ρ,h,w) 142 [(16,.bool b),(15,.agg (tW th st ga le re ti pP pL cs rows.length K ck pv nil)),(3,.bool true),(14,.bool true),(1,.ptr h.n 0 0)] h3 ρ6 a6 w6:=s6;have hn3a:=G3.n;cases b with
  |false=>
   refine jX (i:=2) (j:=1) (m:=1) (k:=1) (K:=0) (ns:=[]) bW (aH _) tp2t trivial (qO (by omega)) rfl rfl rfl (by simp) (by omega) yL tp_okI2 tp_len2 rfl (.inr rfl) s6 (fun q hq=>by
    have e1:cU (nm []) [(3,SV.bool true),(16,.bool false)]=[(3,.bool true),(16,.bool false)]:=rfl;rw[e1]at hq;simp only[List.mem_cons,List.not_mem_nil,or_false]at hq;rcases hq with rfl|rfl<;>simp) fun ρ7 a7 w7 s7=>⟨fun _=>?_,fun e=>by cases e⟩
   exact hq _ ρ7 a7 w7 [.bool true] h3 (.inl rfl) rfl rfl s7
  |true=>
   obtain⟨⟨P,L,cp,cl,eP,eL⟩,eLL,rg,h8,hk,h88⟩:=facts rfl;subst eP;subst eL;refine jX (i:=2) (j:=1) (m:=1) (k:=1) (K:=0) (ns:=[]) bW (aH _) tp2f trivial (qO (by omega)) rfl rfl rfl (by simp) (by omega) yL tp_okI2 tp_len2 rfl (.inr rfl) s6 (fun q hq=>by
    have e1:cU (nm []) [(16,SV.bool true)]=[(16,.bool true)]:=rfl;rw[e1]at hq;simp only[List.mem_cons,List.not_mem_nil,or_false]at hq;subst hq;simp) fun ρ7 a7 w7 s7=>⟨fun _=>?_,fun e=>by cases e⟩
   have s7:St (ρ,h,w) 142 [(3,.bool true),(1,.ptr h.n 0 0)] h3 ρ7 a7 w7:=s7;rw[fE,tp_noI2];show cB n Tryz.prog (aA 1 (aA 2 jY)) Q a7 w7;rw[tp_t3];refine jU (d:=aA 3 jY) tp_rg4 ?_;have gb3:h3.get h.n=.cells 28 10 (hJ th st ga le re ti P L PL cp cl cs rows.length K ck pv nil):=(G3.old _ (by omega)).trans gb2;refine xF (m:=8) bW lY tp_40 sn_ag28 trivial rfl gb3 (by show 10≤10;omega) (by simp) s7 fun a8 s8=>?_
   have s8:St (ρ,h,w) 142 [(20,.agg (hJ th st ga le re ti P L PL cp cl cs rows.length K ck pv nil)),(3,.bool true),(1,.ptr h.n 0 0)] h3 ρ7 a8 w7:=s8;have G13:=G12.trans G3;have up3:∀{m:Nat} {o:SO},m<h.n→h.get m=o→m<h3.n∧h3.get m=o:=fun{m o} hm e=>⟨by have:=G13.n;omega,(G13.old m hm).trans e⟩
   obtain⟨p1,p2,p3⟩:=hP _ rfl;obtain⟨l1,l2,l3⟩:=hL _ rfl;refine jV (m:=7) lY tp_41 rfl (by simp) (seen_spec (LL:=LL) (fun m hm=>by rw[G13.R]at hm;have:=hR m hm;have:=G13.n;omega) (G13.C.trans hC) (by rw[G13.R];exact p1) (up3 (hR _ p1) p2).2 (up3 l1 l2).1 (up3 l1 l2).2 eLL rg ((A.ok (by have:=rg.th;omega)).grow G13) h8 h88 tJ (fun e=>⟨(up3 (hPk e).lt (hPk e).g).2,(up3 (hPk e).lt (hPk e).g).1⟩) hk (by omega)) s8 fun v h4 yK a9 w9 hv s9=>?_
   obtain⟨u,aP,aD,V1,V2,rfl,n4a,n4b,g4,eh,hE,hw,pf,out,ev⟩:=hv;have s9:St (ρ,h,w) 142 [(21,.tup [V1,V2,.bool true]),(20,.agg (hJ th st ga le re ti P L PL cp cl cs rows.length K ck pv nil)),(3,.bool true),(1,.ptr h.n 0 0)] h4 yK a9 w9:=s9;refine lN (m:=6) bW lY tp_42 (v:=.tup [V1,V2,.bool true]) rfl (by simp) s9 fun a10 s10=>?_
   have s10:St (ρ,h,w) 142 [(19,.tup [V1,V2,.bool true]),(3,.bool true),(1,.ptr h.n 0 0)] h4 yK a10 w9:=s10.sub fun q hq=>by
    simp only[List.mem_cons,List.not_mem_nil,or_false]at hq;rcases hq with rfl|rfl|rfl
    ·exact .head _
    ·exact .tail _ (.tail _ (.tail _ (.head _)))
    ·exact .tail _ (.tail _ (.tail _ (.tail _ (.head _))))
   refine go_ex (m:=5) bW lY tp_43 (l:=[V1,V2,.bool true]) (v:=V1) rfl rfl (by simp) s10 fun a11 s11=>?_
   refine go_ex (m:=4) bW lY tp_44 (l:=[V1,V2,.bool true]) (v:=V2) rfl rfl (by simp) s11 fun a12 s12=>?_
   refine go_ex (m:=3) bW lY tp_45 (l:=[V1,V2,.bool true]) (v:=.bool true) rfl rfl (by simp) s12 fun a13 s13=>?_
   refine lN (m:=2) bW lY tp_46 (v:=V1) rfl (by simp) s13 fun a14 s14=>?_
   refine lN (m:=1) bW lY tp_47 (v:=V2) rfl (by simp) s14 fun a15 s15=>?_
   refine lN (m:=0) bW lY tp_48 (v:=.bool true) rfl (by simp) s15 fun a16 s16=>?_
   have s16:St (ρ,h,w) 142 [(6,.bool true),(5,V2),(4,V1),(24,.bool true),(23,V2),(22,V1),(19,.tup [V1,V2,.bool true]),(3,.bool true),(1,.ptr h.n 0 0)] h4 yK a16 w9:=s16;show cB n Tryz.prog (aA 1 (aA 3 jY)) Q a16 w9;rw[tp_t4];have s16:St (ρ,h,w) 142 [(6,.bool true),(5,V2),(4,V1),(3,.bool true),(1,.ptr h.n 0 0)] h4 yK a16 w9:=s16.sub fun q hq=>by
    simp only[List.mem_cons,List.not_mem_nil,or_false]at hq;rcases hq with rfl|rfl|rfl|rfl|rfl
    ·exact .head _
    ·exact .tail _ (.head _)
    ·exact .tail _ (.tail _ (.head _))
    ·simp
    ·simp
   have gb4:h4.get h.n=.cells 28 10 (hJ th st ga le re ti P L PL cp cl cs rows.length K ck pv nil):=(g4 _ (by omega)).trans gb3;obtain⟨lv,s17⟩:=s16.forget hC (k:=7) gb4 rfl rfl;have hg5:(h4.put h.n (.cells 28 10 ((hJ th st ga le re ti P L PL cp cl cs rows.length K ck pv nil).set 7 (.val lv)))).get h.n=.cells 28 10 ((hJ th st ga le re ti P L PL cp cl cs rows.length K ck pv nil).set 7 (.val lv)):=H.get_put (by omega);have out5:OutOK (h4.put h.n (.cells 28 10 ((hJ th st ga le re ti P L PL cp cl cs rows.length K ck pv nil).set 7 (.val lv)))) st PL.length aP V1:=by
    have ne:∀{m:Nat} {t s:Nat} {l:List SV},t≠28→h4.get m=.cells t s l→(h4.put h.n (.cells 28 10 ((hJ th st ga le re ti P L PL cp cl cs rows.length K ck pv nil).set 7 (.val lv)))).get m=.cells t s l:=fun{m t s l} ht e=>by
     rw[H.get_put_ne (fun e0=>by rw[←e0,gb4]at e;injection e with e;exact ht e.symm)];exact e
    rcases out with o1|⟨M,Ms,o1,o2,o3,o4,o5,o6⟩
    ·exact .inl o1
    ·exact .inr ⟨M,Ms,o1,o2,ne (by omega) o3,o4,o5,fun j s d n W x y=>⟨ne (by omega) (o6 j s d n W x y).1,(o6 j s d n W x y).2⟩⟩
   have ev5:EvOK (h4.put h.n (.cells 28 10 ((hJ th st ga le re ti P L PL cp cl cs rows.length K ck pv nil).set 7 (.val lv)))) aD V2:=by
    rcases ev with o1|⟨o1,e,o2,o3,o4⟩
    ·exact .inl o1
    ·refine .inr ⟨o1,e,o2,?_,o4⟩
     rw[H.get_put_ne (fun e0=>by rw[←e0,gb4]at o3;injection o3 with o3;omega)];exact o3
   have hn5:(h4.put h.n (.cells 28 10 ((hJ th st ga le re ti P L PL cp cl cs rows.length K ck pv nil).set 7 (.val lv)))).n=h4.n:=rfl;generalize h4.put h.n (.cells 28 10 ((hJ th st ga le re ti P L PL cp cl cs rows.length K ck pv nil).set 7 (.val lv)))=h5 at*;refine jU (d:=aA 4 jY) tp_rg5 ?_;rw[tp_t5];have lb5:h.n<h5.n:=by omega
   have ftb:Fit h5 (aT [.dead] [0]) (nm [h.n]):=aX (R:=[0]) (os:=[.dead]) (ns:=[h.n]) ⟨lb5,bE rfl aZ,trivial⟩ (by simp[aQ,SO.lives]) (by simp) (by omega);have lP5:P<h5.n:=by have:=(up3 (hR _ p1) p2).1;have e:P<h3.n:=this;omega
   have ftP:Fit h5 (aT [.dead] [0]) (nm [P]):=aX (R:=[0]) (os:=[.dead]) (ns:=[P]) ⟨lP5,bE rfl aZ,trivial⟩ (by simp[aQ,SO.lives]) (by simp) (by omega);refine jX (i:=0) (j:=1) (m:=4) (k:=0) (K:=0) (ns:=[h.n]) bW (aH _) tp5a trivial ftb rfl rfl rfl (by simp) (by omega) tp_all5 tp_ok5 (tp_len5 _ _ rfl) rfl (.inl rfl) s17 (fun q hq=>by
    have e1:cU (nm [h.n]) [(1,SV.ptr 0 0 0)]=[(1,.ptr h.n 0 0)]:=rfl;rw[e1]at hq;simp only[List.mem_cons,List.not_mem_nil,or_false]at hq;subst hq;simp) fun ρ18 a18 w18 s18=>⟨fun e=>(by cases e),fun _ _=>?_⟩
   show GO n Tryz.prog (dX (aA 4 jY)) 1 (2+1) (aA 5 jY) _ a18 w18;have s18:St (ρ,h,w) 142 [(1,.ptr h.n 0 0),(25,.ptr h.n 0 0),(6,.bool true),(5,V2),(4,V1),(3,.bool true)] h5 ρ18 a18 w18:=s18;refine xF (m:=2) bW tp_all5 tp_51 gd_ag trivial rfl hg5 (by show 8≤10;omega) (by simp) s18 fun a19 s19=>?_
   have s19:St (ρ,h,w) 142 [(26,.agg [.int .i64 th,.int .i64 st,.int .i64 ga,.int .i64 le,.int .i64 re,.int .i64 ti,.slice P 0 PL.length cp,.val lv]),(1,.ptr h.n 0 0),(25,.ptr h.n 0 0),(6,.bool true),(5,V2),(4,V1),(3,.bool true)] h5 ρ18 a19 w18:=s19;have rst:=rg.st;have rga:=rg.ga;have last:∀(ρ20:bF) (a20:Act) (w20:World),St (ρ,h,w) 142 [(7,.int .i64 (qZ ga st.toNat)),(6,.bool true),(5,V2),(4,V1),(3,.bool true)] (h5.lay 8 (laid (nx h5.n 1 [] [P]) [] [])) ρ20 a20 w20→cB n Tryz.prog (aA 5 jY) Q a20 w20:=fun ρ20 a20 w20 s20=>by
    have gs:∀m,(h5.lay 8 (laid (nx h5.n 1 [] [P]) [] [])).get m=h5.get m:=fun _=>rfl
    have hn6:(h5.lay 8 (laid (nx h5.n 1 [] [P]) [] [])).n=h5.n+8:=rfl;generalize h5.lay 8 (laid (nx h5.n 1 [] [P]) [] [])=h6 at*;refine tF tp_is5 ?_;refine bD (K:=0) (ns:=[]) bW (aH _) tp6 trivial (qO (by omega)) rfl rfl rfl (by simp) (by omega) tp_okI5 s20 (fun q hq=>by cases hq) fun ρ21 a21 w21 s21=>?_
    have s21:St (ρ,h,w) 142 [(8,.int .i64 (0:Nat)),(7,.int .i64 (qZ ga st.toNat)),(6,.bool true),(5,V2),(4,V1),(3,.bool true)] h6 ρ21 a21 w21:=s21;rw[fE];refine tp_out (hh:=h6) (V1:=V1) (V2:=V2) rg pf hw ?_ ?_ (by omega) (by omega) (by omega) (s21.sub fun q hq=>?_) fun ρ22 a22 w22 s22=>?_
    ·rcases out5 with o1|⟨M,Ms,o1,o2,o3,o4,o5,o6⟩
     ·exact .inl o1
     ·exact .inr ⟨M,Ms,o1,o2,(gs _).trans o3,by omega,o5,fun j s d n W x y=>⟨(gs _).trans (o6 j s d n W x y).1,by have:=(o6 j s d n W x y).2;omega⟩⟩
    ·rcases ev5 with o1|⟨o1,e,o2,o3,o4⟩
     ·exact .inl o1
     ·exact .inr ⟨o1,e,o2,(gs _).trans o3,by omega⟩
    ·simp only[List.mem_cons,List.not_mem_nil,or_false]at hq
     rcases hq with rfl|rfl|rfl|rfl|rfl|rfl
     ·simp
     ·simp
     ·simp
     ·simp
     ·simp
     ·exact .head _
    ·show cB n Tryz.prog (aA 1 (aA 5 jY)) Q a22 w22
     rw[tp_t6];refine bD (K:=0) (ns:=[]) bW (aH _) tp23 trivial (qO (by omega)) rfl rfl rfl (by simp) (by omega) tp_ok6 s22 (fun q hq=>by
      have e1:cU (nm []) [(3,SV.bool true),(6,.bool true)]=[(3,.bool true),(6,.bool true)]:=rfl;rw[e1]at hq;simp only[List.mem_cons,List.not_mem_nil,or_false]at hq;rcases hq with rfl|rfl<;>simp) fun ρ23 a23 w23 s23=>?_
     exact hq _ ρ23 a23 w23 [.bool true] h6 (.inl rfl) rfl rfl s23
   refine jX (i:=2) (j:=2) (m:=2) (k:=0) (K:=8) (ns:=[P]) bW vA (tp5b th st ga le re ti PL.length cp lv) (aU (decide_eq_true ⟨rst,rga⟩) trivial) ftP rfl rfl rfl (by simp) (by omega) tp_all5 tp_ok5 (tp_len5 _ _ rfl) rfl (.inl rfl) s19 (fun q hq=>by
    have e1:cU (nm [P]) [(26,SV.agg [.int .i64 th,.int .i64 st,.int .i64 ga,.int .i64 le,.int .i64 re,.int .i64 ti,.slice 0 0 PL.length cp,.val lv])]=[(26,.agg [.int .i64 th,.int .i64 st,.int .i64 ga,.int .i64 le,.int .i64 re,.int .i64 ti,.slice P 0 PL.length cp,.val lv])]:=rfl;rw[e1]at hq;simp only[List.mem_cons,List.not_mem_nil,or_false]at hq;subst hq;exact .head _) fun ρ20 a20 w20 s20=>⟨fun _=>?_,fun _ _=>?_⟩
   ·exact last ρ20 a20 w20 s20
   ·exact last ρ20 a20 w20 s20
 exact⟨fun _=>main,fun _ _=>main⟩
end
end Go.Proofs.YtnkcbfgfkadoaaaGreat.Sx
namespace Go.Proofs.YtnkcbfgfkadoaaaGreat.Sx
open Go Go.RowKit Go.ChangeShapes Go.WideShapes Go.Deep
set_option maxRecDepth 100000
section
variable{H:Type}{enc:TypeId×Value→H}{W:World}
def NF(W:World)(ps:List MemPlace):Prop:=∀b off,MemPlace.cell b off∈ps→W.frozen? ⟨b,off,none⟩=false
def RowIn{α:Type}(W:World)(s:Nat)(K:α→List Value→Prop)(p:Pl)(l:List α):Prop:=p.sz=s∧p.b<W.heap.size∧l.length*s≤p.R∧∃cs fr,CB W p.b cs fr∧yN fr p.o p.R∧p.o+p.R≤cs.size∧
 ∀i x,l[i]?=some x→∃c:List Value,c.length=s∧K x c∧∀r v,c[r]?=some v→cs[p.o+i*s+r]?=some v
def SlU(s:Nat)(u:Value)(n:Nat)(p:Pl):Prop:=∃a cap,u=.slice (some a) n cap∧n≤cap∧cap≤xH∧(0<cap→a=⟨p.b,p.o,none⟩∧cap*s≤p.R)
def oS{α:Type}(W:World)(s:Nat)(K:α→List Value→Prop)(u:Value)(l:List α):Prop:=(u=.slice none 0 0∧l=[])∨∃p,SlU s u l.length p∧RowIn W s K p l
theorem cell_some{a:Addr}{v:Value}(h:W.cell? a=some v):a.spot=none∧∃cs t fr,W.heap[a.block]?=some (.cells cs t fr)∧cs[a.off]?=some v:=by
 unfold World.cell? at h;split at h
 ·rename_i c t fr hc
  cases hs:a.spot with
  |none=>simp[hs]at h;exact⟨rfl,c,t,fr,hc,h⟩
  |some x=>simp[hs]at h
 ·cases h
theorem add_off(a:Addr)(n:Nat):(a.add n).block=a.block∧(a.add n).off=a.off+n:=by
 unfold Addr.add;split
 ·subst_vars;simp
 ·simp
theorem yM{α:Type}(z:α){K:α→List Value→Prop}{T E s n:Nat}{spare:Nat→Bool}(hsp:∀b,spare b=true){held:Bool}(hT:Tryz.prog.underlying T=some (.slice E))(hs:Tryz.prog.cellsOf E=s)(s0:0<s)(b0:∃cs fr,CB W 0 cs fr)
 (tD:∀{n cs} {x:DataW H×List MemPlace},DataW.trod enc Tryz.prog W 0 spare held n E cs=some x→NF W x.2→∃e,K e cs){cs:List Value}{x:DataW H×List MemPlace}(h:DataW.trod enc Tryz.prog W 0 spare held n T cs=some x)(nf:NF W x.2):
 ∃u l,cs=[u]∧oS W s K u l:=by
 rcases open_slice hT h with⟨oG,_⟩|⟨a,len,cap,m,k,D,P,oG,_,hl,hm,hmm,hx,hi⟩
 ·exact⟨_,[],oG,.inl ⟨rfl,rfl⟩⟩
 ·rw[hsp,if_pos rfl]at hmm
  subst hmm;rw[hs]at hi hx;have mI:m≤xH:=by unfold maxLen at hm;unfold xH;omega
  rcases Nat.eq_zero_or_pos m with z0|z0
  ·subst z0
   have:len=0:=by omega
   subst this;obtain⟨cs0,fr0,h0⟩:=b0;refine⟨_,[],oG,.inr ⟨⟨0,0,0,s⟩,⟨a,0,rfl,Nat.le_refl _,mI,fun h=>by omega⟩,rfl,?_,by simp,cs0,fr0,h0,fun i h1 h2=>?_,by simp,fun i x hx=>by simp at hx⟩⟩
   ·obtain⟨t,h0⟩:=h0
    exact dP h0
   ·simp at h2
  ·
   have cellAt:∀i r,i<m→r<s→∃v,W.cell? ((a.add (i*s)).add r)=some v:=fun i r h1 h2=>by
    obtain⟨gF,g1,_⟩:=hi i h1;obtain⟨_,g2,g3⟩:=World.cells?_some g1;exact⟨_,by rw[g3 r h2,List.getElem?_eq_getElem (by omega)]⟩
   obtain⟨v0,hv0⟩:=cellAt 0 0 z0 s0;have e0:(a.add (0*s)).add 0=a:=by simp[Addr.add]
   rw[e0]at hv0;obtain⟨sp,cs,t,fr,hb,_⟩:=cell_some hv0;have ins:∀i r v,i<m→r<s→W.cell? ((a.add (i*s)).add r)=some v→cs[a.off+i*s+r]?=some v:=fun i r v h1 h2 hv=>by
    obtain⟨_,xX,t2,fr2,hb2,hv2⟩:=cell_some hv;have o1:=add_off (a.add (i*s)) r;have o2:=add_off a (i*s);rw[o1.1,o2.1,hb]at hb2;injection hb2 with hb2;injection hb2 with e1 e2 e3;subst e1;rw[o1.2,o2.2]at hv2;exact hv2
   have sG:a.off+m*s≤cs.size:=by
    obtain⟨v,hv⟩:=cellAt (m-1) (s-1) (by omega) (by omega);have:=ins _ _ _ (by omega) (by omega) hv;have:=(Array.getElem?_eq_some_iff.1 this).1;have e:m*s=(m-1)*s+s:=by
     rw[←Nat.succ_mul];congr 1;omega
    omega
   have hex:∀i:Nat,∃e:α,i<m→∃c:List Value,c.length=s∧K e c∧∀r v,c[r]?=some v→cs[a.off+i*s+r]?=some v:=fun i=>by
    by_cases him:i<m
    ·obtain⟨c,g1,g2⟩:=hi i him
     obtain⟨_,g3,g4⟩:=World.cells?_some g1;obtain⟨e,he⟩:=tD g2 (fun b off hbo=>nf b off (by rw[hx];exact List.mem_append_right _ (List.mem_flatMap.2 ⟨i,List.mem_range.2 him,hbo⟩)));exact⟨e,fun _=>⟨c,g3,he,fun r v hv=>ins i r v him (by have:=(List.getElem?_eq_some_iff.1 hv).1;omega) (by rw[g4 r (by have:=(List.getElem?_eq_some_iff.1 hv).1;omega)];exact hv)⟩⟩
    ·exact⟨z,fun h=>absurd h him⟩
   let F:Nat→α:=fun i=>(hex i).choose
   have hF:∀i,i<m→∃c:List Value,c.length=s∧K (F i) c∧∀r v,c[r]?=some v→cs[a.off+i*s+r]?=some v:=fun i him=>(hex i).choose_spec him
   have hll:((List.range len).map F).length=len:=by simp
   refine⟨_,(List.range len).map F,oG,.inr ⟨⟨a.block,a.off,m*s,s⟩,⟨a,m,by rw[hll],by rw[hll];exact hl,mI,fun _=>⟨?_,Nat.le_refl _⟩⟩,rfl,dP hb,by rw[hll];exact Nat.mul_le_mul_right _ hl,cs,fr,⟨t,hb⟩,fun i h1 h2=>?_,sG,fun i x hix=>?_⟩⟩
   ·cases a;simp at sp⊢;exact sp
   ·have:=nf a.block i (by
     rw[hx];refine List.mem_append_left _ ?_;unfold MemPlace.row;refine List.mem_map.2 ⟨i-a.off,List.mem_range.2 ?_,?_⟩
     ·simp at h1 h2;omega
     ·simp at h1;congr 1;omega)
    simp only[World.frozen?,hb]at this;intro hc;simp[hc.1,hc.2]at this
   ·rw[List.getElem?_map]at hix
    have hj:i<len:=by
     rcases Nat.lt_or_ge i len with h|h
     ·exact h
     ·rw[List.getElem?_eq_none (by simpa using h)]at hix;cases hix
    rw[List.getElem?_range hj]at hix;simp at hix;subst hix;exact hF i (by omega)
end
end Go.Proofs.YtnkcbfgfkadoaaaGreat.Sx
