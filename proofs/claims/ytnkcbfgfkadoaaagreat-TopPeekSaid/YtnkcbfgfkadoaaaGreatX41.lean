/- Part 41 of the proof of TopPeek. -/
import Derived.Test.YtnkcbfgfkadoaaaGreatX40
set_option linter.all false
namespace Go.Proofs.YtnkcbfgfkadoaaaGreat.Sx
open Go
set_option maxRecDepth 10000
section
variable{h:H}{th st ga le re ti:Int}{pP pL:Option (Nat×Nat×Option Nat)}{PL LL:List Int}{cs:Option (Nat×Option Nat)}{rows:List (Option rE)}{K:Nat}{ck:Option Nat}{pv:List Int}{nil:Bool}
theorem gZ(i m:Nat)(h:i+m=24):Nat.beq (i+m) (dX oD).toList.length=true:=by rw[h];kernel_rfl
theorem pO{P:Program}{n:Nat}{d:Option Code}{Q:Exit→Act→World→Prop}{j:Nat}{a:Act}{w:World}:goX n P d Q (.exit j) a w=Q (.exit j) a w:=rfl
theorem tT{P:Program}{n:Nat}{I:Nat→Act→World→Prop}{k j:Nat}{d:Option Code}{Q:Exit→Act→World→Prop}{a:Act}{w:World}:rA n P I k j d Q (.exit j) a w=cB n P d Q a w:=by simp[rA]
theorem wF{h1:H}{bx:Nat}{X Y Z:List SV}{r:Nat→Nat}(hg:h1.get bx=.cells 28 10 X)(hz:SV.rens r Y=Z)(hl:Z.length=X.length)(hh:∀(i:Nat) v v',X[i]?=some v→Z[i]?=some v'→v'=v∨(v'=.any∧v.one=true)):((.cells 28 10 Y:SO)≠.dead→live h1 bx)∧∀(ρ:bF) (p:Pl) (w:World),OR ρ p w (h1.get bx)→OR (ρ.via r) p w (.cells 28 10 Y):=
 ro_wk (by unfold live;rw[hg];simp) rfl (by rw[hg];show Wk _ (.cells 28 10 (SV.rens r Y));rw[hz];exact wk_box hl hh) (by show SO.cells 28 10 (SV.rens r Y)≠_;simp)
def iI:List Bool→List SV→List SV
 |b::bs,v::vs=>(match b with|true=>.any|false=>v)::iI bs vs
 |_,vs=>vs
theorem dI:∀(bs:List Bool) (vs:List SV),(iI bs vs).length=vs.length
 |[],_=>rfl
 |_::_,[]=>rfl
 |_::bs,_::vs=>by simp[iI,dI bs vs]
theorem eC:∀(bs:List Bool) (vs:List SV),(∀v∈vs,v.one=true)→∀(i:Nat) v v',vs[i]?=some v→(iI bs vs)[i]?=some v'→v'=v∨(v'=.any∧v.one=true)
 |[],vs,_,i,v,v',h1,h2=>by
  unfold iI at h2;rw[h1]at h2;injection h2 with h2;exact .inl h2.symm
 |_::_,[],_,i,v,v',h1,h2=>by simp at h1
 |b::bs,x::vs,ho,i,v,v',h1,h2=>by
  cases i with
  |zero=>
   simp only[iI,List.getElem?_cons_zero,Option.some.injEq]at h1 h2;subst h1;cases b
   ·exact .inl h2.symm
   ·exact .inr ⟨h2.symm,ho _ (by simp)⟩
  |succ i=>
   simp only[iI,List.getElem?_cons_succ]at h1 h2;exact eC bs vs (fun v hv=>ho v (by simp[hv])) i v v' h1 h2
theorem sS:∀v∈tW th st ga le re ti pP pL cs rows.length K ck pv nil,v.one=true:=by
 intro v hv;simp only[tW,List.mem_cons,List.not_mem_nil,or_false]at hv;rcases hv with rfl|rfl|rfl|rfl|rfl|rfl|rfl|rfl|rfl|rfl
 ·rfl
 ·rfl
 ·rfl
 ·rfl
 ·rfl
 ·rfl
 ·exact slO_one _
 ·exact slO_one _
 ·exact csSV_one _ _
 ·exact pkSV_one _ _ _ _
set_option maxHeartbeats 2000000 in
theorem good_spec(hP:∀x,pP=some x→x.1<h.n∧h.get x.1=.ints 3 1 PL∧PL.length=x.2.1)(hL:∀x,pL=some x→x.1<h.n∧h.get x.1=.ints 3 1 LL∧LL.length=x.2.1)(hPL:∀x y,pP=some x→pL=some y→x.1≠y.1)(A0:RowsB h cs rows)(hK:nil=false→K<h.n)(tJ:nil=true→pv=[])(h0:0<h.n)(room:h.n+500≤1000000):
 lJ Tryz.prog 5 [.agg (tW th st ga le re ti pP pL cs rows.length K ck pv nil)] h (GdR h th st ga le re ti pP pL PL LL rows pv):=by
 refine lG fn5_ok ⟨by simp,by omega⟩ ⟨by simp,by simp⟩ fun ρ a w n Q s0 hq=>?_
 have no:∀{h1:H} {dQ:bF} {a1:Act} {w1:World},jO h h1→h1.n≤h.n+500→St (ρ,h,w) 42 [(2,.bool false)] h1 dQ a1 w1→Q .ret a1 w1:=fun{h1 dQ a1 w1} g hn s1=>hq _ dQ a1 w1 [.bool false] h1 (.inl rfl) rfl ⟨false,rfl,g,hn,fun e=>by cases e⟩ s1
 have loop:∀(h1:H) (dQ:bF) (a1:Act) (w1:World),jO h h1→h.n<h1.n→h1.n≤h.n+400→h1.get h.n=.cells 28 10 (tW th st ga le re ti pP pL cs rows.length K ck pv nil)→
  ((∃P L cp cl,pP=some (P,PL.length,cp)∧pL=some (L,PL.length,cl))∧LL.length=PL.length∧AH th st ga le re ti PL∧(rows.length:Int)≤th∧pv.length≤600)→
  St (ρ,h,w) 42 [(1,.ptr h.n 0 0),(2,.bool false)] h1 dQ a1 w1→cB n Tryz.prog (aA 1 (aA 1 AS)) Q a1 w1:=fun h1 dQ a1 w1 G1 lb hn1 gb facts s1=>by
  have A:RowsA h cs rows:=A0.ok (by have:=facts.2.2.1.th;have:=facts.2.2.2.1;omega);refine tF gd_is2 ?_;have ft0:Fit h1 (aT [.dead] [0]) (nm [h.n]):=aX (R:=[0]) (os:=[.dead]) (ns:=[h.n]) ⟨lb,bE rfl aZ,trivial⟩ (by simp[aQ,SO.lives]) (by simp) (by omega);refine bO (K:=0) (ns:=[h.n]) bW (aH _) (gd4_0 th st ga le re ti 0 0 0 0 0 0 none none none none none) trivial ft0 rfl rfl rfl (by simp) (by omega) gd_okJ s1 (fun _ hp=>hp) fun iJ a2 w2 s2=>?_
  show cB n Tryz.prog (aA 1 gdJ) (iH n Tryz.prog (aA 1 (aA 1 (aA 1 AS))) Q) a2 w2;have fin:∀{gV:bF} {a3:Act} {w3:World} {b:mX} {kn:List (Nat×SV)},b=(ρ,h,w)→(∀x,some x∈rows→x.n≤8)→St b 42 kn h1 gV a3 w3→cB n Tryz.prog (aA 1 (aA 1 (aA 1 AS))) Q a3 w3:=fun{gV a3 w3 b kn} eb h8 s3=>by
   subst eb;have qO:Fit h1 (aT [] []) (nm []):=aX (R:=[]) (os:=[]) (ns:=[]) trivial (by simp[aQ]) (by simp) (by omega);refine bO (K:=0) (ns:=[]) bW (aH _) (gde_0 th st ga le re ti 0 0 0 0 0 0 none none none none none) trivial qO rfl rfl rfl (by simp) (by omega) gd_okE s3 (fun _ hp=>by cases hp) fun ρ6 a6 w6 s6=>?_
   exact hq _ ρ6 a6 w6 [.bool true] h1 (.inl rfl) rfl ⟨true,rfl,G1,by omega,fun _=>⟨facts.1,facts.2.1,facts.2.2.1,facts.2.2.2.1,facts.2.2.2.2,h8⟩⟩ s6
  cases cs with
  |none=>
   have er:=A.no rfl;refine vB gd_lp (fun k a w'=>∃aW,St (ρ,h,w) 42 [(1,.ptr h.n 0 0),(3,.int .i64 0)] h1 aW a w') (k:=0) ⟨iJ,s2⟩ ?_;rintro k a3 w3 ⟨gV,s3⟩;have ft:Fit h1 (aT [.cells 28 10 [.any,.any,.any,.any,.any,.any,.any,.any,aC,.any]] [0]) (nm [h.n]):=aX (R:=[0]) (os:=[.cells 28 10 [.any,.any,.any,.any,.any,.any,.any,.any,aC,.any]]) (ns:=[h.n]) ⟨lb,bE rfl (wF gb (Z:=iI [true,true,true,true,true,true,true,true,false,true] _) rfl (dI _ _) (eC _ _ sS)),trivial⟩ (by simp[aQ,SO.lives]) (by simp) (by omega);refine bO (K:=0) (ns:=[h.n]) bW (aH _) (gdx_n_0 th st ga le re ti 0 0 0 0 0 0 none none none none none) trivial ft rfl rfl rfl (by simp) (by omega) gd_ok s3 (fun _ hp=>hp) fun rB a5 w5 s5=>?_
   rw[pO,tT,gd_no];show cB n Tryz.prog (aA 1 (aA 1 (aA 1 AS))) Q a5 w5;exact fin rfl (fun x hx=>by rw[er]at hx;simp at hx) s5
  |some y=>
   obtain⟨CL,cc⟩:=y;obtain⟨gC,lC⟩:=(A.grow G1).cl _ rfl;have bC:h.n≠CL:=by have:=(A.cl _ rfl).2;simp only at this;omega
   refine vB gd_lp (fun k a w'=>∃i aW,k=rows.length-i∧i≤rows.length∧(∀j x,j<i→rows[j]?=some (some x)→x.n≤8)∧St (ρ,h,w) 42 [(1,.ptr h.n 0 0),(3,.int .i64 (i:Nat))] h1 aW a w') (k:=rows.length) ⟨0,iJ,rfl,by omega,fun j x hj=>by omega,s2⟩ ?_;rintro k a3 w3 ⟨i,gV,rfl,hi,hpre,s3⟩;have boxo:=fun{r:Nat→Nat} (hz:r 1=CL)=>wF (r:=r) (Y:=[.any,.any,.any,.any,.any,.any,.any,.any,.slice 1 0 rows.length cc,.any]) gb (Z:=iI [true,true,true,true,true,true,true,true,false,true] _) (by
    simp only[SV.rens,SV.ren,hz];rfl) (dI _ _) (eC _ _ sS)
   rcases Nat.lt_or_ge i rows.length with cK|wQ
   ·have c1:decide ((i:Int)<(rows.length:Int))=true:=decide_eq_true (by omega)
    have c2:decide ((0:Int)≤(i:Int))=true:=decide_eq_true (by omega);have c3:Nat.beq (aE 0 (Int.toNat (i:Int))) i=true:=by rw[aY];simp
    have c4:fits ((i:Int)+1)=true:=aN (by have:=facts.2.2.2.1;have:=facts.2.2.1.th;omega);have step:∀{mE:bF} {a4:Act} {w4:World},(∀x,rows[i]?=some (some x)→x.n≤8)→St (ρ,h,w) 42 [(1,.ptr h.n 0 0),(3,.int .i64 ((i+1:Nat):Int))] h1 mE a4 w4→
     goX n Tryz.prog (aA 3 gdLB) (rA n Tryz.prog (fun k a w'=>∃i aW,k=rows.length-i∧i≤rows.length∧(∀j x,j<i→rows[j]?=some (some x)→x.n≤8)∧St (ρ,h,w) 42 [(1,.ptr h.n 0 0),(3,.int .i64 (i:Nat))] h1 aW a w') (rows.length-i) 0 (aA 1 (aA 1 gdJ)) (iH n Tryz.prog (aA 1 (aA 1 (aA 1 AS))) Q)) .normal a4 w4:=fun{mE a4 w4} hx s4=>by
     rw[fE,gd_tail];refine⟨rows.length-(i+1),by omega,i+1,mE,rfl,by omega,fun j x hj hjx=>?_,s4⟩;rcases Nat.lt_or_ge j i with h|h
     ·exact hpre j x h hjx
     ·have:j=i:=by omega
      subst this;exact hx x hjx
    have spot:∀{r:Nat→Nat} (v:SV),v.ren r=crSV rows[i]→((.spot 48 1 i [v]:SO)≠.dead→live h1 CL)∧∀(ρ:bF) (p:Pl) (w:World),OR ρ p w (h1.get CL)→OR (ρ.via r) p w (.spot 48 1 i [v]):=fun{r} v hv=>jF gC (by simp;omega) (by simp) fun j u hu=>by
     cases j with
     |zero=>
      simp only[List.getElem?_cons_zero,Option.some.injEq]at hu;subst hu;rw[hv,Nat.mul_one,Nat.add_zero,List.getElem?_map,List.getElem?_eq_getElem cK];rfl
     |succ j=>simp at hu
    cases hx:rows[i]with
    |none=>
     have ft:Fit h1 (aT [.cells 28 10 [.any,.any,.any,.any,.any,.any,.any,.any,.slice 1 0 rows.length cc,.any],.spot 48 1 i [aC],.dead] [0,1,2]) (nm [h.n,CL,h.n]):=aX (R:=[0,1,2]) (os:=[.cells 28 10 [.any,.any,.any,.any,.any,.any,.any,.any,.slice 1 0 rows.length cc,.any],.spot 48 1 i [aC],.dead]) (ns:=[h.n,CL,h.n]) ⟨lb,bE rfl (boxo rfl),lC,bE rfl (spot aC (by rw[hx];rfl)),lb,bE rfl aZ,trivial⟩ (by simp[aQ,SO.lives,bC]) (by simp) (by omega);refine bO (K:=0) (ns:=[h.n,CL,h.n]) bW (aH _) (gdr_n_0 th st ga le re ti 0 0 rows.length 0 0 i none none cc none none) (aU c1 (aU c2 (aU c1 (aU c3 (aU c4 trivial))))) ft rfl rfl rfl (by simp) (by omega) gd_ok s3 (fun _ hp=>hp) fun rB a5 w5 s5=>step (fun x qS=>?_) s5
     rw[List.getElem?_eq_getElem cK,hx]at qS;cases qS
    |some x=>
     obtain⟨gr,lr,hn⟩:=(A.grow G1).row x (by rw[←hx];exact List.getElem_mem cK);have ft:Fit h1 (aT [.cells 28 10 [.any,.any,.any,.any,.any,.any,.any,.any,.slice 1 0 rows.length cc,.any],.spot 48 1 i [.slice 2 0 x.n x.c],.dead] [0,1,2]) (nm [h.n,CL,x.r]):=aX (R:=[0,1,2]) (os:=[.cells 28 10 [.any,.any,.any,.any,.any,.any,.any,.any,.slice 1 0 rows.length cc,.any],.spot 48 1 i [.slice 2 0 x.n x.c],.dead]) (ns:=[h.n,CL,x.r]) ⟨lb,bE rfl (boxo rfl),lC,bE rfl (spot (.slice 2 0 x.n x.c) (by rw[hx];rfl)),lr,bE rfl aZ,trivial⟩ (by simp[aQ,SO.lives,bC]) (by simp) (by omega);by_cases c:(x.n:Int)>8
     ·refine bO (K:=0) (ns:=[h.n,CL,x.r]) bW (aH _) (gdr_s_0 th st ga le re ti 0 0 rows.length 0 x.n i none none cc none x.c) (aU c1 (aU c2 (aU c1 (aU c3 (aU (decide_eq_true c) trivial))))) ft rfl rfl rfl (by simp) (by omega) gd_ok s3 (fun _ hp=>hp) fun rB a5 w5 s5=>?_
      exact no G1 (by omega) s5
     ·refine bO (K:=0) (ns:=[h.n,CL,x.r]) bW (aH _) (gdr_s_1 th st ga le re ti 0 0 rows.length 0 x.n i none none cc none x.c) (aU c1 (aU c2 (aU c1 (aU c3 (aU (decide_eq_false c) (aU c4 trivial)))))) ft rfl rfl rfl (by simp) (by omega) gd_ok s3 (fun _ hp=>hp) fun rB a5 w5 s5=>step (fun x' qS=>?_) s5
      rw[List.getElem?_eq_getElem cK,hx]at qS;injection qS with qS;injection qS with qS;subst qS;omega
   ·have ei:i=rows.length:=by omega
    subst ei;have ft:Fit h1 (aT [.cells 28 10 [.any,.any,.any,.any,.any,.any,.any,.any,.slice 1 0 rows.length cc,.any],.dead] [0,1]) (nm [h.n,CL]):=aX (R:=[0,1]) (os:=[.cells 28 10 [.any,.any,.any,.any,.any,.any,.any,.any,.slice 1 0 rows.length cc,.any],.dead]) (ns:=[h.n,CL]) ⟨lb,bE rfl (boxo rfl),lC,bE rfl aZ,trivial⟩ (by simp[aQ,SO.lives]) (by simp) (by omega);refine bO (K:=0) (ns:=[h.n,CL]) bW (aH _) (gdx_s_1 th st ga le re ti 0 0 rows.length 0 0 rows.length none none cc none none) (aU (decide_eq_false (by omega)) trivial) ft rfl rfl rfl (by simp) (by omega) gd_ok s3 (fun _ hp=>hp) fun rB a5 w5 s5=>?_
    rw[pO,tT,gd_no];show cB n Tryz.prog (aA 1 (aA 1 (aA 1 AS))) Q a5 w5;refine fin rfl (fun x hx=>?_) s5;obtain⟨j,hj⟩:=List.getElem?_of_mem hx;exact hpre j x (List.getElem?_eq_some_iff.1 hj).1 hj
 have hb:∀m,m<h.n→(h.new (.cells 28 10 (tW th st ga le re ti pP pL cs rows.length K ck pv nil))).get m=h.get m:=fun m hm=>H.get_new_ne (by omega)
 have gb1:(h.new (.cells 28 10 (tW th st ga le re ti pP pL cs rows.length K ck pv nil))).get h.n=.cells 28 10 (tW th st ga le re ti pP pL cs rows.length K ck pv nil):=H.get_new (by omega);refine jU (d:=AS) gd_rg0 ?_;refine go_box (v:=.agg (tW th st ga le re ti pP pL cs rows.length K ck pv nil)) bW gd_all0 gd_bx gd_sz trivial rfl (by simp) s0 (by omega) fun dQ a1 w1 s1=>?_
 have G1:jO h (h.new (.cells 28 10 (tW th st ga le re ti pP pL cs rows.length K ck pv nil))):=⟨by show h.n≤h.n+1;omega,rfl,rfl,hb⟩;have hn1:(h.new (.cells 28 10 (tW th st ga le re ti pP pL cs rows.length K ck pv nil))).n=h.n+1:=rfl;have s1:St (ρ,h,w) 42 [(1,.ptr h.n 0 0),(0,.agg (tW th st ga le re ti pP pL cs rows.length K ck pv nil))] (h.new (.cells 28 10 (tW th st ga le re ti pP pL cs rows.length K ck pv nil))) dQ a1 w1:=s1;generalize h.new (.cells 28 10 (tW th st ga le re ti pP pL cs rows.length K ck pv nil))=h1 at*;have ftb:∀{h2:H},h.n<h2.n→h2.n≤1000000→Fit h2 (aT [.dead] [0]) (nm [h.n]):=fun lb l6=>aX (R:=[0]) (os:=[.dead]) (ns:=[h.n]) ⟨lb,bE rfl aZ,trivial⟩ (by simp[aQ,SO.lives]) (by simp) l6
 have qO:∀{h2:H},h2.n≤1000000→Fit h2 (aT [] []) (nm []):=fun l6=>aX (R:=[]) (os:=[]) (ns:=[]) trivial (by simp[aQ]) (by simp) l6
 refine iW (i:=1) (j:=1) (m:=1) (k:=0) (K:=0) (ns:=[h.n]) bW (aH _) (gd0_0 th st ga le re ti 0 0 0 0 0 0 none none none none none) trivial (ftb (by omega) (by omega)) rfl rfl rfl (by simp) (by omega) gd_all0 gd_ok1 gd_len0 rfl (.inl rfl) s1 (fun p hp=>by
  have e:cU (nm [h.n]) [(1,SV.ptr 0 0 0)]=[(1,.ptr h.n 0 0)]:=rfl;rw[e]at hp;simp only[List.mem_cons,List.not_mem_nil,or_false]at hp;subst hp;exact .head _) fun iJ a2 w2 s2=>?_
 have s2:St (ρ,h,w) 42 [(1,.ptr h.n 0 0),(2,.bool false)] h1 iJ a2 w2:=s2;have main:cB n Tryz.prog (aA 1 AS) Q a2 w2:=by
  refine tF gd_is1 (jU (d:=oD) gd_rg1 ?_);refine iW (i:=0) (j:=1) (m:=24) (k:=0) (K:=0) (ns:=[h.n]) bW (aH _) (gd1_0 th st ga le re ti 0 0 0 0 0 0 none none none none none) trivial (ftb (by omega) (by omega)) rfl rfl rfl (by simp) (by omega) fB jW (gZ _ _ rfl) rfl (.inl rfl) s2 (fun _ hp=>hp) fun gV a3 w3 s3=>⟨fun e=>(by cases e),fun _ _=>?_⟩
  show GO n Tryz.prog (dX oD) 1 (22+1) (aA 1 oD) _ a3 w3;have s3:St (ρ,h,w) 42 [(1,.ptr h.n 0 0),(2,.bool false),(4,.ptr h.n 0 0)] h1 gV a3 w3:=s3;refine xF bW fB gd_ld1 gd_ag trivial rfl gb1 (by show 8≤10;omega) (by simp) s3 fun a4 s4=>?_
  have s4:St (ρ,h,w) 42 [(5,.agg [.int .i64 th,.int .i64 st,.int .i64 ga,.int .i64 le,.int .i64 re,.int .i64 ti,slO pP,slO pL]),(1,.ptr h.n 0 0),(2,.bool false),(4,.ptr h.n 0 0)] h1 gV a4 w3:=s4;have hP1:∀x,pP=some x→x.1<h1.n∧h1.get x.1=.ints 3 1 PL∧PL.length=x.2.1:=fun x hx=>by obtain⟨a,b,c⟩:=hP x hx;exact⟨by omega,(hb _ a).trans b,c⟩
  have hL1:∀x,pL=some x→x.1<h1.n∧h1.get x.1=.ints 3 1 LL∧LL.length=x.2.1:=fun x hx=>by obtain⟨a,b,c⟩:=hL x hx;exact⟨by omega,(hb _ a).trans b,c⟩
  refine jV (m:=21) fB gd_ca2 rfl (by simp) (great_spec (fun x hx=>(hP1 x hx).1) (fun x hx=>(hL1 x hx).1) (by omega) (by omega)) s4 fun v h2 rB a5 w5 hv s5=>?_
  obtain⟨b1,rfl,rfl⟩:=hv;have s5:St (ρ,h,w) 42 [(6,.bool b1),(5,.agg [.int .i64 th,.int .i64 st,.int .i64 ga,.int .i64 le,.int .i64 re,.int .i64 ti,slO pP,slO pL]),(1,.ptr h.n 0 0),(2,.bool false),(4,.ptr h.n 0 0)] (h1.lay 1 []) rB a5 w5:=s5;have G2:jO h (h1.lay 1 []):=G1.trans .lay;have hn2:(h1.lay 1 []).n=h.n+2:=by show h1.n+1=_;omega
  have gb2:(h1.lay 1 []).get h.n=.cells 28 10 (tW th st ga le re ti pP pL cs rows.length K ck pv nil):=gb1;generalize h1.lay 1 []=h2 at*;cases b1 with
  |true=>
   refine iW (i:=3) (j:=21) (m:=21) (k:=1) (K:=0) (ns:=[]) bW (aH _) (gd2t_0 th st ga le re ti 0 0 0 0 0 0 none none none none none) trivial (qO (by omega)) rfl rfl rfl (by simp) (by omega) fB jW (gZ _ _ rfl) rfl (.inr rfl) s5 (fun p hp=>by
    have e:cU (nm []) [(2,SV.bool false),(6,SV.bool true)]=[(2,.bool false),(6,.bool true)]:=rfl;rw[e]at hp;simp only[List.mem_cons,List.not_mem_nil,or_false]at hp;rcases hp with rfl|rfl<;>simp) fun ρ6 a6 w6 s6=>⟨fun _=>no G2 (by omega) s6,fun e=>by cases e⟩
  |false=>
   refine iW (i:=3) (j:=2) (m:=21) (k:=0) (K:=0) (ns:=[h.n]) bW (aH _) (gd2f_0 th st ga le re ti 0 0 0 0 0 0 none none none none none) trivial (ftb (by omega) (by omega)) rfl rfl rfl (by simp) (by omega) fB jW (gZ _ _ rfl) rfl (.inl rfl) s5 (fun p hp=>by
    have e:cU (nm [h.n]) [(1,SV.ptr 0 0 0),(2,SV.bool false),(6,SV.bool false)]=[(1,.ptr h.n 0 0),(2,.bool false),(6,.bool false)]:=rfl;rw[e]at hp;simp only[List.mem_cons,List.not_mem_nil,or_false]at hp;rcases hp with rfl|rfl|rfl<;>simp) fun ρ6 a6 w6 s6=>⟨fun e=>(by cases e),fun _ _=>?_⟩
   show GO n Tryz.prog (dX oD) 5 (18+1) (aA 1 oD) _ a6 w6;have s6:St (ρ,h,w) 42 [(1,.ptr h.n 0 0),(2,.bool false),(7,.bool false),(8,.ptr h.n 0 0)] h2 ρ6 a6 w6:=s6;refine xF bW fB gd_ld5 gd_ag ⟨7,gd_ds3,by simp⟩ rfl gb2 (by show 8≤10;omega) (by simp) s6 fun a7 s7=>?_
   have s7:St (ρ,h,w) 42 [(9,.agg [.int .i64 th,.int .i64 st,.int .i64 ga,.int .i64 le,.int .i64 re,.int .i64 ti,slO pP,slO pL]),(1,.ptr h.n 0 0),(2,.bool false),(7,.bool false),(8,.ptr h.n 0 0)] h2 ρ6 a7 w6:=s7;have hP2:∀x,pP=some x→x.1<h2.n∧h2.get x.1=.ints 3 1 PL∧PL.length=x.2.1:=fun x hx=>by obtain⟨a,b,c⟩:=hP x hx;exact⟨by omega,(G2.old _ a).trans b,c⟩
   have hL2:∀x,pL=some x→x.1<h2.n∧h2.get x.1=.ints 3 1 LL∧LL.length=x.2.1:=fun x hx=>by obtain⟨a,b,c⟩:=hL x hx;exact⟨by omega,(G2.old _ a).trans b,c⟩
   refine go_callG (m:=17) fB gd_ca6 gd_ds3 (by simp) rfl (by simp) (right_spec hP2 hL2 hPL (by omega) (by omega)) s7 fun v h3 ρ8 a8 w8 hv s8=>?_
   obtain⟨b2,rfl,G3,hn3,facts⟩:=hv;have s8:St (ρ,h,w) 42 [(10,.bool b2),(9,.agg [.int .i64 th,.int .i64 st,.int .i64 ga,.int .i64 le,.int .i64 re,.int .i64 ti,slO pP,slO pL]),(1,.ptr h.n 0 0),(2,.bool false),(7,.bool false),(8,.ptr h.n 0 0)] h3 ρ8 a8 w8:=s8;have gb3:h3.get h.n=.cells 28 10 (tW th st ga le re ti pP pL cs rows.length K ck pv nil):=(G3.old _ (by omega)).trans gb2;have G4:=G2.trans G3;have lb3:h.n<h3.n:=by have:=G3.n;omega
   cases b2 with
   |false=>
    refine iW (i:=7) (j:=17) (m:=17) (k:=1) (K:=0) (ns:=[]) bW (aH _) (gd3f_0 th st ga le re ti 0 0 0 0 0 0 none none none none none) trivial (qO (by omega)) rfl rfl rfl (by simp) (by omega) fB jW (gZ _ _ rfl) rfl (.inr rfl) s8 (fun p hp=>by
     have e:cU (nm []) [(2,SV.bool false),(7,SV.bool false),(10,SV.bool false)]=[(2,.bool false),(7,.bool false),(10,.bool false)]:=rfl;rw[e]at hp;simp only[List.mem_cons,List.not_mem_nil,or_false]at hp;rcases hp with rfl|rfl|rfl<;>simp) fun yK a9 w9 s9=>⟨fun _=>no G4 (by omega) s9,fun e=>by cases e⟩
   |true=>
    obtain⟨f1,f2,f3⟩:=facts rfl;have kn4:∀{X Y:Nat},∀p∈cU (nm [h.n,X,Y]) [(1,SV.ptr 0 0 0),(2,SV.bool false),(7,SV.bool false),(10,SV.bool true)],p∈[(10,SV.bool true),(9,.agg [.int .i64 th,.int .i64 st,.int .i64 ga,.int .i64 le,.int .i64 re,.int .i64 ti,slO pP,slO pL]),(1,.ptr h.n 0 0),(2,.bool false),(7,.bool false),(8,.ptr h.n 0 0)]:=fun{X Y} p hp=>by
     have e:cU (nm [h.n,X,Y]) [(1,SV.ptr 0 0 0),(2,SV.bool false),(7,SV.bool false),(10,SV.bool true)]=[(1,.ptr h.n 0 0),(2,.bool false),(7,.bool false),(10,.bool true)]:=rfl;rw[e]at hp;simp only[List.mem_cons,List.not_mem_nil,or_false]at hp;rcases hp with rfl|rfl|rfl|rfl<;>simp
    have next:∀{yK:bF} {a9:Act} {w9:World},(rows.length:Int)≤th→pv.length≤600→St (ρ,h,w) 42 [(1,.ptr h.n 0 0),(2,.bool false)] h3 yK a9 w9→goX n Tryz.prog (aA 1 (aA 1 oD)) (iH n Tryz.prog (aA 1 (aA 1 AS)) Q) .normal a9 w9:=fun{yK a9 w9} k1 k2 s9=>by
     rw[fE,gd_noI];exact loop h3 yK a9 w9 G4 lb3 (by omega) gb3 ⟨f1,f2,f3,k1,k2⟩ s9
    have lC0:∀x,cs=some x→x.1<h3.n:=fun x hx=>by have:=A0.lt x hx;have:=G4.n;omega
    cases cs with
    |none=>
     cases nil with
     |true=>
      have ft:Fit h3 (aT [.cells 28 10 [.int .i64 th,.any,.any,.any,.any,.any,.any,.any,aC,aC],.dead,.dead] [0,1,2]) (nm [h.n,h.n,h.n]):=aX (R:=[0,1,2]) (os:=[.cells 28 10 [.int .i64 th,.any,.any,.any,.any,.any,.any,.any,aC,aC],.dead,.dead]) (ns:=[h.n,h.n,h.n]) ⟨lb3,bE rfl (wF gb3 (Z:=iI [false,true,true,true,true,true,true,true,false,false] _) rfl (dI _ _) (eC _ _ sS)),lb3,bE rfl aZ,lb3,bE rfl aZ,trivial⟩ (by simp[aQ,SO.lives]) (by simp) (by omega);by_cases c1:(((0:Nat):Int):Int)>th
      ·refine iW (i:=7) (j:=17) (m:=17) (k:=1) (K:=0) (ns:=[h.n,h.n,h.n]) bW (aH _) (gd3_nn_0 th st ga le re ti 0 0 0 0 0 0 none none none none none) (aU (decide_eq_true c1) trivial) ft rfl rfl rfl (by simp) (by omega) fB jW (gZ _ _ rfl) rfl (.inr rfl) s8 kn4 fun yK a9 w9 s9=>⟨fun _=>no G4 (by omega) (s9.sub fun p hp=>by simp only[List.mem_cons,List.not_mem_nil,or_false]at hp;subst hp;exact .tail _ (.head _)),fun e=>by cases e⟩
      ·refine iW (i:=7) (j:=17) (m:=17) (k:=1) (K:=0) (ns:=[h.n,h.n,h.n]) bW (aH _) (gd3_nn_1 th st ga le re ti 0 0 0 0 0 0 none none none none none) (aU (decide_eq_false c1) trivial) ft rfl rfl rfl (by simp) (by omega) fB jW (gZ _ _ rfl) rfl (.inr rfl) s8 kn4 fun yK a9 w9 s9=>⟨fun _=>next (by rw[A0.no rfl];simp only[List.length_nil];omega) (by rw[tJ rfl];simp) s9,fun e=>by cases e⟩
     |false=>
      have lK:K<h3.n:=by have:=hK rfl;have:=G4.n;omega
      have ft:Fit h3 (aT [.cells 28 10 [.int .i64 th,.any,.any,.any,.any,.any,.any,.any,aC,.slice 2 0 pv.length ck],.dead,.dead] [0,1,2]) (nm [h.n,h.n,K]):=aX (R:=[0,1,2]) (os:=[.cells 28 10 [.int .i64 th,.any,.any,.any,.any,.any,.any,.any,aC,.slice 2 0 pv.length ck],.dead,.dead]) (ns:=[h.n,h.n,K]) ⟨lb3,bE rfl (wF gb3 (Z:=iI [false,true,true,true,true,true,true,true,false,false] _) rfl (dI _ _) (eC _ _ sS)),lb3,bE rfl aZ,lK,bE rfl aZ,trivial⟩ (by simp[aQ,SO.lives]) (by simp) (by omega);by_cases c1:(((0:Nat):Int):Int)>th
      ·refine iW (i:=7) (j:=17) (m:=17) (k:=1) (K:=0) (ns:=[h.n,h.n,K]) bW (aH _) (gd3_ns_0 th st ga le re ti 0 0 0 pv.length 0 0 none none none ck none) (aU (decide_eq_true c1) trivial) ft rfl rfl rfl (by simp) (by omega) fB jW (gZ _ _ rfl) rfl (.inr rfl) s8 kn4 fun yK a9 w9 s9=>⟨fun _=>no G4 (by omega) (s9.sub fun p hp=>by simp only[List.mem_cons,List.not_mem_nil,or_false]at hp;subst hp;exact .tail _ (.head _)),fun e=>by cases e⟩
      ·by_cases c2:(pv.length:Int)>600
       ·refine iW (i:=7) (j:=17) (m:=17) (k:=1) (K:=0) (ns:=[h.n,h.n,K]) bW (aH _) (gd3_ns_1 th st ga le re ti 0 0 0 pv.length 0 0 none none none ck none) (aU (decide_eq_false c1) (aU (decide_eq_true c2) trivial)) ft rfl rfl rfl (by simp) (by omega) fB jW (gZ _ _ rfl) rfl (.inr rfl) s8 kn4 fun yK a9 w9 s9=>⟨fun _=>no G4 (by omega) (s9.sub fun p hp=>by simp only[List.mem_cons,List.not_mem_nil,or_false]at hp;subst hp;exact .tail _ (.head _)),fun e=>by cases e⟩
       ·refine iW (i:=7) (j:=17) (m:=17) (k:=1) (K:=0) (ns:=[h.n,h.n,K]) bW (aH _) (gd3_ns_2 th st ga le re ti 0 0 0 pv.length 0 0 none none none ck none) (aU (decide_eq_false c1) (aU (decide_eq_false c2) trivial)) ft rfl rfl rfl (by simp) (by omega) fB jW (gZ _ _ rfl) rfl (.inr rfl) s8 kn4 fun yK a9 w9 s9=>⟨fun _=>next (by rw[A0.no rfl];simp only[List.length_nil];omega) (by omega) s9,fun e=>by cases e⟩
    |some y=>
     obtain⟨CL,cc⟩:=y;have lCL:CL<h3.n:=lC0 _ rfl;cases nil with
     |true=>
      have ft:Fit h3 (aT [.cells 28 10 [.int .i64 th,.any,.any,.any,.any,.any,.any,.any,.slice 1 0 rows.length cc,aC],.dead,.dead] [0,1,2]) (nm [h.n,CL,h.n]):=aX (R:=[0,1,2]) (os:=[.cells 28 10 [.int .i64 th,.any,.any,.any,.any,.any,.any,.any,.slice 1 0 rows.length cc,aC],.dead,.dead]) (ns:=[h.n,CL,h.n]) ⟨lb3,bE rfl (wF gb3 (Z:=iI [false,true,true,true,true,true,true,true,false,false] _) rfl (dI _ _) (eC _ _ sS)),lCL,bE rfl aZ,lb3,bE rfl aZ,trivial⟩ (by simp[aQ,SO.lives]) (by simp) (by omega);by_cases c1:(rows.length:Int)>th
      ·refine iW (i:=7) (j:=17) (m:=17) (k:=1) (K:=0) (ns:=[h.n,CL,h.n]) bW (aH _) (gd3_sn_0 th st ga le re ti 0 0 rows.length 0 0 0 none none cc none none) (aU (decide_eq_true c1) trivial) ft rfl rfl rfl (by simp) (by omega) fB jW (gZ _ _ rfl) rfl (.inr rfl) s8 kn4 fun yK a9 w9 s9=>⟨fun _=>no G4 (by omega) (s9.sub fun p hp=>by simp only[List.mem_cons,List.not_mem_nil,or_false]at hp;subst hp;exact .tail _ (.head _)),fun e=>by cases e⟩
      ·refine iW (i:=7) (j:=17) (m:=17) (k:=1) (K:=0) (ns:=[h.n,CL,h.n]) bW (aH _) (gd3_sn_1 th st ga le re ti 0 0 rows.length 0 0 0 none none cc none none) (aU (decide_eq_false c1) trivial) ft rfl rfl rfl (by simp) (by omega) fB jW (gZ _ _ rfl) rfl (.inr rfl) s8 kn4 fun yK a9 w9 s9=>⟨fun _=>next (by omega) (by rw[tJ rfl];simp) s9,fun e=>by cases e⟩
     |false=>
      have lK:K<h3.n:=by have:=hK rfl;have:=G4.n;omega
      have ft:Fit h3 (aT [.cells 28 10 [.int .i64 th,.any,.any,.any,.any,.any,.any,.any,.slice 1 0 rows.length cc,.slice 2 0 pv.length ck],.dead,.dead] [0,1,2]) (nm [h.n,CL,K]):=aX (R:=[0,1,2]) (os:=[.cells 28 10 [.int .i64 th,.any,.any,.any,.any,.any,.any,.any,.slice 1 0 rows.length cc,.slice 2 0 pv.length ck],.dead,.dead]) (ns:=[h.n,CL,K]) ⟨lb3,bE rfl (wF gb3 (Z:=iI [false,true,true,true,true,true,true,true,false,false] _) rfl (dI _ _) (eC _ _ sS)),lCL,bE rfl aZ,lK,bE rfl aZ,trivial⟩ (by simp[aQ,SO.lives]) (by simp) (by omega);by_cases c1:(rows.length:Int)>th
      ·refine iW (i:=7) (j:=17) (m:=17) (k:=1) (K:=0) (ns:=[h.n,CL,K]) bW (aH _) (gd3_ss_0 th st ga le re ti 0 0 rows.length pv.length 0 0 none none cc ck none) (aU (decide_eq_true c1) trivial) ft rfl rfl rfl (by simp) (by omega) fB jW (gZ _ _ rfl) rfl (.inr rfl) s8 kn4 fun yK a9 w9 s9=>⟨fun _=>no G4 (by omega) (s9.sub fun p hp=>by simp only[List.mem_cons,List.not_mem_nil,or_false]at hp;subst hp;exact .tail _ (.head _)),fun e=>by cases e⟩
      ·by_cases c2:(pv.length:Int)>600
       ·refine iW (i:=7) (j:=17) (m:=17) (k:=1) (K:=0) (ns:=[h.n,CL,K]) bW (aH _) (gd3_ss_1 th st ga le re ti 0 0 rows.length pv.length 0 0 none none cc ck none) (aU (decide_eq_false c1) (aU (decide_eq_true c2) trivial)) ft rfl rfl rfl (by simp) (by omega) fB jW (gZ _ _ rfl) rfl (.inr rfl) s8 kn4 fun yK a9 w9 s9=>⟨fun _=>no G4 (by omega) (s9.sub fun p hp=>by simp only[List.mem_cons,List.not_mem_nil,or_false]at hp;subst hp;exact .tail _ (.head _)),fun e=>by cases e⟩
       ·refine iW (i:=7) (j:=17) (m:=17) (k:=1) (K:=0) (ns:=[h.n,CL,K]) bW (aH _) (gd3_ss_2 th st ga le re ti 0 0 rows.length pv.length 0 0 none none cc ck none) (aU (decide_eq_false c1) (aU (decide_eq_false c2) trivial)) ft rfl rfl rfl (by simp) (by omega) fB jW (gZ _ _ rfl) rfl (.inr rfl) s8 kn4 fun yK a9 w9 s9=>⟨fun _=>next (by omega) (by omega) s9,fun e=>by cases e⟩
 exact⟨fun _=>main,fun _ _=>main⟩
end
def Exa(s:SV)(u:Value):Prop:=(∀ρ,VR ρ s u)∧∀ρ u',VR ρ s u'→u'=u
theorem exas_ex:∀(us:List Value),(∀u∈us,∃s:SV,Exa s u)→∃l:List SV,(∀ρ,bM ρ l us)∧∀ρ us',bM ρ l us'→us'=us
 |[],_=>⟨[],fun _=>by simp[bM],fun ρ us' h=>by cases us' with|nil=>rfl|cons _ _=>simp[bM]at h⟩
 |u::us,h=>by
  obtain⟨s,h1,h1'⟩:=h u (by simp);obtain⟨l,h2,h2'⟩:=exas_ex us fun v hv=>h v (by simp[hv])
  refine⟨s::l,fun ρ=>by simp only[bM];exact⟨h1 ρ,h2 ρ⟩,fun ρ us' h=>?_⟩;cases us' with
  |nil=>simp[bM]at h
  |cons u' us'=>
   simp only[bM]at h;rw[h1' ρ u' h.1,h2' ρ us' h.2]
theorem iQ{v:Value}(h:v.oneCell'=true):Exa (.val v) v:=⟨fun ρ=>by simp only[VR,true_and];exact h,fun ρ u' hu=>by simp only[VR]at hu;exact hu.1⟩
theorem exa_ex(u:Value):∃s:SV,Exa s u:=by
 match u with
 |.agg cs=>
  obtain⟨l,h,h'⟩:=exas_ex cs.toList fun v hv=>exa_ex v
  refine⟨.agg l,fun ρ=>by simp only[VR];exact⟨cs,rfl,h ρ⟩,fun ρ u' hu=>?_⟩;simp only[VR]at hu;obtain⟨gF,rfl,hv⟩:=hu;exact congrArg _ (Array.ext' (h' ρ _ hv))
 |.tuple cs=>
  obtain⟨l,h,h'⟩:=exas_ex cs.toList fun v hv=>exa_ex v
  refine⟨.tup l,fun ρ=>by simp only[VR];exact⟨cs,rfl,h ρ⟩,fun ρ u' hu=>?_⟩;simp only[VR]at hu;obtain⟨gF,rfl,hv⟩:=hu;exact congrArg _ (Array.ext' (h' ρ _ hv))
 |.bool b=>exact⟨_,iQ rfl⟩
 |.int k n=>exact⟨_,iQ rfl⟩
 |.float k b=>exact⟨_,iQ rfl⟩
 |.complex k a b=>exact⟨_,iQ rfl⟩
 |.string b=>exact⟨_,iQ rfl⟩
 |.pointer b=>exact⟨_,iQ rfl⟩
 |.slice a b c=>exact⟨_,iQ rfl⟩
 |.map b=>exact⟨_,iQ rfl⟩
 |.chan b=>exact⟨_,iQ rfl⟩
 |.func a b c=>exact⟨_,iQ rfl⟩
 |.nilFunc=>exact⟨_,iQ rfl⟩
 |.iface a b=>exact⟨_,iQ rfl⟩
 |.nilIface=>exact⟨_,iQ rfl⟩
termination_by SizeOf.sizeOf u
decreasing_by
 all_goals
  have:=Array.sizeOf_lt_of_mem (Array.mem_toList_iff.1 hv)
  simp_wf
  omega
section
variable{P:Program}{n:Nat}{Q:Exit→Act→World→Prop}{b:mX}{ρ:bF}{a:Act}{w:World}{N:Nat}{kn:List (Nat×SV)}{h:H}
theorem St.arX{r:Nat→Nat}(s:St b N (cU r kn) h ρ a w):∃x:Nat→SV,AR (ρ.via r) (cJ N kn x) a∧∀t ρ u,VR ρ (x t) u→u=a.tmps.getD t Go.undef:=by
 have hx:∀k,∃s:SV,Exa s (a.tmps.getD k Go.undef):=fun k=>exa_ex _
 refine⟨fun k=>Classical.choose (hx k),⟨s.le,s.size,fun k=>?_,fun _ h=>(by cases h),s.defers⟩,fun t ρ u h=>(Classical.choose_spec (hx t)).2 ρ u h⟩;rw[sR s.le];by_cases hk:k<N
 ·rw[if_pos hk]
  rcases lk_or kn k (Classical.choose (hx k))with⟨p,h1,h2,h3⟩|h1
  ·rw[h3,←h2]
   exact(jH (oH ρ r)).2 (s.vs (p.1,p.2.ren r) (List.mem_map.2 ⟨p,h1,rfl⟩))
  ·rw[h1];exact(Classical.choose_spec (hx k)).1 _
 ·rw[if_neg hk,Array.getD_eq_getD_getElem?,Array.getElem?_eq_none (by rw[s.size];omega)]
  simp only[Option.getD_none,iK,VR];exact⟨#[],rfl,by simp[bM]⟩
def cM(ts ks ls fs:List Nat)(r:SX×SA×H):Out (Nat×SX×List Nat×List SV×List SV×Nat×List SO):=stN 20 r.2.1.n fun k=>uJ (ts.map r.2.1.get) fun vs=>stN 20 r.2.2.n fun n=>seeF r.2.2 ls fs fun os=>.ret (k,r.1,r.2.1.marks,vs,ks.map r.2.1.get,n,os)
theorem seeZ_eq{ts ks ls fs:List Nat}{r:SX×SA×H}{k:Nat}{x:SX}{ms:List Nat}{vs us:List SV}{n:Nat}{os:List SO}(h:(cM ts ks ls fs r).go=some (k,x,ms,vs,us,n,os)):r.2.1.n=k∧r.1=x∧r.2.1.marks=ms∧ts.map r.2.1.get=vs∧ks.map r.2.1.get=us∧r.2.2.n=n∧rN (ls.map r.2.2.get) os:=by
 unfold cM at h;rw[iD,kQ,iD]at h;obtain⟨oV,h1,h2⟩:=yH ls fs (fun os=>.ret (r.2.1.n,r.1,r.2.1.marks,ts.map r.2.1.get,ks.map r.2.1.get,r.2.2.n,os)) h;have:=Out.ret_go h2;injection this with e1 e2;injection e2 with e2 e3;injection e3 with e3 e4;injection e4 with e4 e5;injection e5 with e5 e6;injection e6 with e6 e7;subst e7;exact⟨e1,e2,e3,e4,e5,e6,h1⟩
def keepK(ks:List Nat)(kn:List (Nat×SV)):List (Nat×SV):=kn.filter fun p=>ks.contains p.1
theorem jX{S:cI}{objs os:List SO}{R ns ts ks ls fs:List Nat}{nn M K i j m k:Nat}{bY:Bool}{ops:Array Oper}{d:Option Code}{zU:List (Nat×SV)}{ps:Way}{cs:kB}{x':SX}{vs:List SV}
 (X:wV P)(hS:cX P S)(T:∀x:Nat→SV,follow ps ((bB P (runK P S M) bY ops i j k d (cJ N zU x) (aT objs R)).bind (cM ts ks ls fs))=some (cs,(N,x',[],vs,ks.map x,nn,os)))(hc:holds cs)
 (ft:Fit h (aT objs R) (nm ns))(eK:eU R objs=true)(mK:fO objs.length R nn ls=true)(dM:os.all SO.plain=true)(hK:nn-objs.length≤K)(h6:h.n+K≤1000000)
 (dS:ops.toList.all (fun o=>dR o.op)=true)(hd:dL d=true)(hm:Nat.beq (i+m) ops.toList.length=true)(hj:Nat.ble j m=true)(hk:k=0∨j=m)(s:St b N kn h ρ a w)(hkn:∀p∈cU (nm ns) zU,p∈kn)
 (hq:∀aW a' w',St b N (ts.zip (SV.rens (nx h.n objs.length [] ns) vs)++keepK ks kn) (h.lay K (laid (nx h.n objs.length [] ns) ls os)) aW a' w'→(j=m→goX n P (aA k d) Q x' a' w')∧(k=0→x'=.normal→GO n P ops (i+j) (m-j) d Q a' w')):GO n P ops i m d Q a w:=by
 obtain⟨x,ha,hx⟩:=(s.sub hkn).arX;obtain⟨⟨y,iS,s'⟩,g1,g2⟩:=Out.bind_go (dT _ _ _ _ (T x) hc);obtain⟨e0,e1,e2,e3,e6,e4,e5⟩:=seeZ_eq g2;simp only at e0 e1 e2 e3 e4 e5 e6;subst e1;refine yI X (kR X hS M) (fun o ho=>List.all_eq_true.1 dS o ho) hd (Nat.eq_of_beq_eq_true hm) (Nat.le_of_ble_eq_true hj) hk g1 ha (ft.hr s.hr) fun uI a' w' p1 p2 p3=>?_
 obtain⟨j1,j2,j3⟩:=nV (j:=[]) e5 ft eK mK dM hK (by simp) h6 s.hr p2 p3 e4 rfl;refine hq _ a' w' ⟨s.le,by rw[p1.size];exact e0,by rw[p1.defers,e2];rfl,?_,s.hr0,j1,s.fr.trans s.hr0 s.hr j2⟩;intro p hp;rcases List.mem_append.1 hp with hp|hp
 ·rw[←e3,SV.rens_map,List.map_map]at hp
  have:∀(ts:List Nat),p∈ts.zip (ts.map (SV.ren (nx h.n objs.length [] ns)∘iS.get))→p.2=(iS.get p.1).ren (nx h.n objs.length [] ns):=by
   intro ts
   induction ts with
   |nil=>intro h;simp at h
   |cons t ts ih=>
    intro h;rw[List.map_cons,List.zip_cons_cons]at h;rcases List.mem_cons.1 h with e|h
    ·rw[e];rfl
    ·exact ih h
  rw[this ts hp];exact(jH j3).1 (p1.at_ p.1)
 ·obtain⟨h1,h2⟩:=List.mem_filter.1 hp
  have hm:p.1∈ks:=by simpa using h2
  have hg:iS.get p.1=x p.1:=by
   have:=List.map_inj_left.1 e6 p.1 hm;exact this
  have hv:=p1.at_ p.1;rw[hg]at hv;rw[hx p.1 _ _ hv];exact(s.vs p h1).mono j2.le
theorem bD{S:cI}{objs os:List SO}{R ns ts ks ls fs:List Nat}{nn M K k:Nat}{bY:Bool}{d:Option Code}{zU:List (Nat×SV)}{ps:Way}{cs:kB}{x':SX}{vs:List SV}
 (X:wV P)(hS:cX P S)(T:∀x:Nat→SV,follow ps ((bB P (runK P S M) bY #[] 0 0 k d (cJ N zU x) (aT objs R)).bind (cM ts ks ls fs))=some (cs,(N,x',[],vs,ks.map x,nn,os)))(hc:holds cs)
 (ft:Fit h (aT objs R) (nm ns))(eK:eU R objs=true)(mK:fO objs.length R nn ls=true)(dM:os.all SO.plain=true)(hK:nn-objs.length≤K)(h6:h.n+K≤1000000)
 (hd:dL d=true)(s:St b N kn h ρ a w)(hkn:∀p∈cU (nm ns) zU,p∈kn)
 (hq:∀aW a' w',St b N (ts.zip (SV.rens (nx h.n objs.length [] ns) vs)++keepK ks kn) (h.lay K (laid (nx h.n objs.length [] ns) ls os)) aW a' w'→goX n P (aA k d) Q x' a' w'):cB n P d Q a w:=
 jX (m:=0) (i:=0) (j:=0) X hS T hc ft eK mK dM hK h6 rfl hd rfl rfl (.inr rfl) s hkn fun aW a' w' h=>⟨fun _=>hq aW a' w' h,fun e e2=>by
  subst e;subst e2;have:=hq aW a' w' h;exact this⟩
def mvO(o:Oper):Option (Nat×Option Nat):=match o with
 |{op:=.move (.tmp x),dst:=dst,guard:=none, .. }=>some (x,dst)
 |{op:=.assign (.tmp x),dst:=dst,guard:=none, .. }=>some (x,dst)
 |_=>none
theorem lN{ops:Array Oper}{i m x:Nat}{d:Option Code}{dst:Option Nat}{v:SV}(X:wV P)(dS:ops.toList.all (fun o=>dR o.op)=true)(hc:(ops.toList[i]?).bind mvO=some (x,dst))(hx:evK kn (.tmp x)=some v)(lO:∀t,dst=some t→t<N)(s:St b N kn h ρ a w)
 (hq:∀a',St b N (xO dst v kn) h ρ a' w→GO n P ops (i+1) m d Q a' w):GO n P ops i (m+1) d Q a w:=by
 obtain⟨o,ho,lU⟩:=Option.bind_eq_some_iff.1 hc;unfold mvO at lU;split at lU
 ·injection lU with e
  injection e with e1 e2;subst e1;subst e2;exact go_ev (bY:=false) X dS ho trivial lO s (by simp only[ev,lV hx];rfl) hq
 ·injection lU with e
  injection e with e1 e2;subst e1;subst e2;exact go_ev (bY:=false) X dS ho trivial lO s (by simp only[ev,lV hx];rfl) hq
 ·cases lU
def isOne(P:Program)(t:Nat):Bool:=match P.underlying t with
 |some d=>!xG d
 |none=>false
theorem go_ld1{ops:Array Oper}{i m t x l f tt sz:Nat}{d:Option Code}{dst:Option Nat}{g:Option (Nat×Bool)}{c:List SV}{v:SV}(X:wV P)(dS:ops.toList.all (fun o=>dR o.op)=true)(hc:(ops.toList[i]?).bind ldO=some (t,x,dst,g))(hk:isOne P t=true)(hg:gdK ops kn g)(hx:evK kn (.tmp x)=some (.ptr l 0 f))(kX:h.get l=.cells tt sz c)(hv:c[f]?=some v)(lO:∀t,dst=some t→t<N)(s:St b N kn h ρ a w)
 (hq:∀a',St b N (xO dst v kn) h ρ a' w→GO n P ops (i+1) m d Q a' w):GO n P ops i (m+1) d Q a w:=by
 obtain⟨o,ho,lU⟩:=Option.bind_eq_some_iff.1 hc;unfold ldO at lU;split at lU
 ·injection lU with e
  injection e with e1 e2;injection e2 with e2 e3;injection e3 with e3 e4;subst e1;subst e2;subst e3;subst e4;refine go_ev (bY:=false) X dS ho hg lO s ?_ hq;simp only[ev,lV hx];unfold isOne at hk;split at hk
  ·rename_i dd hd
   have ha:xG dd=false:=by simpa using hk
   have ix0:ix sz 0 f=f:=by
    unfold ix;split
    ·split<;>omega
    ·omega
   simp only[load,hd,ha,rd,rdO,kX,ix0,hv];rfl
  ·cases hk
 ·cases lU
end
end Go.Proofs.YtnkcbfgfkadoaaaGreat.Sx
